/- Lemmas of the claim RulesGaps, printed by a program of the claimant and by hand. No statement of the seat is proved here. -/
import Derived.Test.YtaihlcdkcampbaaGreatDoorA3
set_option linter.unusedVariables false
set_option linter.unusedSimpArgs false
set_option linter.unusedSectionVars false
set_option maxHeartbeats 4000000
set_option maxRecDepth 100000
namespace Go.Proofs.YtaihlcdkcampbaaGreatDoor
open Go.Proofs
def ref06_Shadowed_L0 (N : Nat) (x0 : (List Clause)) (x1 : (List Span)) (r21 : Bool) (r32 : Bool) (r43 : List Bool) (r53 : (List (List Int))) : (Int × List Bool) → Option (Flow ((List Int) × Int) (Int × List Bool)) := fun s64 =>
 (bif (decide (s64.1 < (r53.length : Int))) then ((idx r53 s64.1).bind fun x89 => ((ref06_first N x0 x89).bind fun r103 => ((idx s64.2 (W64 (r103 + 1))).bind fun x111 => some (.next ((W64 (s64.1 + 1)), (s64.2.set ((W64 (r103 + 1)) : Int).toNat (true))))))) else some (.done (s64.1, s64.2)))
def ref06_Shadowed_L1 (N : Nat) (x0 : (List Clause)) (x1 : (List Span)) (r21 : Bool) (r32 : Bool) (r43 : List Bool) (r53 : (List (List Int))) (s73 : (Int × List Bool)) : (List Int × Int) → Option (Flow ((List Int) × Int) (List Int × Int)) := fun s135 =>
 (bif (decide (s135.2 < (x0.length : Int))) then ((idx s73.2 (W64 (s135.2 + 1))).bind fun x159 => ((bif (!x159) then ((apnd s135.1 [s135.2]).bind fun r190 => some r190) else some s135.1).bind fun j174 => some (.next (j174, (W64 (s135.2 + 1)))))) else some (.done (s135.1, s135.2)))
def ref06_Shadowed (N : Nat) (x0 : (List Clause)) (x1 : (List Span)) : Option ((List Int) × Int) :=
 ((ref06_listed N x0).bind fun r21 => (bif (!r21) then some (([] : List Int), 61) else ((ref06_Domains N x1).bind fun r32 => (bif (!r32) then some (([] : List Int), 64) else ((mk0 false (W64 ((x0.length : Int) + 1))).bind fun r43 => ((ref06_All N x1).bind fun r53 => ((iter (ref06_Shadowed_L0 N x0 x1 r21 r32 r43 r53) N (0, r43)).bind fun o => o.k (fun r => some r) (fun s73 => ((iter (ref06_Shadowed_L1 N x0 x1 r21 r32 r43 r53 s73) N (([] : List Int), 0)).bind fun o => o.k (fun r => some r) (fun s144 => some (s144.1, 0)))))))))))
theorem co_ref06_Shadowed : CallOk Tryz.prog 69 := fun _ _ => by kernel_rfl
theorem c_ref06_Shadowed (N : Nat) (w0 : World) (F0 : Mem) (hF : ∀ b o, F0 b = some o → w0.heap[b]? = some o) (x0 : (List Clause)) (a0_0 : Option Addr) (n0_0 : Nat) (hb0_0 : LC x0.length n0_0) (hs0_0 : SlA tClause F0 a0_0 x0) (x1 : (List Span)) (a1_0 : Option Addr) (n1_0 : Nat) (hb1_0 : LC x1.length n1_0) (hs1_0 : SlA tSpan F0 a1_0 x1) (r : ((List Int) × Int)) (h : ref06_Shadowed N x0 x1 = some r) :
  Calls Tryz.prog 69 ([(.slice a0_0 x0.length n0_0), (.slice a1_0 x1.length n1_0)] : List Value).toArray w0 (FRet w0 F0 fun F' v => ∃ (aq0_0 : Option Addr) (nq0_0 : Nat), v = (.tuple #[(.slice aq0_0 r.1.length nq0_0), (vi r.2)]) ∧ LC r.1.length nq0_0 ∧ SlA tInt F' aq0_0 r.1) := by
 have hs0 := HS.start hF
 refine Go 55 Tryz.func69 ?_
 refine Sq (Rg [0, 1] ?_)
 refine Vs 2 ?_
 refine Nss ?_
 refine Sq (Rg [0, 1, 2] ?_)
 refine Vs 1 ?_
 obtain ⟨r21, hr22, h23⟩ := bind_some h
 refine Cl' co_ref06_listed hs0 (c_ref06_listed N w0 F0 hs0.pers (x0) a0_0 n0_0 hb0_0 hs0_0 _ hr22) ?_
 rintro _ F1 w25 hs26 le27 rfl
 refine Vs 1 ?_
 refine Nt ?_
 refine Cd h23 (fun hb29 h30 => ?_) (fun hb29 h31 => ?_)
 ·refine Sq (Rg [0, 1] ?_)
  refine Vs 2 ?_
  refine Nt ?_
  refine Rt ?_
  refine thenQ_ret ?_
  obtain rfl := some_inj h30
  exact Re [(.slice none ([] : List Int).length 0), (vi 61)] hs26 ⟨none, 0, rfl, LC.nil, (.inl rfl)⟩
 ·refine Sc ?_
  refine thenQ_nrm ?_
  refine Sq ?_
  refine Sq (Rg [0, 1, 2] ?_)
  refine Vs 1 ?_
  obtain ⟨r32, hr33, h34⟩ := bind_some h31
  refine Cl' co_ref06_Domains hs26 (c_ref06_Domains N w25 F1 hs26.pers (x1) a1_0 n1_0 hb1_0 (SlA.mono hs1_0 le27) _ hr33) ?_
  rintro _ F2 w36 hs37 le38 rfl
  refine Vs 1 ?_
  refine Nt ?_
  refine Cd h34 (fun hb40 h41 => ?_) (fun hb40 h42 => ?_)
  ·refine Sq (Rg [0, 1] ?_)
   refine Vs 2 ?_
   refine Nt ?_
   refine Rt ?_
   refine thenQ_ret ?_
   obtain rfl := some_inj h41
   exact Re [(.slice none ([] : List Int).length 0), (vi 64)] hs37 ⟨none, 0, rfl, LC.nil, (.inl rfl)⟩
  ·refine Sc ?_
   refine thenQ_nrm ?_
   refine Sq (Rg [0, 1, 2, 3, 4] ?_)
   refine Vs 3 ?_
   obtain ⟨r43, hm44, h45⟩ := bind_some h42
   refine RWP.makeSlice (dst := (some 20)) (ty := 79) (g := none) (by kernel_rfl) rfl (x := (.tmp 19)) (y := (.tmp 19)) (t := 79) (by_ := 1) (z := (.bool false)) (T := tBool) (E := 4) rfl rfl (by kernel_rfl) (by decide) (by kernel_rfl) (z0 := false) (fun _ => rfl) (by decide) hs37 hm44 (fun b46 n47 C48 w49 (hs50 : HS w0 F0 w49 F2 [(some b46, .cells C48 4 (0, 0))]) hr51 => ?_)
   refine Vs 1 ?_
   refine Nss (Rg [0, 1, 2] ?_)
   refine Vs 1 ?_
   obtain ⟨r53, hr54, h55⟩ := bind_some h45
   refine Cl' co_ref06_All hs50 (c_ref06_All N w49 F2 hs50.pers (x1) a1_0 n1_0 hb1_0 (SlA.mono hs1_0 (le27.trans le38)) _ hr54) ?_
   rintro _ F3 w57 hs58 le59 ⟨ar53_0_0, nr53_0_0, rfl, hbr53_0_0, hsr53_0_0⟩
   refine Vs 1 ?_
   refine Nss ?_
   refine Sq (Rg [0] ?_)
   refine Vs 1 ?_
   refine Nt ?_
   obtain ⟨o61, ho62, h63⟩ := bind_some h55
   refine CWP.cut (fun f w => ∃ (s73 : (Int × List Bool)) (F5 : Mem) (es73_1 : Option Nat × Obj), o61 = .done s73 ∧ HS w0 F0 w F5 [es73_1] ∧ Mem.le F3 F5 ∧ FI f [] [(0, (.slice a0_0 x0.length n0_0)), (6, (.slice (some ⟨b46, 0, none⟩) s73.2.length n47))] ∧ RowR tBool 4 F5 (some ⟨b46, 0, none⟩) n47 s73.2 es73_1) ?_ ?_
   ·refine Bk ?_
    refine CWP.loop (by kernel_rfl) (fun m f w => ∃ (s64 : (Int × List Bool)) (F4 : Mem) (es64_1 : Option Nat × Obj), iter (ref06_Shadowed_L0 N x0 x1 r21 r32 r43 r53) m s64 = some o61 ∧ HS w0 F0 w F4 [es64_1] ∧ Mem.le F3 F4 ∧ FI f [] [(0, (.slice a0_0 x0.length n0_0)), (6, (.slice (some ⟨b46, 0, none⟩) s64.2.length n47)), (7, (.slice ar53_0_0 r53.length nr53_0_0)), (8, (vi s64.1))] ∧ RowR tBool 4 F4 (some ⟨b46, 0, none⟩) n47 s64.2 es64_1) N ⟨(0, r43), F3, (some b46, .cells C48 4 (0, 0)), ho62, hs58, (Mem.le.refl _), fI, (hr51.mono le59)⟩ ?_
    rintro m80 f w65 ⟨s64, F4, es64_1, hit81, hs66, le67, ⟨_, rfl⟩, hrs64_1⟩
    obtain ⟨m82, fl83, rfl, hb84, hnx85⟩ := iter_step hit81
    refine Sq ?_
    refine Sq (Rg [0, 1, 2, 3] ?_)
    refine Vs 4 ?_
    refine Nt ?_
    refine Cd hb84 (fun hb86 h87 => ?_) (fun hb86 h88 => ?_)
    ·refine Sc ?_
     refine thenQ_nrm ?_
     refine Sq ?_
     refine Bk ?_
     refine Rg [0, 1, 2, 3, 4, 5, 6, 7, 8, 9] ?_
     refine Vs 4 ?_
     obtain ⟨x89, hx90, h92⟩ := bind_some h87
     obtain ⟨hi91, hx90'⟩ := idx_spec hx90
     obtain ⟨b93, o94, C95, E96, fz97, rfl, hF99, hE100⟩ := SlA.open (SlA.mono hsr53_0_0 le67) hx90'
     obtain ⟨ae101_0, ne101_0, hc102, hbe101_0, hse101_0⟩ := hE100 _ _ hx90'
     refine Ix hi91 ?_
     refine Lx 0 (hs66.pers _ _ hF99) hc102 ?_
     obtain ⟨r103, hr104, h105⟩ := bind_some h92
     refine Cl' co_ref06_first hs66 (c_ref06_first N w65 F4 hs66.pers (x0) a0_0 n0_0 hb0_0 (SlA.mono hs0_0 (((le27.trans le38).trans le59).trans le67)) (x89) ae101_0 ne101_0 hbe101_0 hse101_0 _ hr104) ?_
     rintro _ F6 w107 hs108 le109 rfl
     refine Vs 1 ?_
     obtain ⟨x111, hx112, h114⟩ := bind_some h105
     obtain ⟨hi113, hx112'⟩ := idx_spec hx112
     obtain ⟨b115, C116, ha117, rfl, hE119⟩ := RowR.open (hrs64_1.mono le109) hx112'
     cases ha117
     have hr120 := (hrs64_1.mono le109)
     have hc122 := hE119 _ _ hx112'
     refine Ix0 hi113 ?_
     refine RWP.storeRow (ty := 0) (g := none) (by kernel_rfl) rfl (x := (.tmp 37)) (y := (.const (.bool true))) (t := 4) (v := (.bool true)) (gg := false) (b := b46) (j := ((W64 (r103 + 1)) : Int).toNat) (C := C116) (T := tBool) (E := 4) (u := (true)) rfl rfl (by kernel_rfl) hs108 (k := 0) rfl hr120 hx112' rfl rfl (fun C123 w124 (hs125 : HS w0 F0 w124 F6 [(some b46, .cells C123 4 (0, 0))]) hr126 => ?_)
     refine RWP.nil ?_
     refine blockQ_nrm ?_
     refine thenQ_nrm ?_
     refine Rg [0, 1, 2] ?_
     refine Vs 3 ?_
     refine RWP.nil ?_
     have hn127 := iter_next h114 hnx85
     exact ⟨m82, Nat.lt_succ_self _, ((W64 (s64.1 + 1)), (s64.2.set ((W64 (r103 + 1)) : Int).toNat (true))), F6, (some b46, .cells C123 4 (0, 0)), hn127, hs125, (le67.trans le109), (fJ ⟨rfl, (len_set rfl), rfl, rfl, trivial⟩), hr126⟩
    ·refine Ex ?_
     refine thenQ_ex ?_
     refine thenQ_ex ?_
     refine blockQ_hit rfl ?_
     have ho128 := iter_done h88 hnx85
     exact .inl ⟨rfl, (s64.1, s64.2), F4, es64_1, ho128, hs66, le67, fI, hrs64_1⟩
   ·rintro f w74 ⟨s73, F5, es73_1, rfl, hs75, le76, ⟨_, rfl⟩, hrs73_1⟩
    have h129 := k_done h63
    refine thenQ_nrm ?_
    refine Sq (Rg [0] ?_)
    refine Vs 1 ?_
    refine Nss ?_
    refine Sq (Rg [0] ?_)
    refine Vs 1 ?_
    refine Nt ?_
    have hs130 := hs75.dummy (oc #[] 0)
    obtain ⟨o132, ho133, h134⟩ := bind_some h129
    refine CWP.cut (fun f w => ∃ (s144 : (List Int × Int)) (F8 : Mem) (as144_0 : Option Addr) (ns144_0 : Nat) (es144_0 : Option Nat × Obj), o132 = .done s144 ∧ HS w0 F0 w F8 [es144_0] ∧ Mem.le F5 F8 ∧ FI f [] [(9, (.slice as144_0 s144.1.length ns144_0))] ∧ RowR tInt 3 F8 as144_0 ns144_0 s144.1 es144_0) ?_ ?_
    ·refine Bk ?_
     refine CWP.loop (by kernel_rfl) (fun m f w => ∃ (s135 : (List Int × Int)) (F7 : Mem) (as135_0 : Option Addr) (ns135_0 : Nat) (es135_0 : Option Nat × Obj), iter (ref06_Shadowed_L1 N x0 x1 r21 r32 r43 r53 s73) m s135 = some o132 ∧ HS w0 F0 w F7 [es135_0, es73_1] ∧ Mem.le F5 F7 ∧ FI f [] [(0, (.slice a0_0 x0.length n0_0)), (6, (.slice (some ⟨b46, 0, none⟩) s73.2.length n47)), (9, (.slice as135_0 s135.1.length ns135_0)), (10, (vi s135.2))] ∧ RowR tInt 3 F7 as135_0 ns135_0 s135.1 es135_0) N ⟨(([] : List Int), 0), F5, none, 0, (none, .cells #[] 0 (0, 0)), ho133, hs130, (Mem.le.refl _), fI, (RowR.nil tInt 3 F5 _)⟩ ?_
     rintro m150 f w136 ⟨s135, F7, as135_0, ns135_0, es135_0, hit151, hs137, le138, ⟨_, rfl⟩, hrs135_0⟩
     obtain ⟨m152, fl153, rfl, hb154, hnx155⟩ := iter_step hit151
     refine Sq ?_
     refine Sq (Rg [0, 1, 2, 3] ?_)
     refine Vs 4 ?_
     refine Nt ?_
     refine Cd hb154 (fun hb156 h157 => ?_) (fun hb156 h158 => ?_)
     ·refine Sc ?_
      refine thenQ_nrm ?_
      refine Sq ?_
      refine Bk ?_
      refine Sq (Rg [0, 1, 2, 3, 4, 5] ?_)
      refine Vs 3 ?_
      obtain ⟨x159, hx160, h162⟩ := bind_some h157
      obtain ⟨hi161, hx160'⟩ := idx_spec hx160
      obtain ⟨b163, C164, ha165, rfl, hE167⟩ := RowR.open (hrs73_1.mono le138) hx160'
      cases ha165
      have hr168 := (hrs73_1.mono le138)
      have hc170 := hE167 _ _ hx160'
      refine Ix0 hi161 ?_
      refine Lx 0 hs137.at1 hc170 ?_
      refine Vs 1 ?_
      refine Nt ?_
      obtain ⟨j174, hj180, h181⟩ := bind_some h162
      refine CWP.cut (fun f w => ∃ (F9 : Mem) (aj174_0 : Option Addr) (nj174_0 : Nat) (ej174_0 : Option Nat × Obj), HS w0 F0 w F9 [ej174_0, (some b46, .cells C164 4 (0, 0))] ∧ Mem.le F7 F9 ∧ FI f [] [(0, (.slice a0_0 x0.length n0_0)), (6, (.slice (some ⟨b46, 0, none⟩) s73.2.length n47)), (9, (.slice aj174_0 j174.length nj174_0)), (10, (vi s135.2))] ∧ RowR tInt 3 F9 aj174_0 nj174_0 j174 ej174_0) ?_ ?_
      ·refine Cd hj180 (fun hb182 h183 => ?_) (fun hb182 h184 => ?_)
       ·refine Rg [0, 1, 2, 3, 4] ?_
        refine Vs 2 ?_
        refine Bs 3 [(vi s135.2)] hs137 (fun b185 w186 hs187 => ?_)
        have hr189 : RowR tInt 3 F7 (some ⟨b185, 0, none⟩) 1 [s135.2] (some b185, .cells ([(vi s135.2)] : List Value).toArray 3 (0, 0)) := RowR.lit ⟨rfl, rfl⟩ (by simp)
        obtain ⟨r190, hap191, h192⟩ := bind_some h183
        refine Ap1 oInt hs187 hrs135_0 (hs187.rd0 hr189) hap191 (fun a193 n194 e195 w196 hs197 hr198 => ?_)
        refine Vs 1 ?_
        refine RWP.nil ?_
        obtain rfl := some_inj h192
        exact .inl ⟨rfl, F7, a193, n194, e195, hs197.dr0, (Mem.le.refl _), fI, hr198⟩
       ·refine Sc ?_
        obtain rfl := some_inj h184
        exact .inl ⟨rfl, F7, as135_0, ns135_0, es135_0, hs137, (Mem.le.refl _), fI, hrs135_0⟩
      ·rintro f w171 ⟨F9, aj174_0, nj174_0, ej174_0, hs172, le173, ⟨_, rfl⟩, hrj174_0⟩
       refine blockQ_nrm ?_
       refine thenQ_nrm ?_
       refine Rg [0, 1, 2] ?_
       refine Vs 3 ?_
       refine RWP.nil ?_
       have hn199 := iter_next h181 hnx155
       exact ⟨m152, Nat.lt_succ_self _, (j174, (W64 (s135.2 + 1))), F9, aj174_0, nj174_0, ej174_0, hn199, hs172, (le138.trans le173), fI, hrj174_0⟩
     ·refine Ex ?_
      refine thenQ_ex ?_
      refine thenQ_ex ?_
      refine blockQ_hit rfl ?_
      have ho200 := iter_done h158 hnx155
      exact .inl ⟨rfl, (s135.1, s135.2), F7, as135_0, ns135_0, es135_0, ho200, hs137.dr1, le138, fI, hrs135_0⟩
    ·rintro f w145 ⟨s144, F8, as144_0, ns144_0, es144_0, rfl, hs146, le147, ⟨_, rfl⟩, hrs144_0⟩
     have h201 := k_done h134
     refine thenQ_nrm ?_
     refine Sq (Rg [0, 1, 2] ?_)
     refine Vs 3 ?_
     refine Nt ?_
     refine Rt ?_
     have hb205 := RowR.bound hrs144_0
     obtain ⟨F10, hs202, le203, hs204⟩ := hs146.fr0 hrs144_0
     obtain rfl := some_inj h201
     exact Re [(.slice as144_0 s144.1.length ns144_0), (vi 0)] hs202 ⟨as144_0, ns144_0, rfl, hb205, hs204⟩
end Go.Proofs.YtaihlcdkcampbaaGreatDoor
namespace Go.Proofs.YtaihlcdkcampbaaGreatDoor
open Go.Proofs
end Go.Proofs.YtaihlcdkcampbaaGreatDoor
namespace Go.Proofs.YtaihlcdkcampbaaGreatDoor
open Go.Proofs
end Go.Proofs.YtaihlcdkcampbaaGreatDoor
namespace Go.Proofs.YtaihlcdkcampbaaGreatDoor
open Go.Proofs
end Go.Proofs.YtaihlcdkcampbaaGreatDoor
namespace Go.Proofs.YtaihlcdkcampbaaGreatDoor
open Go.Proofs
end Go.Proofs.YtaihlcdkcampbaaGreatDoor
namespace Go.Proofs.YtaihlcdkcampbaaGreatDoor
open Go.Proofs
end Go.Proofs.YtaihlcdkcampbaaGreatDoor
namespace Go.Proofs.YtaihlcdkcampbaaGreatDoor
theorem vol_append : ∀ (a b : List Span), vol (a ++ b) = vol a * vol b
 | [], b => by simp [vol]
 | s :: a, b => by simp only [List.cons_append, vol, vol_append a b, Nat.mul_assoc]
theorem vol_take {d : List Span} (h : okD d) (i : Nat) : vol (d.take i) ≤ vol d := by
 have e : vol d = vol (d.take i) * vol (d.drop i) := by rw [← vol_append, List.take_append_drop]
 have := vol_pos (d := d.drop i) fun s hs => h s (List.mem_of_mem_drop hs)
 rw [e]; exact Nat.le_mul_of_pos_right _ this
section
variable {N : Nat}
theorem All_L2 {d : List Span} {s29 s57 : List (List Int) × Int} {x84 s : Span} {p : List Int} (h1 : idx d s29.2 = some s) (h2 : idx s29.1 s57.2 = some p) (hp : p.length < 20) (hs : 0 ≤ s.Lo ∧ s.Hi ≤ 1000000) :
  ∀ (k m : Nat) (v : Int) (acc : List (List Int)), (s.Hi + 1 - v).toNat = k → s.Lo ≤ v → v ≤ s.Hi + 1 → acc.length + k < 4000000000 → k < m →
   iter (ref06_All_L2 N d s29 s57 x84) m (acc, v) = some (.done (acc ++ (upto v s.Hi).map (fun u => p ++ [u]), s.Hi + 1))
 | 0, m + 1, v, acc, hk, _, hv, _, _ => by
  have : v = s.Hi + 1 := by omega
  subst this
  rw [upto_nil (by omega), List.map_nil, List.append_nil]
  apply iter_dn
  unfold ref06_All_L2
  simp only
  rw [h1, Option.bind_some, decide_eq_false (by omega), cond_false]
 | k + 1, m + 1, v, acc, hk, hlo, hv, hl, hm => by
  rw [iter_nx (s' := (acc ++ [p ++ [v]], v + 1)), All_L2 h1 h2 hp hs k m (v + 1) _ (by omega) (by omega) (by omega) (by simp; omega) (by omega), upto_cons (by omega : v ≤ s.Hi)]
  ·simp
  ·unfold ref06_All_L2
   simp only
   rw [h1, Option.bind_some, decide_eq_true (by omega), cond_true, h2, Option.bind_some, apnd_ok (by simp; omega), Option.bind_some, apnd_ok (by simp; omega), Option.bind_some, apnd_ok (by simp; omega), Option.bind_some, W64_small (by omega) (by omega)]
   rfl
theorem All_L1 {d : List Span} {out : List (List Int)} {i : Nat} {s : Span} (h1 : idx d (i : Int) = some s) (ho : out.length ≤ 4096) (hp : ∀ p, p ∈ out → p.length < 20) (hs : 0 ≤ s.Lo ∧ s.Lo ≤ s.Hi ∧ s.Hi ≤ 1000000) (hc : out.length * (s.Hi + 1 - s.Lo).toNat ≤ 4096) (hN : 2000000 < N) :
  iter (ref06_All_L1 N d (out, (i : Int))) N ([], 0) = some (.done (out.flatMap fun p => (upto s.Lo s.Hi).map fun v => p ++ [v], (out.length : Int))) := by
 obtain ⟨o, ho', rfl⟩ := iter_ex (body := ref06_All_L1 N d (out, (i : Int))) out.length (fun k t => t = ((out.take k).flatMap fun p => (upto s.Lo s.Hi).map fun v => p ++ [v], (k : Int))) (fun o => o = .done (out.flatMap fun p => (upto s.Lo s.Hi).map fun v => p ++ [v], (out.length : Int))) (by
  rintro k t hk rfl
  by_cases h : k < out.length
  ·refine .inl ⟨_, ?_, rfl, h⟩
   have hlen : ((out.take k).flatMap fun p => (upto s.Lo s.Hi).map fun v => p ++ [v]).length = k * (s.Hi + 1 - s.Lo).toNat := by
    rw [flatMap_len (k := (s.Hi + 1 - s.Lo).toNat) fun p _ => by rw [List.length_map, upto_length], List.length_take, Nat.min_eq_left (by omega)]
   have hle : k * (s.Hi + 1 - s.Lo).toNat ≤ 4096 := Nat.le_trans (Nat.mul_le_mul_right _ (by omega)) hc
   unfold ref06_All_L1
   simp only
   rw [lt_t h, cond_true, h1, Option.bind_some, All_L2 (p := out[k]) (s := s) h1 (idx_nat h) (hp _ (List.getElem_mem h)) ⟨hs.1, hs.2.2⟩ (s.Hi + 1 - s.Lo).toNat N s.Lo _ rfl (by omega) (by omega) (by rw [hlen]; omega) (by omega), Option.bind_some]
   simp only [Flow.k]
   rw [W64_succ (by omega), List.take_succ_eq_append_getElem h, List.flatMap_append]
   simp
  ·have : k = out.length := by omega
   subst this
   refine .inr ⟨_, ?_, (fun _ h => by cases h), rfl⟩
   unfold ref06_All_L1
   simp only
   rw [lt_f, cond_false, List.take_length]) out.length N 0 ([], 0) (by omega) (by simp) (by omega)
 exact ho'
theorem s_All {d : List Span} (hd : dom d = true) (hN : 2000000 < N) : ref06_All N d = some (allL d) := by
 have hl := dom_len hd
 have hv := dom_vol hd
 have hok := dom_okD hd
 unfold ref06_All
 obtain ⟨o, ho', rfl⟩ := iter_ex (body := ref06_All_L0 N d) d.length (fun i t => t = (allL (d.take i), (i : Int))) (fun o => o = .done (allL d, (d.length : Int))) (by
  rintro i t hi rfl
  by_cases h : i < d.length
  ·refine .inl ⟨_, ?_, rfl, h⟩
   have hti : d.take (i + 1) = d.take i ++ [d[i]] := List.take_succ_eq_append_getElem h
   have hvi := vol_take hok (i + 1)
   rw [hti, vol_append] at hvi
   simp only [vol, Nat.mul_one] at hvi
   have hvi0 := vol_take hok i
   unfold ref06_All_L0
   simp only
   rw [lt_t h, cond_true, All_L1 (s := d[i]) (idx_nat h) (by rw [allL_length]; omega) (fun p hp => by have := box_len (mem_allL.1 hp); simp at this; omega) (dom_ok hd _ (List.getElem_mem h)) (by rw [allL_length]; omega) hN, Option.bind_some]
   simp only [Flow.k]
   rw [W64_succ (by omega), hti, ← allP0 (d.take i ++ [d[i]]), List.foldl_append, allP0]
   rfl
  ·have : i = d.length := by omega
   subst this
   refine .inr ⟨_, ?_, (fun _ h => by cases h), rfl⟩
   unfold ref06_All_L0
   simp only
   rw [lt_f, cond_false, List.take_length]) d.length N 0 ([[]], 0) (by omega) (by simp [allL]) (by omega)
 rw [ho', Option.bind_some]
 rfl
theorem s_asked {l : List Clause} {d : List Span} (hN : 100 < N) (h : FitL N l) : rules_asked N l d = some (if sndL l = false then 61 else if dom d = false then 64 else 0) := by
 unfold rules_asked
 rw [s_clauses h, Option.bind_some, s_domains hN]
 cases sndL l
 ·rfl
 ·cases dom d <;> rfl
theorem find_iter {L : List (List Int)} {q : List Int → Bool} {body : Int → Option (Flow (List Int × Int) Int)} (hN : 5000 < N) (hL : L.length ≤ 4096)
  (hb : ∀ (i : Nat) (h : i < L.length), body (i : Int) = bif q L[i] then some (.ret (L[i], 0)) else some (.next (W64 ((i : Int) + 1)))) (he : body (L.length : Int) = some (.done (L.length : Int))) :
  ((iter body N 0).bind fun o => o.k (fun r => some r) (fun _ => some (([] : List Int), (3 : Int)))) = some (found (L.find? q)) := by
 rw [iter_first L q (fun i => ((L[i]?).getD [], 0)) (fun i h => by rw [hb i h, List.getElem?_eq_getElem h]; rfl) he (by omega) (by omega), Option.bind_some]
 cases ha : L.any q with
 | false =>
  rw [List.find?_eq_none.2 fun x hx => by rw [List.any_eq_false] at ha; exact ha x hx]; rfl
 | true =>
  obtain ⟨x, hx, hq⟩ := List.any_eq_true.1 ha
  have hlt : L.findIdx q < L.length := List.findIdx_lt_length.2 ⟨x, hx, hq⟩
  rw [List.find?_eq_some_iff_getElem.2 ⟨List.findIdx_getElem (w := hlt), L.findIdx q, hlt, rfl, fun j hj => by have := List.not_of_lt_findIdx hj; simpa using this⟩, cond_true, List.getElem?_eq_getElem hlt]
  rfl
noncomputable def gapS (l : List Clause) (d : List Span) : List Int × Int := if sndL l = false then ([], 61) else if dom d = false then ([], 64) else found ((allL d).find? fun f => decide (fi (isT f) l < 0))
theorem tf : ¬ (true = false) := by simp
theorem s_Gap {l : List Clause} {d : List Span} (hN : 5000 < N) (h : FitL N l) : rules_Gap N l d = some (gapS l d) := by
 unfold rules_Gap gapS
 rw [s_asked (by omega) h, Option.bind_some]
 cases hs : sndL l
 ·rfl
 ·cases hd : dom d
  ·rfl
  ·have e : rules_find N d (fun y0 => rules_Gap_1 N y0 l) = some (found ((allL d).find? fun f => decide (fi (isT f) l < 0))) :=
    s_find hd hN fun f hf => by
     unfold rules_Gap_1
     rw [s_first (dom_fac hd hf) h (fun c hc => sndL_c hs hc), Option.bind_some]
   rw [if_neg tf, if_neg tf, if_neg tf, if_neg tf, show ((0 : Int) != 0) = false from rfl, cond_false]
   rw [e, Option.bind_some]
theorem s_rGap {l : List Clause} {d : List Span} (hN : 2000000 < N) (h : FitL N l) : ref06_Gap N l d = some (gapS l d) := by
 unfold ref06_Gap gapS
 rw [s_listed h, Option.bind_some, s_Domains (by omega)]
 cases hs : sndL l
 ·rfl
 ·cases hd : dom d
  ·rfl
  ·rw [Option.bind_some, s_All hd hN]
   simp only [Bool.not_true, cond_false, Option.bind_some, Bool.true_eq_false, if_false]
   refine find_iter (by omega) (by rw [allL_length]; exact dom_vol hd) (fun i hi => ?_) ?_
   ·unfold ref06_Gap_L0
    rw [lt_t hi, cond_true, idx_nat hi, Option.bind_some, s_rfirst (dom_fac hd (List.getElem_mem hi)) h (fun c hc => sndL_c hs hc), Option.bind_some, Option.bind_some]
   ·unfold ref06_Gap_L0; rw [lt_f, cond_false]
def bothT (l : List Clause) (i k : Int) (f : List Int) : Bool := match l[i.toNat]?, l[k.toNat]? with | some a, some b => isT f a && isT f b | _, _ => false
def clashB (l : List Clause) (i k : Int) : Bool := decide (i < 0) || (decide (i ≥ (l.length : Int)) || (decide (k < 0) || (decide (k ≥ (l.length : Int)) || i == k)))
noncomputable def clashS (l : List Clause) (i k : Int) (d : List Span) : List Int × Int := if sndL l = false then ([], 61) else if dom d = false then ([], 64) else if clashB l i k then ([], 1) else found ((allL d).find? (bothT l i k))
theorem clash_in {l : List Clause} {i k : Int} (h : clashB l i k = false) : 0 ≤ i ∧ i.toNat < l.length ∧ 0 ≤ k ∧ k.toNat < l.length ∧ i ≠ k := by
 unfold clashB at h; simp at h; omega
theorem idx_int {α : Type} {l : List α} {i : Int} (h0 : 0 ≤ i) (h : i.toNat < l.length) : idx l i = some l[i.toNat] := by
 unfold idx; rw [if_pos h0, List.getElem?_eq_getElem h]
theorem s_Clash {l : List Clause} {d : List Span} {i k : Int} (hN : 5000 < N) (h : FitL N l) : rules_Clash N l i k d = some (clashS l i k d) := by
 unfold rules_Clash clashS
 rw [s_asked (by omega) h, Option.bind_some]
 cases hs : sndL l
 ·rfl
 ·cases hd : dom d
  ·rfl
  ·rw [if_neg tf, if_neg tf, if_neg tf, if_neg tf, show ((0 : Int) != 0) = false from rfl, cond_false]
   change (bif clashB l i k then _ else _) = _
   cases hc : clashB l i k with
   | true => rw [cond_true, if_pos rfl]
   | false =>
    obtain ⟨h1, h2, h3, h4, _⟩ := clash_in hc
    have e : rules_find N d (fun y0 => rules_Clash_1 N y0 l i k) = some (found ((allL d).find? (bothT l i k))) :=
     s_find hd hN fun f hf => by
      have hfc := dom_fac hd hf
      unfold rules_Clash_1 bothT
      rw [idx_int h1 h2, Option.bind_some, s_value hfc (h.c _ (List.getElem_mem h2)).1 (by rw [sndC_w (sndL_c hs (List.getElem_mem h2))]; decide), Option.bind_some, List.getElem?_eq_getElem h2, List.getElem?_eq_getElem h4]
      simp only
      unfold isT
      cases val f l[i.toNat].When == 1 with
      | false => rfl
      | true =>
       rw [cond_true, idx_int h3 h4, Option.bind_some, s_value hfc (h.c _ (List.getElem_mem h4)).1 (by rw [sndC_w (sndL_c hs (List.getElem_mem h4))]; decide)]; rfl
    rw [cond_false, e, Option.bind_some, if_neg (by simp)]
theorem s_rClash {l : List Clause} {d : List Span} {i k : Int} (hN : 2000000 < N) (h : FitL N l) : ref06_Clash N l i k d = some (clashS l i k d) := by
 unfold ref06_Clash clashS
 rw [s_listed h, Option.bind_some, s_Domains (by omega)]
 cases hs : sndL l
 ·rfl
 ·cases hd : dom d
  ·rfl
  ·rw [Option.bind_some, s_All hd hN]
   simp only [Bool.not_true, cond_false, Option.bind_some, Bool.true_eq_false, if_false]
   change (bif clashB l i k then _ else _) = _
   cases hc : clashB l i k with
   | true => rfl
   | false =>
    obtain ⟨h1, h2, h3, h4, _⟩ := clash_in hc
    rw [cond_false]
    refine find_iter (by omega) (by rw [allL_length]; exact dom_vol hd) (fun j hj => ?_) ?_
    ·have hfc := dom_fac hd (List.getElem_mem hj)
     unfold ref06_Clash_L0
     rw [lt_t hj, cond_true, idx_int h1 h2, Option.bind_some]
     simp only [idx_nat hj, Option.bind_some]
     rw [s_rvalue hfc (h.c _ (List.getElem_mem h2)).1 (by rw [sndC_w (sndL_c hs (List.getElem_mem h2))]; decide), Option.bind_some]
     unfold bothT
     rw [List.getElem?_eq_getElem h2, List.getElem?_eq_getElem h4]
     simp only
     unfold isT
     cases val (allL d)[j] l[i.toNat].When == 1 with
     | false => rfl
     | true =>
      rw [cond_true, idx_int h3 h4, Option.bind_some, s_rvalue hfc (h.c _ (List.getElem_mem h4)).1 (by rw [sndC_w (sndL_c hs (List.getElem_mem h4))]; decide), Option.bind_some, Option.bind_some, Bool.true_and]
    ·unfold ref06_Clash_L0; rw [lt_f, cond_false]
end
end Go.Proofs.YtaihlcdkcampbaaGreatDoor
namespace Go.Proofs.YtaihlcdkcampbaaGreatDoor
open Go.Proofs
def rules_constant (N : Nat) (x0 : Int) : Option Expr :=
 some ({ Op := 1, Value := x0, Kids := ([] : List Expr) } : Expr)
theorem co_rules_constant : CallOk Tryz.prog 191 := fun _ _ => by kernel_rfl
theorem c_rules_constant (N : Nat) (w0 : World) (F0 : Mem) (hF : ∀ b o, F0 b = some o → w0.heap[b]? = some o) (x0 : Int) (r : Expr) (h : rules_constant N x0 = some r) :
  Calls Tryz.prog 191 ([(vi x0)] : List Value).toArray w0 (FRet w0 F0 fun F' v => ∃ (aq0_2 : Option Addr) (nq0_2 : Nat), v = (.agg (kExpr r aq0_2 nq0_2)) ∧ LC r.Kids.length nq0_2 ∧ SlA tExpr F' aq0_2 r.Kids) := by
 have hs0 := HS.start hF
 refine Go 5 Tryz.func191 ?_
 refine Sq (Rg [0] ?_)
 refine Al' 33 #[(vi 0), (vi 0), (.slice none ([] : List Expr).length 0)] hs0 (fun b21 w22 hs23 => ?_)
 refine Nss (Rg [0, 1, 2] ?_)
 refine Vs 2 ?_
 refine St0 #[(vi 1), (vi x0), (.slice none ([] : List Expr).length 0)] hs23 (fun w24 hs25 => ?_)
 refine Nt ?_
 refine Rt ?_
 obtain rfl := some_inj h
 exact ⟨rfl, (.agg #[(vi 1), (vi x0), (.slice none ([] : List Expr).length 0)]), res_of (l := [.cell 2 33]) (by kernel_rfl) (vs := [(.agg #[(vi 1), (vi x0), (.slice none ([] : List Expr).length 0)])]) ⟨b21, 0, rfl, run_loadVar' (t := 33) (g := true) (s := 3) (by kernel_rfl) hs25.at0 rfl (by decide), trivial⟩, (.agg #[(vi 1), (vi x0), (.slice none ([] : List Expr).length 0)]), F0, rfl, hs25.clear, ⟨none, 0, rfl, LC.nil, (.inl rfl)⟩⟩
end Go.Proofs.YtaihlcdkcampbaaGreatDoor
namespace Go.Proofs.YtaihlcdkcampbaaGreatDoor
open Go.Proofs
def rules_truthOf (N : Nat) (x0 : Bool) : Option Expr :=
 ((rules_constant N 0).bind fun r31 => ((rules_constant N 0).bind fun r39 => some ({ Op := (bif x0 then 6 else 7), Value := 0, Kids := [r31, r39] } : Expr)))
theorem co_rules_truthOf : CallOk Tryz.prog 188 := fun _ _ => by kernel_rfl
theorem c_rules_truthOf (N : Nat) (w0 : World) (F0 : Mem) (hF : ∀ b o, F0 b = some o → w0.heap[b]? = some o) (x0 : Bool) (r : Expr) (h : rules_truthOf N x0 = some r) :
  Calls Tryz.prog 188 ([(.bool x0)] : List Value).toArray w0 (FRet w0 F0 fun F' v => ∃ (aq0_2 : Option Addr) (nq0_2 : Nat), v = (.agg (kExpr r aq0_2 nq0_2)) ∧ LC r.Kids.length nq0_2 ∧ SlA tExpr F' aq0_2 r.Kids) := by
 have hs0 := HS.start hF
 refine Go 10 Tryz.func188 ?_
 refine Sq (Rg [0] ?_)
 refine Al' 33 #[(vi 0), (vi 0), (.slice none ([] : List Expr).length 0)] hs0 (fun b21 w22 hs23 => ?_)
 refine Nss (Rg [0] ?_)
 refine Vs 1 ?_
 refine Nss ?_
 refine Sq (Rg [0] ?_)
 refine Vs 1 ?_
 refine Nt ?_
 refine CWP.cut (fun f w => ∃ (F1 : Mem), HS w0 F0 w F1 [(sb b21 #[(vi 0), (vi 0), (.slice none ([] : List Expr).length 0)] 33)] ∧ Mem.le F0 F1 ∧ FI f [] [(2, (pt b21 0)), (3, (vi (bif x0 then 6 else 7)))]) ?_ ?_
 ·refine Cp x0 (fun hb30 => ?_) (fun hb30 => ?_)
  ·refine Rg [0] ?_
   refine Vs 1 ?_
   refine RWP.nil ?_
   exact .inl ⟨rfl, F0, hs23, (Mem.le.refl _), (fJ ⟨rfl, (congrArg (Value.int .i64) (bif_t hb30 (rfl))), trivial⟩)⟩
  ·refine Sc ?_
   exact .inl ⟨rfl, F0, hs23, (Mem.le.refl _), (fJ ⟨rfl, (congrArg (Value.int .i64) (bif_f hb30 (rfl))), trivial⟩)⟩
 ·rintro f w24 ⟨F1, hs25, le26, ⟨_, rfl⟩⟩
  refine thenQ_nrm ?_
  refine Sq (Rg [0, 1, 2, 3, 4, 5] ?_)
  refine Vs 1 ?_
  obtain ⟨r31, hr32, h33⟩ := bind_some h
  refine Cl' co_rules_constant hs25 (c_rules_constant N w24 F1 hs25.pers (0) _ hr32) ?_
  rintro _ F2 w35 hs36 le37 ⟨ar31_0_2, nr31_0_2, rfl, hbr31_0_2, hsr31_0_2⟩
  obtain ⟨r39, hr40, h41⟩ := bind_some h33
  refine Cl' co_rules_constant hs36 (c_rules_constant N w35 F2 hs36.pers (0) _ hr40) ?_
  rintro _ F3 w43 hs44 le45 ⟨ar39_0_2, nr39_0_2, rfl, hbr39_0_2, hsr39_0_2⟩
  refine Bs 33 [(vi r31.Op), (vi r31.Value), (.slice ar31_0_2 r31.Kids.length nr31_0_2), (vi r39.Op), (vi r39.Value), (.slice ar39_0_2 r39.Kids.length nr39_0_2)] hs44 (fun b47 w48 hs49 => ?_)
  have hr51 : RowR tExpr 33 F3 (some ⟨b47, 0, none⟩) 2 [r31, r39] (some b47, .cells ([(vi r31.Op), (vi r31.Value), (.slice ar31_0_2 r31.Kids.length nr31_0_2), (vi r39.Op), (vi r39.Value), (.slice ar39_0_2 r39.Kids.length nr39_0_2)] : List Value).toArray 33 (0, 0)) := RowR.lit ⟨(tExpr_mk ⟨ar31_0_2, nr31_0_2, rfl, hbr31_0_2, (SlA.mono hsr31_0_2 le45)⟩), ⟨(tExpr_mk ⟨ar39_0_2, nr39_0_2, rfl, hbr39_0_2, hsr39_0_2⟩), rfl⟩⟩ (by simp)
  refine Vs 1 ?_
  refine St1 #[(vi (bif x0 then 6 else 7)), (vi 0), (.slice (some ⟨b47, 0, none⟩) [r31, r39].length 2)] hs49 (fun w52 hs53 => ?_)
  refine Nt ?_
  refine Rt ?_
  have hb57 := RowR.bound hr51
  obtain ⟨F4, hs54, le55, hs56⟩ := hs53.fr0 hr51
  obtain rfl := some_inj h41
  exact ⟨rfl, (.agg #[(vi (bif x0 then 6 else 7)), (vi 0), (.slice (some ⟨b47, 0, none⟩) [r31, r39].length 2)]), res_of (l := [.cell 2 33]) (by kernel_rfl) (vs := [(.agg #[(vi (bif x0 then 6 else 7)), (vi 0), (.slice (some ⟨b47, 0, none⟩) [r31, r39].length 2)])]) ⟨b21, 0, rfl, run_loadVar' (t := 33) (g := true) (s := 3) (by kernel_rfl) hs54.at0 rfl (by decide), trivial⟩, (.agg #[(vi (bif x0 then 6 else 7)), (vi 0), (.slice (some ⟨b47, 0, none⟩) [r31, r39].length 2)]), F4, rfl, hs54.clear, ⟨(some ⟨b47, 0, none⟩), 2, rfl, hb57, hs56⟩⟩
end Go.Proofs.YtaihlcdkcampbaaGreatDoor
namespace Go.Proofs.YtaihlcdkcampbaaGreatDoor
open Go.Proofs
def rules_isTruth (N : Nat) (x0 : Expr) (x1 : Bool) : Option Bool :=
 (((rules_truthOf N x1).bind fun r34 => ((rules_same N x0 r34).bind fun r42 => some r42)).bind fun j29 => some j29)
theorem co_rules_isTruth : CallOk Tryz.prog 187 := fun _ _ => by kernel_rfl
theorem c_rules_isTruth (N : Nat) (w0 : World) (F0 : Mem) (hF : ∀ b o, F0 b = some o → w0.heap[b]? = some o) (x0 : Expr) (a0_2 : Option Addr) (n0_2 : Nat) (hb0_2 : LC x0.Kids.length n0_2) (hs0_2 : SlA tExpr F0 a0_2 x0.Kids) (x1 : Bool) (r : Bool) (h : rules_isTruth N x0 x1 = some r) :
  Calls Tryz.prog 187 ([(.agg (kExpr x0 a0_2 n0_2)), (.bool x1)] : List Value).toArray w0 (FRet w0 F0 fun F' v => v = (.bool r)) := by
 have hs0 := HS.start hF
 refine Go 9 Tryz.func187 ?_
 refine Sq (Rg [0, 1] ?_)
 refine Bx' 33 (kExpr x0 a0_2 n0_2) hs0 (fun b21 w22 hs23 => ?_)
 refine Vs 1 ?_
 refine Nss ?_
 obtain ⟨j29, hj32, h33⟩ := bind_some h
 refine RD 5 5 [(sb b21 (kExpr x0 a0_2 n0_2) 33)] [] hs23 (fun f w => ∃ (F1 : Mem), HS w0 F0 w F1 [] ∧ Mem.le F0 F1 ∧ FI f [] [(4, (.bool j29))]) (fun wd24 hw25 => ?_) ?_
 ·refine Dl 0 (fun _ hq => (hq.1.2 0 _ _ rfl)) ?_
  refine Dv [1] ?_
  refine D1 2 ?_
  obtain ⟨r34, hr35, h36⟩ := bind_some hj32
  refine DCl co_rules_truthOf hw25 (c_rules_truthOf N wd24 F0 hw25.pers (x1) _ hr35) ?_
  rintro _ F2 w38 hs39 le40 ⟨ar34_0_2, nr34_0_2, rfl, hbr34_0_2, hsr34_0_2⟩
  refine D1 3 ?_
  obtain ⟨r42, hr43, h44⟩ := bind_some h36
  refine DCl co_rules_same hs39 (c_rules_same N w38 F2 hs39.pers (x0) a0_2 n0_2 hb0_2 (SlA.mono hs0_2 le40) (r34) ar34_0_2 nr34_0_2 hbr34_0_2 hsr34_0_2 _ hr43) ?_
  rintro _ F3 w46 hs47 le48 rfl
  refine Dv [4] ?_
  obtain rfl := some_inj h44
  exact DWP.done (by kernel_rfl) ⟨F3, hs47.dr0, (le40.trans le48), fI⟩
 ·rintro f w26 ⟨F1, hs27, le28, ⟨_, rfl⟩⟩
  refine thenQ_nrm ?_
  refine Rt ?_
  obtain rfl := some_inj h33
  exact Re [(.bool j29)] hs27 rfl
end Go.Proofs.YtaihlcdkcampbaaGreatDoor
namespace Go.Proofs.YtaihlcdkcampbaaGreatDoor
open Go.Proofs
end Go.Proofs.YtaihlcdkcampbaaGreatDoor
namespace Go.Proofs.YtaihlcdkcampbaaGreatDoor
open Go.Proofs
def rules_isConstant (N : Nat) (x0 : Expr) (x1 : Int) : Option Bool :=
 some ((x0.Op == 1) && (x0.Value == x1))
theorem co_rules_isConstant : CallOk Tryz.prog 215 := fun _ _ => by kernel_rfl
theorem c_rules_isConstant (N : Nat) (w0 : World) (F0 : Mem) (hF : ∀ b o, F0 b = some o → w0.heap[b]? = some o) (x0 : Expr) (a0_2 : Option Addr) (n0_2 : Nat) (hb0_2 : LC x0.Kids.length n0_2) (hs0_2 : SlA tExpr F0 a0_2 x0.Kids) (x1 : Int) (r : Bool) (h : rules_isConstant N x0 x1 = some r) :
  Calls Tryz.prog 215 ([(.agg (kExpr x0 a0_2 n0_2)), (vi x1)] : List Value).toArray w0 (FRet w0 F0 fun F' v => v = (.bool r)) := by
 have hs0 := HS.start hF
 refine Go 14 Tryz.func215 ?_
 refine Sq (Rg [0, 1] ?_)
 refine Bx' 33 (kExpr x0 a0_2 n0_2) hs0 (fun b21 w22 hs23 => ?_)
 refine Vs 1 ?_
 refine Nss (Rg [0, 1, 2, 3, 4, 5, 6, 7, 8, 9] ?_)
 refine RWP.cut (fun f w => ∃ (F1 : Mem), HS w0 F0 w F1 [] ∧ Mem.le F0 F1 ∧ FI f [] [(4, (.bool ((x0.Op == 1) && (x0.Value == x1))))]) ?_ ?_
 ·refine Vs 1 ?_
  refine Ld hs23.at0 ?_
  refine Vs 2 ?_
  refine RWP.split (x0.Op == 1) (fun hb29 => ?_) (fun hb29 => ?_)
  ·refine Vgs hb29 1 ?_
   refine Lg hb29 hs23.at0 ?_
   refine Vgs hb29 2 ?_
   refine Pk1 hb29 ?_
   refine Vs 1 ?_
   exact RWP.nil ⟨rfl, F0, hs23.dr0, (Mem.le.refl _), (fJ ⟨(congrArg Value.bool (and_t hb29 (rfl))), trivial⟩)⟩
  ·refine Ss hb29 4 ?_
   refine Pk0 hb29 ?_
   refine Vs 1 ?_
   exact RWP.nil ⟨rfl, F0, hs23.dr0, (Mem.le.refl _), (fJ ⟨(congrArg Value.bool (and_f hb29 (rfl))), trivial⟩)⟩
 ·rintro f w24 ⟨F1, hs25, le26, ⟨_, rfl⟩⟩
  refine thenQ_nrm ?_
  refine Rt ?_
  obtain rfl := some_inj h
  exact Re [(.bool ((x0.Op == 1) && (x0.Value == x1)))] hs25 rfl
end Go.Proofs.YtaihlcdkcampbaaGreatDoor
namespace Go.Proofs.YtaihlcdkcampbaaGreatDoor
open Go.Proofs
def rules_reckoned (N : Nat) (x0 : Expr) (x1 : Expr) (x2 : Expr) : Option Expr :=
 (bif (x0.Op == 8) then ((rules_isConstant N x1 0).bind fun r36 => (bif r36 then some x2 else ((rules_isConstant N x2 0).bind fun r49 => (bif r49 then some x1 else some x0)))) else none)
theorem co_rules_reckoned : CallOk Tryz.prog 192 := fun _ _ => by kernel_rfl
theorem c_rules_reckoned (N : Nat) (w0 : World) (F0 : Mem) (hF : ∀ b o, F0 b = some o → w0.heap[b]? = some o) (x0 : Expr) (a0_2 : Option Addr) (n0_2 : Nat) (hb0_2 : LC x0.Kids.length n0_2) (hs0_2 : SlA tExpr F0 a0_2 x0.Kids) (x1 : Expr) (a1_2 : Option Addr) (n1_2 : Nat) (hb1_2 : LC x1.Kids.length n1_2) (hs1_2 : SlA tExpr F0 a1_2 x1.Kids) (x2 : Expr) (a2_2 : Option Addr) (n2_2 : Nat) (hb2_2 : LC x2.Kids.length n2_2) (hs2_2 : SlA tExpr F0 a2_2 x2.Kids) (r : Expr) (h : rules_reckoned N x0 x1 x2 = some r) :
  Calls Tryz.prog 192 ([(.agg (kExpr x0 a0_2 n0_2)), (.agg (kExpr x1 a1_2 n1_2)), (.agg (kExpr x2 a2_2 n2_2))] : List Value).toArray w0 (FRet w0 F0 fun F' v => ∃ (aq0_2 : Option Addr) (nq0_2 : Nat), v = (.agg (kExpr r aq0_2 nq0_2)) ∧ LC r.Kids.length nq0_2 ∧ SlA tExpr F' aq0_2 r.Kids) := by
 have hs0 := HS.start hF
 refine Go 49 Tryz.func192 ?_
 refine Sq (Rg [0, 1, 2, 3] ?_)
 refine Bx' 33 (kExpr x0 a0_2 n0_2) hs0 (fun b21 w22 hs23 => ?_)
 refine Bx' 33 (kExpr x1 a1_2 n1_2) hs23 (fun b24 w25 hs26 => ?_)
 refine Bx' 33 (kExpr x2 a2_2 n2_2) hs26 (fun b27 w28 hs29 => ?_)
 refine Al' 33 #[(vi 0), (vi 0), (.slice none ([] : List Expr).length 0)] hs29 (fun b30 w31 hs32 => ?_)
 refine Nss ?_
 refine Sq (Rg [0, 1] ?_)
 refine Vs 1 ?_
 refine Ld hs32.at3 ?_
 refine Nt ?_
 refine Bk ?_
 refine Sq (Rg [0, 1] ?_)
 refine Vs 2 ?_
 refine Nt ?_
 refine Cd h (fun hb33 h34 => ?_) (fun hb33 h35 => ?_)
 ·refine Bk ?_
  refine Sq (Rg [0, 1, 2] ?_)
  refine Ld hs32.at2 ?_
  obtain ⟨r36, hr37, h38⟩ := bind_some h34
  refine Cl' co_rules_isConstant hs32 (c_rules_isConstant N w31 F0 hs32.pers (x1) a1_2 n1_2 hb1_2 hs1_2 (0) _ hr37) ?_
  rintro _ F1 w40 hs41 le42 rfl
  refine Vs 1 ?_
  refine Nt ?_
  refine Cd h38 (fun hb44 h45 => ?_) (fun hb44 h46 => ?_)
  ·refine Sq (Rg [0, 1] ?_)
   refine Ld hs41.at1 ?_
   refine St0 (kExpr x2 a2_2 n2_2) hs41 (fun w47 hs48 => ?_)
   refine Nt ?_
   refine Rt ?_
   refine blockQ_ret ?_
   refine blockQ_ret ?_
   refine thenQ_ret ?_
   obtain rfl := some_inj h45
   exact ⟨rfl, (.agg (kExpr x2 a2_2 n2_2)), res_of (l := [.cell 6 33]) (by kernel_rfl) (vs := [(.agg (kExpr x2 a2_2 n2_2))]) ⟨b30, 0, rfl, run_loadVar' (t := 33) (g := true) (s := 3) (by kernel_rfl) hs48.at0 rfl (by decide), trivial⟩, (.agg (kExpr x2 a2_2 n2_2)), F1, rfl, hs48.clear, ⟨a2_2, n2_2, rfl, hb2_2, (SlA.mono hs2_2 le42)⟩⟩
  ·refine Sq (Rg [0, 1, 2] ?_)
   refine Ld hs41.at1 ?_
   obtain ⟨r49, hr50, h51⟩ := bind_some h46
   refine Cl' co_rules_isConstant hs41 (c_rules_isConstant N w40 F1 hs41.pers (x2) a2_2 n2_2 hb2_2 (SlA.mono hs2_2 le42) (0) _ hr50) ?_
   rintro _ F2 w53 hs54 le55 rfl
   refine Vs 1 ?_
   refine Nt ?_
   refine Cd h51 (fun hb57 h58 => ?_) (fun hb57 h59 => ?_)
   ·refine Sq (Rg [0, 1] ?_)
    refine Ld hs54.at2 ?_
    refine St0 (kExpr x1 a1_2 n1_2) hs54 (fun w60 hs61 => ?_)
    refine Nt ?_
    refine Rt ?_
    refine blockQ_ret ?_
    refine blockQ_ret ?_
    refine thenQ_ret ?_
    obtain rfl := some_inj h58
    exact ⟨rfl, (.agg (kExpr x1 a1_2 n1_2)), res_of (l := [.cell 6 33]) (by kernel_rfl) (vs := [(.agg (kExpr x1 a1_2 n1_2))]) ⟨b30, 0, rfl, run_loadVar' (t := 33) (g := true) (s := 3) (by kernel_rfl) hs61.at0 rfl (by decide), trivial⟩, (.agg (kExpr x1 a1_2 n1_2)), F2, rfl, hs61.clear, ⟨a1_2, n1_2, rfl, hb1_2, (SlA.mono hs1_2 (le42.trans le55))⟩⟩
   ·refine Sc ?_
    refine blockQ_nrm ?_
    refine blockQ_nrm ?_
    refine thenQ_nrm ?_
    refine Sq (Rg [0, 1] ?_)
    refine Ld hs54.at3 ?_
    refine St0 (kExpr x0 a0_2 n0_2) hs54 (fun w62 hs63 => ?_)
    refine Nt ?_
    refine Rt ?_
    obtain rfl := some_inj h59
    exact ⟨rfl, (.agg (kExpr x0 a0_2 n0_2)), res_of (l := [.cell 6 33]) (by kernel_rfl) (vs := [(.agg (kExpr x0 a0_2 n0_2))]) ⟨b30, 0, rfl, run_loadVar' (t := 33) (g := true) (s := 3) (by kernel_rfl) hs63.at0 rfl (by decide), trivial⟩, (.agg (kExpr x0 a0_2 n0_2)), F2, rfl, hs63.clear, ⟨a0_2, n0_2, rfl, hb0_2, (SlA.mono hs0_2 (le42.trans le55))⟩⟩
 ·cases h35
end Go.Proofs.YtaihlcdkcampbaaGreatDoor
namespace Go.Proofs.YtaihlcdkcampbaaGreatDoor
open Go.Proofs
def rules_simpler (N : Nat) (x0 : Expr) : Option Expr :=
 (bif ((x0.Kids.length : Int) == 0) then some x0 else ((idx x0.Kids 0).bind fun x32 => (bif (x0.Op == 3) then none else ((idx x0.Kids 1).bind fun x54 => (bif (bif (x0.Op == 6) then (x0.Op == 6) else (x0.Op == 7)) then ((bif ((x32.Op == 1) && (x54.Op == 1)) then some true else ((rules_same N x32 x54).bind fun r106 => some r106)).bind fun j93 => (bif j93 then (bif (x0.Op == 6) then ((rules_same N x32 x54).bind fun r120 => (bif r120 then ((rules_truthOf N true).bind fun r131 => some r131) else (bif (x0.Op == 7) then none else none))) else (bif (x0.Op == 7) then none else none)) else some x0)) else (bif (bif (x0.Op == 4) then (x0.Op == 4) else (x0.Op == 5)) then none else (bif (bif (x0.Op == 8) then (x0.Op == 8) else (bif (x0.Op == 9) then (x0.Op == 9) else (x0.Op == 10))) then (((mk0 0 14).bind fun r206 => ((rules_value N x0 r206).bind fun r220 => some r220)).bind fun j196 => (bif (((x32.Op == 1) && (x54.Op == 1)) && (decide (j196 ≥ 0))) then ((rules_constant N j196).bind fun r242 => some r242) else ((rules_reckoned N x0 x32 x54).bind fun r252 => some r252))) else (bif (x0.Op == 11) then ((rules_isTruth N x32 true).bind fun r265 => (bif r265 then some x54 else ((rules_isTruth N x32 false).bind fun r278 => (bif r278 then ((idx x0.Kids 2).bind fun x289 => some x289) else (((idx x0.Kids 2).bind fun x310 => ((rules_same N x54 x310).bind fun r316 => some r316)).bind fun j302 => (bif j302 then some x54 else some x0)))))) else none))))))))
theorem co_rules_simpler : CallOk Tryz.prog 148 := fun _ _ => by kernel_rfl
theorem c_rules_simpler (N : Nat) (w0 : World) (F0 : Mem) (hF : ∀ b o, F0 b = some o → w0.heap[b]? = some o) (x0 : Expr) (a0_2 : Option Addr) (n0_2 : Nat) (hb0_2 : LC x0.Kids.length n0_2) (hs0_2 : SlA tExpr F0 a0_2 x0.Kids) (r : Expr) (h : rules_simpler N x0 = some r) :
  Calls Tryz.prog 148 ([(.agg (kExpr x0 a0_2 n0_2))] : List Value).toArray w0 (FRet w0 F0 fun F' v => ∃ (aq0_2 : Option Addr) (nq0_2 : Nat), v = (.agg (kExpr r aq0_2 nq0_2)) ∧ LC r.Kids.length nq0_2 ∧ SlA tExpr F' aq0_2 r.Kids) := by
 have hs0 := HS.start hF
 refine Go 130 Tryz.func148 ?_
 refine Sq (Rg [0, 1] ?_)
 refine Bx' 33 (kExpr x0 a0_2 n0_2) hs0 (fun b21 w22 hs23 => ?_)
 refine Al' 33 #[(vi 0), (vi 0), (.slice none ([] : List Expr).length 0)] hs23 (fun b24 w25 hs26 => ?_)
 refine Nss ?_
 refine Sq (Rg [0, 1, 2, 3] ?_)
 refine Vs 1 ?_
 refine Ld hs26.at1 ?_
 refine Vs 2 ?_
 refine Nt ?_
 refine Cd h (fun hb27 h28 => ?_) (fun hb27 h29 => ?_)
 ·refine Sq (Rg [0, 1] ?_)
  refine Ld hs26.at1 ?_
  refine St0 (kExpr x0 a0_2 n0_2) hs26 (fun w30 hs31 => ?_)
  refine Nt ?_
  refine Rt ?_
  refine thenQ_ret ?_
  obtain rfl := some_inj h28
  exact ⟨rfl, (.agg (kExpr x0 a0_2 n0_2)), res_of (l := [.cell 2 33]) (by kernel_rfl) (vs := [(.agg (kExpr x0 a0_2 n0_2))]) ⟨b24, 0, rfl, run_loadVar' (t := 33) (g := true) (s := 3) (by kernel_rfl) hs31.at0 rfl (by decide), trivial⟩, (.agg (kExpr x0 a0_2 n0_2)), F0, rfl, hs31.clear, ⟨a0_2, n0_2, rfl, hb0_2, hs0_2⟩⟩
 ·refine Sc ?_
  refine thenQ_nrm ?_
  refine Sq (Rg [0, 1, 2, 3, 4, 5] ?_)
  refine Vs 1 ?_
  refine Ld hs26.at1 ?_
  obtain ⟨x32, hx33, h35⟩ := bind_some h29
  obtain ⟨hi34, hx33'⟩ := idx_spec hx33
  obtain ⟨b36, o37, C38, E39, fz40, rfl, hF42, hE43⟩ := SlA.open hs0_2 hx33'
  obtain ⟨ae44_2, ne44_2, hc45, hbe44_2, hse44_2⟩ := (tExpr_open (hE43 _ _ hx33'))
  refine Ix hi34 ?_
  refine Lx 0 (hs26.pers _ _ hF42) hc45 ?_
  refine Al' 33 #[(vi 0), (vi 0), (.slice none ([] : List Expr).length 0)] hs26 (fun b46 w47 hs48 => ?_)
  refine St0 (kExpr x32 ae44_2 ne44_2) hs48 (fun w49 hs50 => ?_)
  refine Nss ?_
  refine Sq (Rg [0, 1, 2] ?_)
  refine Vs 1 ?_
  refine Ld hs50.at2 ?_
  refine Vs 1 ?_
  refine Nt ?_
  refine Cd h35 (fun hb51 h52 => ?_) (fun hb51 h53 => ?_)
  ·cases h52
  ·refine Sc ?_
   refine thenQ_nrm ?_
   refine Sq (Rg [0, 1, 2, 3, 4, 5] ?_)
   refine Vs 1 ?_
   refine Ld hs50.at2 ?_
   obtain ⟨x54, hx55, h57⟩ := bind_some h53
   obtain ⟨hi56, hx55'⟩ := idx_spec hx55
   obtain ⟨ae58_2, ne58_2, hc59, hbe58_2, hse58_2⟩ := (tExpr_open (hE43 _ _ hx55'))
   refine Ix hi56 ?_
   refine Lx 0 (hs50.pers _ _ hF42) hc59 ?_
   refine Al' 33 #[(vi 0), (vi 0), (.slice none ([] : List Expr).length 0)] hs50 (fun b60 w61 hs62 => ?_)
   refine St0 (kExpr x54 ae58_2 ne58_2) hs62 (fun w63 hs64 => ?_)
   refine Nss (Rg [0, 1, 2, 3, 4, 5, 6, 7, 8] ?_)
   refine RWP.cut (fun f w => ∃ (F1 : Mem), HS w0 F0 w F1 [(sb b60 (kExpr x54 ae58_2 ne58_2) 33), (sb b46 (kExpr x32 ae44_2 ne44_2) 33), (sb b24 #[(vi 0), (vi 0), (.slice none ([] : List Expr).length 0)] 33), (sb b21 (kExpr x0 (some ⟨b36, o37, none⟩) n0_2) 33)] ∧ Mem.le F0 F1 ∧ FI f [] [(1, (pt b21 0)), (2, (pt b24 0)), (3, (pt b46 0)), (4, (pt b60 0)), (5, (.bool ((x32.Op == 1) && (x54.Op == 1))))]) ?_ ?_
   ·refine Vs 1 ?_
    refine Ld hs64.at1 ?_
    refine Vs 2 ?_
    refine RWP.split (x32.Op == 1) (fun hb74 => ?_) (fun hb74 => ?_)
    ·refine Vgs hb74 1 ?_
     refine Lg hb74 hs64.at0 ?_
     refine Vgs hb74 1 ?_
     refine Pk1 hb74 ?_
     refine Vs 1 ?_
     exact RWP.nil ⟨rfl, F0, hs64, (Mem.le.refl _), (fJ ⟨rfl, rfl, rfl, rfl, (congrArg Value.bool (and_t hb74 (rfl))), trivial⟩)⟩
    ·refine Ss hb74 3 ?_
     refine Pk0 hb74 ?_
     refine Vs 1 ?_
     exact RWP.nil ⟨rfl, F0, hs64, (Mem.le.refl _), (fJ ⟨rfl, rfl, rfl, rfl, (congrArg Value.bool (and_f hb74 (rfl))), trivial⟩)⟩
   ·rintro f w65 ⟨F1, hs66, le67, ⟨_, rfl⟩⟩
    refine thenQ_nrm ?_
    refine Sq ?_
    refine Sq (Rg [0, 1] ?_)
    refine Vs 1 ?_
    refine Ld hs66.at3 ?_
    refine Nt ?_
    refine Bk ?_
    refine Sq ?_
    refine Sq (Rg [0, 1] ?_)
    refine Vs 2 ?_
    refine Nt ?_
    refine CWP.cut (fun f w => ∃ (F2 : Mem), HS w0 F0 w F2 [(sb b60 (kExpr x54 ae58_2 ne58_2) 33), (sb b46 (kExpr x32 ae44_2 ne44_2) 33), (sb b24 #[(vi 0), (vi 0), (.slice none ([] : List Expr).length 0)] 33), (sb b21 (kExpr x0 (some ⟨b36, o37, none⟩) n0_2) 33)] ∧ Mem.le F1 F2 ∧ FI f [] [(1, (pt b21 0)), (2, (pt b24 0)), (3, (pt b46 0)), (4, (pt b60 0)), (5, (.bool ((x32.Op == 1) && (x54.Op == 1)))), (49, (vi x0.Op)), (50, (.bool (bif (x0.Op == 6) then (x0.Op == 6) else (x0.Op == 7))))]) ?_ ?_
    ·refine Cp (x0.Op == 6) (fun hb86 => ?_) (fun hb86 => ?_)
     ·refine Sc ?_
      exact .inl ⟨rfl, F1, hs66, (Mem.le.refl _), (fJ ⟨rfl, rfl, rfl, rfl, rfl, rfl, (congrArg Value.bool (bif_t hb86 (rfl))), trivial⟩)⟩
     ·refine Rg [0, 1] ?_
      refine Vs 2 ?_
      refine RWP.nil ?_
      exact .inl ⟨rfl, F1, hs66, (Mem.le.refl _), (fJ ⟨rfl, rfl, rfl, rfl, rfl, rfl, (congrArg Value.bool (bif_f hb86 (rfl))), trivial⟩)⟩
    ·rintro f w75 ⟨F2, hs76, le77, ⟨_, rfl⟩⟩
     refine thenQ_nrm ?_
     refine Cd h57 (fun hb87 h88 => ?_) (fun hb87 h89 => ?_)
     ·refine Sq (Rg [0, 1, 2, 3, 4, 5] ?_)
      obtain ⟨j93, hj101, h102⟩ := bind_some h88
      refine RWP.cut (fun f w => ∃ (F3 : Mem), HS w0 F0 w F3 [(sb b60 (kExpr x54 ae58_2 ne58_2) 33), (sb b46 (kExpr x32 ae44_2 ne44_2) 33), (sb b24 #[(vi 0), (vi 0), (.slice none ([] : List Expr).length 0)] 33), (sb b21 (kExpr x0 (some ⟨b36, o37, none⟩) n0_2) 33)] ∧ Mem.le F2 F3 ∧ FI f [] [(1, (pt b21 0)), (2, (pt b24 0)), (3, (pt b46 0)), (4, (pt b60 0)), (5, (.bool ((x32.Op == 1) && (x54.Op == 1)))), (58, (.bool j93))]) ?_ ?_
      ·refine Vs 2 ?_
       refine Sp hj101 (fun hb103 h104 => ?_) (fun hb103 h105 => ?_)
       ·refine Ss hb103 3 ?_
        refine Pk1 hb103 ?_
        obtain rfl := some_inj h104
        exact RWP.nil ⟨rfl, F2, hs76, (Mem.le.refl _), fI⟩
       ·refine Lg hb103 hs76.at1 ?_
        refine Lg hb103 hs76.at0 ?_
        obtain ⟨r106, hr107, h108⟩ := bind_some h105
        refine Cg hb103 co_rules_same hs76 (c_rules_same N w75 F2 hs76.pers (x32) ae44_2 ne44_2 hbe44_2 (SlA.mono hse44_2 (le67.trans le77)) (x54) ae58_2 ne58_2 hbe58_2 (SlA.mono hse58_2 (le67.trans le77)) _ hr107) ?_
        rintro _ F4 w110 hs111 le112 rfl
        refine Pk0 hb103 ?_
        obtain rfl := some_inj h108
        exact RWP.nil ⟨rfl, F4, hs111, le112, fI⟩
      ·rintro f w90 ⟨F3, hs91, le92, ⟨_, rfl⟩⟩
       refine thenQ_nrm ?_
       refine Cd h102 (fun hb114 h115 => ?_) (fun hb114 h116 => ?_)
       ·refine Sq (Rg [0, 1, 2, 3, 4, 5, 6, 7, 8, 9, 10, 11, 12, 13, 14, 15, 16, 17, 18, 19, 20, 21, 22, 23, 24] ?_)
        refine Vs 1 ?_
        refine Ld hs91.at3 ?_
        refine Vs 2 ?_
        refine Sp h115 (fun hb117 h118 => ?_) (fun hb117 h119 => ?_)
        ·refine Lg hb117 hs91.at1 ?_
         refine Lg hb117 hs91.at0 ?_
         obtain ⟨r120, hr121, h122⟩ := bind_some h118
         refine Cg hb117 co_rules_same hs91 (c_rules_same N w90 F3 hs91.pers (x32) ae44_2 ne44_2 hbe44_2 (SlA.mono hse44_2 ((le67.trans le77).trans le92)) (x54) ae58_2 ne58_2 hbe58_2 (SlA.mono hse58_2 ((le67.trans le77).trans le92)) _ hr121) ?_
         rintro _ F5 w124 hs125 le126 rfl
         refine Pk1 hb117 ?_
         refine Vs 1 ?_
         refine Sp h122 (fun hb128 h129 => ?_) (fun hb128 h130 => ?_)
         ·refine Ss hb128 4 ?_
          refine Su' 1 ?_
          refine Ss hb128 2 ?_
          refine Su' 5 ?_
          refine Ss hb128 1 ?_
          refine Pk1 hb128 ?_
          obtain ⟨r131, hr132, h133⟩ := bind_some h129
          refine Cl' co_rules_truthOf hs125 (c_rules_truthOf N w124 F5 hs125.pers (true) _ hr132) ?_
          rintro _ F6 w135 hs136 le137 ⟨ar131_0_2, nr131_0_2, rfl, hbr131_0_2, hsr131_0_2⟩
          refine St2 (kExpr r131 ar131_0_2 nr131_0_2) hs136 (fun w139 hs140 => ?_)
          refine Nt ?_
          refine Rt ?_
          refine blockQ_ret ?_
          refine thenQ_ret ?_
          obtain rfl := some_inj h133
          exact ⟨rfl, (.agg (kExpr r131 ar131_0_2 nr131_0_2)), res_of (l := [.cell 2 33]) (by kernel_rfl) (vs := [(.agg (kExpr r131 ar131_0_2 nr131_0_2))]) ⟨b24, 0, rfl, run_loadVar' (t := 33) (g := true) (s := 3) (by kernel_rfl) hs140.at2 rfl (by decide), trivial⟩, (.agg (kExpr r131 ar131_0_2 nr131_0_2)), F6, rfl, hs140.clear, ⟨ar131_0_2, nr131_0_2, rfl, hbr131_0_2, hsr131_0_2⟩⟩
         ·refine Vgs hb128 1 ?_
          refine Lg hb128 hs125.at3 ?_
          refine Vgs hb128 2 ?_
          refine Sp h130 (fun hb141 h142 => ?_) (fun hb141 h143 => ?_)
          ·cases h142
          ·cases h143
        ·refine Ss hb117 3 ?_
         refine Pk0 hb117 ?_
         refine Vs 1 ?_
         refine Vg 68 0 8 false 67 rfl (fa 33 1 0 0 1 b21 0 0) ?_
         refine Vg 69 3 8 false 67 rfl (ld 3 68 b21 0 false 1 (vi x0.Op) hs91.at3) ?_
         refine Vg 70 4 8 false 67 rfl (run_eql (t := 3) (t' := 3) (x := (.tmp 69)) (y := (.const (vi 7))) (k := .i64) (a := x0.Op) (b := 7) rfl rfl) ?_
         refine Vg 71 4 8 false 67 rfl (mv 70 (.bool (x0.Op == 7))) ?_
         refine Sp h119 (fun hb144 h145 => ?_) (fun hb144 h146 => ?_)
         ·cases h145
         ·cases h146
       ·refine Sc ?_
        refine blockQ_nrm ?_
        refine thenQ_nrm ?_
        refine Sq (Rg [0, 1] ?_)
        refine Ld hs91.at3 ?_
        refine St2 (kExpr x0 (some ⟨b36, o37, none⟩) n0_2) hs91 (fun w147 hs148 => ?_)
        refine Nt ?_
        refine Rt ?_
        obtain rfl := some_inj h116
        exact ⟨rfl, (.agg (kExpr x0 (some ⟨b36, o37, none⟩) n0_2)), res_of (l := [.cell 2 33]) (by kernel_rfl) (vs := [(.agg (kExpr x0 (some ⟨b36, o37, none⟩) n0_2))]) ⟨b24, 0, rfl, run_loadVar' (t := 33) (g := true) (s := 3) (by kernel_rfl) hs148.at2 rfl (by decide), trivial⟩, (.agg (kExpr x0 (some ⟨b36, o37, none⟩) n0_2)), F3, rfl, hs148.clear, ⟨(some ⟨b36, o37, none⟩), n0_2, rfl, hb0_2, (SlA.mono hs0_2 ((le67.trans le77).trans le92))⟩⟩
     ·refine Sq ?_
      refine Sq (Rg [0, 1] ?_)
      refine Vs 2 ?_
      refine Nt ?_
      refine CWP.cut (fun f w => ∃ (F7 : Mem), HS w0 F0 w F7 [(sb b60 (kExpr x54 ae58_2 ne58_2) 33), (sb b46 (kExpr x32 ae44_2 ne44_2) 33), (sb b24 #[(vi 0), (vi 0), (.slice none ([] : List Expr).length 0)] 33), (sb b21 (kExpr x0 (some ⟨b36, o37, none⟩) n0_2) 33)] ∧ Mem.le F2 F7 ∧ FI f [] [(1, (pt b21 0)), (2, (pt b24 0)), (3, (pt b46 0)), (4, (pt b60 0)), (5, (.bool ((x32.Op == 1) && (x54.Op == 1)))), (49, (vi x0.Op)), (83, (.bool (bif (x0.Op == 4) then (x0.Op == 4) else (x0.Op == 5))))]) ?_ ?_
      ·refine Cp (x0.Op == 4) (fun hb160 => ?_) (fun hb160 => ?_)
       ·refine Sc ?_
        exact .inl ⟨rfl, F2, hs76, (Mem.le.refl _), (fJ ⟨rfl, rfl, rfl, rfl, rfl, rfl, (congrArg Value.bool (bif_t hb160 (rfl))), trivial⟩)⟩
       ·refine Rg [0, 1] ?_
        refine Vs 2 ?_
        refine RWP.nil ?_
        exact .inl ⟨rfl, F2, hs76, (Mem.le.refl _), (fJ ⟨rfl, rfl, rfl, rfl, rfl, rfl, (congrArg Value.bool (bif_f hb160 (rfl))), trivial⟩)⟩
      ·rintro f w149 ⟨F7, hs150, le151, ⟨_, rfl⟩⟩
       refine thenQ_nrm ?_
       refine Cd h89 (fun hb161 h162 => ?_) (fun hb161 h163 => ?_)
       ·cases h162
       ·refine Sq ?_
        refine Sq (Rg [0, 1] ?_)
        refine Vs 2 ?_
        refine Nt ?_
        refine CWP.cut (fun f w => ∃ (F8 : Mem), HS w0 F0 w F8 [(sb b60 (kExpr x54 ae58_2 ne58_2) 33), (sb b46 (kExpr x32 ae44_2 ne44_2) 33), (sb b24 #[(vi 0), (vi 0), (.slice none ([] : List Expr).length 0)] 33), (sb b21 (kExpr x0 (some ⟨b36, o37, none⟩) n0_2) 33)] ∧ Mem.le F7 F8 ∧ FI f [] [(1, (pt b21 0)), (2, (pt b24 0)), (3, (pt b46 0)), (4, (pt b60 0)), (5, (.bool ((x32.Op == 1) && (x54.Op == 1)))), (49, (vi x0.Op)), (90, (.bool (bif (x0.Op == 8) then (x0.Op == 8) else (bif (x0.Op == 9) then (x0.Op == 9) else (x0.Op == 10)))))]) ?_ ?_
        ·refine Cp (x0.Op == 8) (fun hb175 => ?_) (fun hb175 => ?_)
         ·refine Sc ?_
          exact .inl ⟨rfl, F7, hs150, (Mem.le.refl _), (fJ ⟨rfl, rfl, rfl, rfl, rfl, rfl, (congrArg Value.bool (bif_t hb175 (rfl))), trivial⟩)⟩
         ·refine Sq (Rg [0, 1] ?_)
          refine Vs 2 ?_
          refine Nt ?_
          refine CWP.cut (fun f w => ∃ (F9 : Mem), HS w0 F0 w F9 [(sb b60 (kExpr x54 ae58_2 ne58_2) 33), (sb b46 (kExpr x32 ae44_2 ne44_2) 33), (sb b24 #[(vi 0), (vi 0), (.slice none ([] : List Expr).length 0)] 33), (sb b21 (kExpr x0 (some ⟨b36, o37, none⟩) n0_2) 33)] ∧ Mem.le F7 F9 ∧ FI f [] [(1, (pt b21 0)), (2, (pt b24 0)), (3, (pt b46 0)), (4, (pt b60 0)), (5, (.bool ((x32.Op == 1) && (x54.Op == 1)))), (49, (vi x0.Op)), (90, (.bool (bif (x0.Op == 9) then (x0.Op == 9) else (x0.Op == 10))))]) ?_ ?_
          ·refine Cp (x0.Op == 9) (fun hb187 => ?_) (fun hb187 => ?_)
           ·refine Sc ?_
            exact .inl ⟨rfl, F7, hs150, (Mem.le.refl _), (fJ ⟨rfl, rfl, rfl, rfl, rfl, rfl, (congrArg Value.bool (bif_t hb187 (rfl))), trivial⟩)⟩
           ·refine Rg [0, 1] ?_
            refine Vs 2 ?_
            refine RWP.nil ?_
            exact .inl ⟨rfl, F7, hs150, (Mem.le.refl _), (fJ ⟨rfl, rfl, rfl, rfl, rfl, rfl, (congrArg Value.bool (bif_f hb187 (rfl))), trivial⟩)⟩
          ·rintro f w176 ⟨F9, hs177, le178, ⟨_, rfl⟩⟩
           exact .inl ⟨rfl, F9, hs177, le178, (fJ ⟨rfl, rfl, rfl, rfl, rfl, rfl, (congrArg Value.bool (bif_f hb175 (rfl))), trivial⟩)⟩
        ·rintro f w164 ⟨F8, hs165, le166, ⟨_, rfl⟩⟩
         refine thenQ_nrm ?_
         refine Cd h163 (fun hb188 h189 => ?_) (fun hb188 h190 => ?_)
         ·refine Sq ?_
          refine Sq ?_
          obtain ⟨j196, hj204, h205⟩ := bind_some h189
          refine RD 4 4 [(sb b60 (kExpr x54 ae58_2 ne58_2) 33), (sb b46 (kExpr x32 ae44_2 ne44_2) 33), (sb b24 #[(vi 0), (vi 0), (.slice none ([] : List Expr).length 0)] 33), (sb b21 (kExpr x0 (some ⟨b36, o37, none⟩) n0_2) 33)] [] hs165 (fun f w => ∃ (F10 : Mem), HS w0 F0 w F10 [(sb b60 (kExpr x54 ae58_2 ne58_2) 33), (sb b46 (kExpr x32 ae44_2 ne44_2) 33), (sb b24 #[(vi 0), (vi 0), (.slice none ([] : List Expr).length 0)] 33), (sb b21 (kExpr x0 (some ⟨b36, o37, none⟩) n0_2) 33)] ∧ Mem.le F8 F10 ∧ FI f [] [(1, (pt b21 0)), (2, (pt b24 0)), (3, (pt b46 0)), (4, (pt b60 0)), (5, (.bool ((x32.Op == 1) && (x54.Op == 1)))), (6, (vi j196))]) (fun wd191 hw192 => ?_) ?_
          ·refine Dl 0 (fun _ hq => (hq.1.2 3 _ _ rfl)) ?_
           refine D1 1 ?_
           obtain ⟨r206, hm207, h208⟩ := bind_some hj204
           refine DStep.makeSlice (l' := [true, true, false, false]) (zd := true) (by kernel_rfl) (by kernel_rfl) (dst := (some 95)) (ty := 47) (g := none) (by kernel_rfl) rfl (x := (.const (vi 14))) (y := (.const (vi 14))) (t := 47) (by_ := 8) (z := (vi 0)) (T := tInt) (E := 3) rfl rfl (by kernel_rfl) (by decide) (by kernel_rfl) (z0 := 0) (fun _ => rfl) (by decide) hw192 hm207 (Mem.le.refl _) (by simp) (fun e => by cases e) (fun b209 n210 C211 w212 (hs213 : HS w0 F0 w212 F8 [(some b209, .cells C211 3 (0, 0)), (sb b60 (kExpr x54 ae58_2 ne58_2) 33), (sb b46 (kExpr x32 ae44_2 ne44_2) 33), (sb b24 #[(vi 0), (vi 0), (.slice none ([] : List Expr).length 0)] 33), (sb b21 (kExpr x0 (some ⟨b36, o37, none⟩) n0_2) 33)]) hr214 => ?_)
           refine D1 2 ?_
           have hb219 := RowR.bound hr214
           obtain ⟨F11, hs216, le217, hs218⟩ := hs213.fr0 hr214
           obtain ⟨r220, hr221, h222⟩ := bind_some h208
           refine DCl co_rules_value hs216 (c_rules_value N w212 F11 hs216.pers (x0) (some ⟨b36, o37, none⟩) n0_2 hb0_2 (SlA.mono hs0_2 ((((le67.trans le77).trans le151).trans le166).trans le217)) (r206) (some ⟨b209, 0, none⟩) n210 hb219 hs218 _ hr221) ?_
           rintro _ F12 w224 hs225 le226 rfl
           refine Dv [3] ?_
           obtain rfl := some_inj h222
           exact DWP.done (by kernel_rfl) ⟨F12, hs225, (le217.trans le226), fI⟩
          ·rintro f w193 ⟨F10, hs194, le195, ⟨_, rfl⟩⟩
           refine thenQ_nrm ?_
           refine Sq (Rg [0, 1, 2, 3, 4] ?_)
           refine RWP.cut (fun f w => ∃ (F13 : Mem), HS w0 F0 w F13 [(sb b60 (kExpr x54 ae58_2 ne58_2) 33), (sb b46 (kExpr x32 ae44_2 ne44_2) 33), (sb b24 #[(vi 0), (vi 0), (.slice none ([] : List Expr).length 0)] 33), (sb b21 (kExpr x0 (some ⟨b36, o37, none⟩) n0_2) 33)] ∧ Mem.le F10 F13 ∧ FI f [] [(1, (pt b21 0)), (2, (pt b24 0)), (3, (pt b46 0)), (4, (pt b60 0)), (6, (vi j196)), (101, (.bool (((x32.Op == 1) && (x54.Op == 1)) && (decide (j196 ≥ 0)))))]) ?_ ?_
           ·refine Vs 2 ?_
            refine RWP.split ((x32.Op == 1) && (x54.Op == 1)) (fun hb238 => ?_) (fun hb238 => ?_)
            ·refine Vgs hb238 2 ?_
             refine Pk1 hb238 ?_
             exact RWP.nil ⟨rfl, F10, hs194, (Mem.le.refl _), (fJ ⟨rfl, rfl, rfl, rfl, rfl, (congrArg Value.bool (and_t hb238 (rfl))), trivial⟩)⟩
            ·refine Ss hb238 2 ?_
             refine Pk0 hb238 ?_
             exact RWP.nil ⟨rfl, F10, hs194, (Mem.le.refl _), (fJ ⟨rfl, rfl, rfl, rfl, rfl, (congrArg Value.bool (and_f hb238 (rfl))), trivial⟩)⟩
           ·rintro f w228 ⟨F13, hs229, le230, ⟨_, rfl⟩⟩
            refine thenQ_nrm ?_
            refine Cd h205 (fun hb239 h240 => ?_) (fun hb239 h241 => ?_)
            ·refine Sq (Rg [0, 1, 2] ?_)
             refine Vs 1 ?_
             obtain ⟨r242, hr243, h244⟩ := bind_some h240
             refine Cl' co_rules_constant hs229 (c_rules_constant N w228 F13 hs229.pers (j196) _ hr243) ?_
             rintro _ F14 w246 hs247 le248 ⟨ar242_0_2, nr242_0_2, rfl, hbr242_0_2, hsr242_0_2⟩
             refine St2 (kExpr r242 ar242_0_2 nr242_0_2) hs247 (fun w250 hs251 => ?_)
             refine Nt ?_
             refine Rt ?_
             refine thenQ_ret ?_
             refine blockQ_ret ?_
             refine thenQ_ret ?_
             obtain rfl := some_inj h244
             exact ⟨rfl, (.agg (kExpr r242 ar242_0_2 nr242_0_2)), res_of (l := [.cell 2 33]) (by kernel_rfl) (vs := [(.agg (kExpr r242 ar242_0_2 nr242_0_2))]) ⟨b24, 0, rfl, run_loadVar' (t := 33) (g := true) (s := 3) (by kernel_rfl) hs251.at2 rfl (by decide), trivial⟩, (.agg (kExpr r242 ar242_0_2 nr242_0_2)), F14, rfl, hs251.clear, ⟨ar242_0_2, nr242_0_2, rfl, hbr242_0_2, hsr242_0_2⟩⟩
            ·refine Sc ?_
             refine thenQ_nrm ?_
             refine Sq (Rg [0, 1, 2, 3, 4] ?_)
             refine Ld hs229.at3 ?_
             refine Ld hs229.at1 ?_
             refine Ld hs229.at0 ?_
             obtain ⟨r252, hr253, h254⟩ := bind_some h241
             refine Cl' co_rules_reckoned hs229 (c_rules_reckoned N w228 F13 hs229.pers (x0) (some ⟨b36, o37, none⟩) n0_2 hb0_2 (SlA.mono hs0_2 (((((le67.trans le77).trans le151).trans le166).trans le195).trans le230)) (x32) ae44_2 ne44_2 hbe44_2 (SlA.mono hse44_2 (((((le67.trans le77).trans le151).trans le166).trans le195).trans le230)) (x54) ae58_2 ne58_2 hbe58_2 (SlA.mono hse58_2 (((((le67.trans le77).trans le151).trans le166).trans le195).trans le230)) _ hr253) ?_
             rintro _ F15 w256 hs257 le258 ⟨ar252_0_2, nr252_0_2, rfl, hbr252_0_2, hsr252_0_2⟩
             refine St2 (kExpr r252 ar252_0_2 nr252_0_2) hs257 (fun w260 hs261 => ?_)
             refine Nt ?_
             refine Rt ?_
             refine blockQ_ret ?_
             refine thenQ_ret ?_
             obtain rfl := some_inj h254
             exact ⟨rfl, (.agg (kExpr r252 ar252_0_2 nr252_0_2)), res_of (l := [.cell 2 33]) (by kernel_rfl) (vs := [(.agg (kExpr r252 ar252_0_2 nr252_0_2))]) ⟨b24, 0, rfl, run_loadVar' (t := 33) (g := true) (s := 3) (by kernel_rfl) hs261.at2 rfl (by decide), trivial⟩, (.agg (kExpr r252 ar252_0_2 nr252_0_2)), F15, rfl, hs261.clear, ⟨ar252_0_2, nr252_0_2, rfl, hbr252_0_2, hsr252_0_2⟩⟩
         ·refine Sq (Rg [0, 1] ?_)
          refine Vs 2 ?_
          refine Nt ?_
          refine Cd h190 (fun hb262 h263 => ?_) (fun hb262 h264 => ?_)
          ·refine Bk ?_
           refine Sq (Rg [0, 1, 2] ?_)
           refine Ld hs165.at1 ?_
           obtain ⟨r265, hr266, h267⟩ := bind_some h263
           refine Cl' co_rules_isTruth hs165 (c_rules_isTruth N w164 F8 hs165.pers (x32) ae44_2 ne44_2 hbe44_2 (SlA.mono hse44_2 (((le67.trans le77).trans le151).trans le166)) (true) _ hr266) ?_
           rintro _ F16 w269 hs270 le271 rfl
           refine Vs 1 ?_
           refine Nt ?_
           refine Cd h267 (fun hb273 h274 => ?_) (fun hb273 h275 => ?_)
           ·refine Sq (Rg [0, 1] ?_)
            refine Ld hs270.at0 ?_
            refine St2 (kExpr x54 ae58_2 ne58_2) hs270 (fun w276 hs277 => ?_)
            refine Nt ?_
            refine Rt ?_
            refine blockQ_ret ?_
            refine blockQ_ret ?_
            refine thenQ_ret ?_
            obtain rfl := some_inj h274
            exact ⟨rfl, (.agg (kExpr x54 ae58_2 ne58_2)), res_of (l := [.cell 2 33]) (by kernel_rfl) (vs := [(.agg (kExpr x54 ae58_2 ne58_2))]) ⟨b24, 0, rfl, run_loadVar' (t := 33) (g := true) (s := 3) (by kernel_rfl) hs277.at2 rfl (by decide), trivial⟩, (.agg (kExpr x54 ae58_2 ne58_2)), F16, rfl, hs277.clear, ⟨ae58_2, ne58_2, rfl, hbe58_2, (SlA.mono hse58_2 ((((le67.trans le77).trans le151).trans le166).trans le271))⟩⟩
           ·refine Sq (Rg [0, 1, 2] ?_)
            refine Ld hs270.at1 ?_
            obtain ⟨r278, hr279, h280⟩ := bind_some h275
            refine Cl' co_rules_isTruth hs270 (c_rules_isTruth N w269 F16 hs270.pers (x32) ae44_2 ne44_2 hbe44_2 (SlA.mono hse44_2 ((((le67.trans le77).trans le151).trans le166).trans le271)) (false) _ hr279) ?_
            rintro _ F17 w282 hs283 le284 rfl
            refine Vs 1 ?_
            refine Nt ?_
            refine Cd h280 (fun hb286 h287 => ?_) (fun hb286 h288 => ?_)
            ·refine Sq (Rg [0, 1, 2, 3, 4] ?_)
             refine Vs 1 ?_
             refine Ld hs283.at3 ?_
             obtain ⟨x289, hx290, h292⟩ := bind_some h287
             obtain ⟨hi291, hx290'⟩ := idx_spec hx290
             obtain ⟨ae293_2, ne293_2, hc294, hbe293_2, hse293_2⟩ := (tExpr_open (hE43 _ _ hx290'))
             refine Ix hi291 ?_
             refine Lx 0 (hs283.pers _ _ ((((((le67.trans le77).trans le151).trans le166).trans le271).trans le284) _ _ hF42)) hc294 ?_
             refine St2 (kExpr x289 ae293_2 ne293_2) hs283 (fun w295 hs296 => ?_)
             refine Nt ?_
             refine Rt ?_
             refine blockQ_ret ?_
             refine blockQ_ret ?_
             refine thenQ_ret ?_
             obtain rfl := some_inj h292
             exact ⟨rfl, (.agg (kExpr x289 ae293_2 ne293_2)), res_of (l := [.cell 2 33]) (by kernel_rfl) (vs := [(.agg (kExpr x289 ae293_2 ne293_2))]) ⟨b24, 0, rfl, run_loadVar' (t := 33) (g := true) (s := 3) (by kernel_rfl) hs296.at2 rfl (by decide), trivial⟩, (.agg (kExpr x289 ae293_2 ne293_2)), F17, rfl, hs296.clear, ⟨ae293_2, ne293_2, rfl, hbe293_2, (SlA.mono hse293_2 (((((le67.trans le77).trans le151).trans le166).trans le271).trans le284))⟩⟩
            ·refine Sq ?_
             obtain ⟨j302, hj308, h309⟩ := bind_some h288
             refine RD 7 7 [(sb b60 (kExpr x54 ae58_2 ne58_2) 33), (sb b46 (kExpr x32 ae44_2 ne44_2) 33), (sb b24 #[(vi 0), (vi 0), (.slice none ([] : List Expr).length 0)] 33), (sb b21 (kExpr x0 (some ⟨b36, o37, none⟩) n0_2) 33)] [] hs283 (fun f w => ∃ (F18 : Mem), HS w0 F0 w F18 [(sb b60 (kExpr x54 ae58_2 ne58_2) 33), (sb b24 #[(vi 0), (vi 0), (.slice none ([] : List Expr).length 0)] 33), (sb b21 (kExpr x0 (some ⟨b36, o37, none⟩) n0_2) 33)] ∧ Mem.le F17 F18 ∧ FI f [] [(1, (pt b21 0)), (2, (pt b24 0)), (4, (pt b60 0)), (121, (.bool j302))]) (fun wd297 hw298 => ?_) ?_
             ·refine Dl 0 (fun _ hq => (hq.1.2 0 _ _ rfl)) ?_
              refine Dv [1] ?_
              refine Dl 2 (fun _ hq => (hq.1.2 3 _ _ rfl)) ?_
              obtain ⟨x310, hx311, h313⟩ := bind_some hj308
              obtain ⟨hi312, hx311'⟩ := idx_spec hx311
              obtain ⟨ae314_2, ne314_2, hc315, hbe314_2, hse314_2⟩ := (tExpr_open (hE43 _ _ hx311'))
              refine Di 3 hi312 ?_
              refine Dx 4 0 (fun _ hq => hq.1.1 _ _ ((((((le67.trans le77).trans le151).trans le166).trans le271).trans le284) _ _ hF42)) hc315 ?_
              refine D1 5 ?_
              obtain ⟨r316, hr317, h318⟩ := bind_some h313
              refine DCl co_rules_same hw298 (c_rules_same N wd297 F17 hw298.pers (x54) ae58_2 ne58_2 hbe58_2 (SlA.mono hse58_2 (((((le67.trans le77).trans le151).trans le166).trans le271).trans le284)) (x310) ae314_2 ne314_2 hbe314_2 (SlA.mono hse314_2 (((((le67.trans le77).trans le151).trans le166).trans le271).trans le284)) _ hr317) ?_
              rintro _ F19 w320 hs321 le322 rfl
              refine Dv [6] ?_
              obtain rfl := some_inj h318
              exact DWP.done (by kernel_rfl) ⟨F19, hs321.dr1, le322, fI⟩
             ·rintro f w299 ⟨F18, hs300, le301, ⟨_, rfl⟩⟩
              refine thenQ_nrm ?_
              refine Cd h309 (fun hb324 h325 => ?_) (fun hb324 h326 => ?_)
              ·refine Sq (Rg [0, 1] ?_)
               refine Ld hs300.at0 ?_
               refine St1 (kExpr x54 ae58_2 ne58_2) hs300 (fun w327 hs328 => ?_)
               refine Nt ?_
               refine Rt ?_
               refine blockQ_ret ?_
               refine blockQ_ret ?_
               refine thenQ_ret ?_
               obtain rfl := some_inj h325
               exact ⟨rfl, (.agg (kExpr x54 ae58_2 ne58_2)), res_of (l := [.cell 2 33]) (by kernel_rfl) (vs := [(.agg (kExpr x54 ae58_2 ne58_2))]) ⟨b24, 0, rfl, run_loadVar' (t := 33) (g := true) (s := 3) (by kernel_rfl) hs328.at1 rfl (by decide), trivial⟩, (.agg (kExpr x54 ae58_2 ne58_2)), F18, rfl, hs328.clear, ⟨ae58_2, ne58_2, rfl, hbe58_2, (SlA.mono hse58_2 ((((((le67.trans le77).trans le151).trans le166).trans le271).trans le284).trans le301))⟩⟩
              ·refine Sc ?_
               refine blockQ_nrm ?_
               refine blockQ_nrm ?_
               refine thenQ_nrm ?_
               refine Sq (Rg [0, 1] ?_)
               refine Ld hs300.at2 ?_
               refine St1 (kExpr x0 (some ⟨b36, o37, none⟩) n0_2) hs300 (fun w329 hs330 => ?_)
               refine Nt ?_
               refine Rt ?_
               obtain rfl := some_inj h326
               exact ⟨rfl, (.agg (kExpr x0 (some ⟨b36, o37, none⟩) n0_2)), res_of (l := [.cell 2 33]) (by kernel_rfl) (vs := [(.agg (kExpr x0 (some ⟨b36, o37, none⟩) n0_2))]) ⟨b24, 0, rfl, run_loadVar' (t := 33) (g := true) (s := 3) (by kernel_rfl) hs330.at1 rfl (by decide), trivial⟩, (.agg (kExpr x0 (some ⟨b36, o37, none⟩) n0_2)), F18, rfl, hs330.clear, ⟨(some ⟨b36, o37, none⟩), n0_2, rfl, hb0_2, (SlA.mono hs0_2 ((((((le67.trans le77).trans le151).trans le166).trans le271).trans le284).trans le301))⟩⟩
          ·cases h264
end Go.Proofs.YtaihlcdkcampbaaGreatDoor
namespace Go.Proofs.YtaihlcdkcampbaaGreatDoor
open Go.Proofs
def Self94 (sR94 : Expr → Option Expr) : Prop := ∀ (w0 : World) (F0 : Mem) (hF : ∀ b o, F0 b = some o → w0.heap[b]? = some o) (x0 : Expr) (a0_2 : Option Addr) (n0_2 : Nat) (hb0_2 : LC x0.Kids.length n0_2) (hs0_2 : SlA tExpr F0 a0_2 x0.Kids) (r : Expr), sR94 x0 = some r → Calls Tryz.prog 94 ([(.agg #[(.int .i64 x0.Op), (.int .i64 x0.Value), (.slice a0_2 x0.Kids.length n0_2)])] : List Value).toArray w0 (FRet w0 F0 fun F' v => ∃ (aq0_2 : Option Addr) (nq0_2 : Nat), v = (.agg #[(.int .i64 r.Op), (.int .i64 r.Value), (.slice aq0_2 r.Kids.length nq0_2)]) ∧ LC r.Kids.length nq0_2 ∧ SlA tExpr F' aq0_2 r.Kids)
theorem co_rules_simplified : CallOk Tryz.prog 94 := fun _ _ => by kernel_rfl
end Go.Proofs.YtaihlcdkcampbaaGreatDoor
namespace Go.Proofs.YtaihlcdkcampbaaGreatDoor
open Go.Proofs
def rules_simplified_L0 (N : Nat) (sR94 : Expr → Option Expr) (x0 : Expr) : (Int × List Expr) → Option (Flow Expr (Int × List Expr)) := fun s37 =>
 (bif (decide (s37.1 < (x0.Kids.length : Int))) then ((idx x0.Kids s37.1).bind fun x63 => (((sR94 x63).bind fun r96 => ((apnd s37.2 [r96]).bind fun r109 => some r109)).bind fun j87 => some (.next ((W64 (s37.1 + 1)), j87)))) else some (.done (s37.1, s37.2)))
def rules_simplified_S (N : Nat) (sR94 : Expr → Option Expr) (x0 : Expr) : Option Expr :=
 ((iter (rules_simplified_L0 N sR94 x0) N (0, ([] : List Expr))).bind fun o => o.k (fun r => some r) (fun s47 => ((rules_simpler N ({ Op := x0.Op, Value := x0.Value, Kids := s47.2 } : Expr)).bind fun r127 => some r127)))
theorem cS_rules_simplified (N : Nat) (sR94 : Expr → Option Expr) (hsR94 : Self94 sR94) (w0 : World) (F0 : Mem) (hF : ∀ b o, F0 b = some o → w0.heap[b]? = some o) (x0 : Expr) (a0_2 : Option Addr) (n0_2 : Nat) (hb0_2 : LC x0.Kids.length n0_2) (hs0_2 : SlA tExpr F0 a0_2 x0.Kids) (r : Expr) (h : rules_simplified_S N sR94 x0 = some r) :
  Calls Tryz.prog 94 ([(.agg (kExpr x0 a0_2 n0_2))] : List Value).toArray w0 (FRet w0 F0 fun F' v => ∃ (aq0_2 : Option Addr) (nq0_2 : Nat), v = (.agg (kExpr r aq0_2 nq0_2)) ∧ LC r.Kids.length nq0_2 ∧ SlA tExpr F' aq0_2 r.Kids) := by
 have hs0 := HS.start hF
 refine Go 28 Tryz.func94 ?_
 refine Sq (Rg [0, 1] ?_)
 refine Bx' 33 (kExpr x0 a0_2 n0_2) hs0 (fun b21 w22 hs23 => ?_)
 refine Al' 33 #[(vi 0), (vi 0), (.slice none ([] : List Expr).length 0)] hs23 (fun b24 w25 hs26 => ?_)
 refine Nss (Rg [0, 1, 2, 3, 4, 5, 6] ?_)
 refine Vs 1 ?_
 refine Ld hs26.at1 ?_
 refine Vs 1 ?_
 refine Ld hs26.at1 ?_
 refine Vs 1 ?_
 refine Al' 33 #[(vi 0), (vi 0), (.slice none ([] : List Expr).length 0)] hs26 (fun b27 w28 hs29 => ?_)
 refine St0 #[(vi x0.Op), (vi x0.Value), (.slice none ([] : List Expr).length 0)] hs29 (fun w30 hs31 => ?_)
 refine Nss ?_
 refine Sq (Rg [0, 1, 2, 3] ?_)
 refine Vs 1 ?_
 refine Ld hs31.at2 ?_
 refine Vs 2 ?_
 refine Nt ?_
 have hs32 := hs31.dr2.dummy (oc #[] 0)
 obtain ⟨o34, ho35, h36⟩ := bind_some h
 refine CWP.cut (fun f w => ∃ (s47 : (Int × List Expr)) (F2 : Mem) (as47_1 : Option Addr) (ns47_1 : Nat) (es47_1 : Option Nat × Obj), o34 = .done s47 ∧ HS w0 F0 w F2 [es47_1, (sb b27 #[(vi x0.Op), (vi x0.Value), (.slice as47_1 s47.2.length ns47_1)] 33), (sb b24 #[(vi 0), (vi 0), (.slice none ([] : List Expr).length 0)] 33)] ∧ Mem.le F0 F2 ∧ FI f [] [(2, (pt b24 0)), (3, (pt b27 0))] ∧ RowR tExpr 33 F2 as47_1 ns47_1 s47.2 es47_1) ?_ ?_
 ·refine Bk ?_
  refine CWP.loop (by kernel_rfl) (fun m f w => ∃ (s37 : (Int × List Expr)) (F1 : Mem) (as37_1 : Option Addr) (ns37_1 : Nat) (es37_1 : Option Nat × Obj), iter (rules_simplified_L0 N sR94 x0) m s37 = some o34 ∧ HS w0 F0 w F1 [es37_1, (sb b27 #[(vi x0.Op), (vi x0.Value), (.slice as37_1 s37.2.length ns37_1)] 33), (sb b24 #[(vi 0), (vi 0), (.slice none ([] : List Expr).length 0)] 33)] ∧ Mem.le F0 F1 ∧ FI f [] [(2, (pt b24 0)), (3, (pt b27 0)), (12, (.slice a0_2 x0.Kids.length n0_2)), (13, (vi (x0.Kids.length : Int))), (14, (vi s37.1))] ∧ RowR tExpr 33 F1 as37_1 ns37_1 s37.2 es37_1) N ⟨(0, ([] : List Expr)), F0, none, 0, (none, .cells #[] 0 (0, 0)), ho35, hs32, (Mem.le.refl _), fI, (RowR.nil tExpr 33 F0 _)⟩ ?_
  rintro m54 f w38 ⟨s37, F1, as37_1, ns37_1, es37_1, hit55, hs39, le40, ⟨_, rfl⟩, hrs37_1⟩
  obtain ⟨m56, fl57, rfl, hb58, hnx59⟩ := iter_step hit55
  refine Sq (Rg [0] ?_)
  refine Vs 1 ?_
  refine Nss ?_
  refine Cd hb58 (fun hb60 h61 => ?_) (fun hb60 h62 => ?_)
  ·refine Sc ?_
   refine thenQ_nrm ?_
   refine Sq ?_
   refine Bk ?_
   refine Sq (Rg [0, 1, 2, 3] ?_)
   obtain ⟨x63, hx64, h66⟩ := bind_some h61
   obtain ⟨hi65, hx64'⟩ := idx_spec hx64
   obtain ⟨b67, o68, C69, E70, fz71, rfl, hF73, hE74⟩ := SlA.open (SlA.mono hs0_2 le40) hx64'
   obtain ⟨ae75_2, ne75_2, hc76, hbe75_2, hse75_2⟩ := (tExpr_open (hE74 _ _ hx64'))
   refine Ix hi65 ?_
   refine Lx 0 (hs39.pers _ _ hF73) hc76 ?_
   refine Al' 33 #[(vi 0), (vi 0), (.slice none ([] : List Expr).length 0)] hs39 (fun b77 w78 hs79 => ?_)
   refine St0 (kExpr x63 ae75_2 ne75_2) hs79 (fun w80 hs81 => ?_)
   refine Nt ?_
   obtain ⟨j87, hj94, h95⟩ := bind_some h66
   refine RD 7 8 [(sb b77 (kExpr x63 ae75_2 ne75_2) 33), (sb b24 #[(vi 0), (vi 0), (.slice none ([] : List Expr).length 0)] 33)] [(sb b27 #[(vi x0.Op), (vi x0.Value), (.slice as37_1 s37.2.length ns37_1)] 33)] hs81 (fun f w => ∃ (F3 : Mem) (aj87_0 : Option Addr) (nj87_0 : Nat) (ej87_0 : Option Nat × Obj), HS w0 F0 w F3 [ej87_0, (sb b27 #[(vi x0.Op), (vi x0.Value), (.slice aj87_0 j87.length nj87_0)] 33), (sb b24 #[(vi 0), (vi 0), (.slice none ([] : List Expr).length 0)] 33)] ∧ Mem.le F1 F3 ∧ FI f [] [(2, (pt b24 0)), (3, (pt b27 0)), (12, (.slice (some ⟨b67, o68, none⟩) x0.Kids.length n0_2)), (13, (vi (x0.Kids.length : Int))), (14, (vi s37.1))] ∧ RowR tExpr 33 F3 aj87_0 nj87_0 j87 ej87_0) (fun wd82 hw83 => ?_) ?_
   ·refine Dv [0] ?_
    refine Dl 1 (fun _ hq => ((hq.2 rfl).2 0 _ _ rfl)) ?_
    refine Dl 2 (fun _ hq => (hq.1.2 0 _ _ rfl)) ?_
    refine D1 3 ?_
    obtain ⟨r96, hr97, h98⟩ := bind_some hj94
    refine DCl co_rules_simplified hw83 (hsR94 wd82 F1 hw83.pers (x63) ae75_2 ne75_2 hbe75_2 hse75_2 _ hr97) ?_
    rintro _ F4 w100 hs101 le102 ⟨ar96_0_2, nr96_0_2, rfl, hbr96_0_2, hsr96_0_2⟩
    refine D1 4 ?_
    refine DBs 33 [(vi r96.Op), (vi r96.Value), (.slice ar96_0_2 r96.Kids.length nr96_0_2)] hs101 le102 (fun b104 w105 hs106 => ?_)
    have hr108 : RowR tExpr 33 F4 (some ⟨b104, 0, none⟩) 1 [r96] (some b104, .cells ([(vi r96.Op), (vi r96.Value), (.slice ar96_0_2 r96.Kids.length nr96_0_2)] : List Value).toArray 33 (0, 0)) := RowR.lit ⟨(tExpr_mk ⟨ar96_0_2, nr96_0_2, rfl, hbr96_0_2, hsr96_0_2⟩), rfl⟩ (by simp)
    refine D1 5 ?_
    obtain ⟨r109, hap110, h111⟩ := bind_some h98
    refine DAp2 oExpr hs106 (hrs37_1.mono le102) (hs106.rd0 hr108) hap110 le102 (fun a112 n113 e114 w115 hs116 hr117 => ?_)
    refine Dv [6] ?_
    refine D1 7 ?_
    refine DSt3 #[(vi x0.Op), (vi x0.Value), (.slice a112 r109.length n113)] hs116 le102 (fun w118 hs119 => ?_)
    obtain rfl := some_inj h111
    exact DWP.done (by kernel_rfl) ⟨F4, a112, n113, e114, hs119.dr0.dr0, le102, fI, hr117⟩
   ·rintro f w84 ⟨F3, aj87_0, nj87_0, ej87_0, hs85, le86, ⟨_, rfl⟩, hrj87_0⟩
    refine blockQ_nrm ?_
    refine thenQ_nrm ?_
    refine Rg [0, 1] ?_
    refine Vs 2 ?_
    refine RWP.nil ?_
    have hn120 := iter_next h95 hnx59
    exact ⟨m56, Nat.lt_succ_self _, ((W64 (s37.1 + 1)), j87), F3, aj87_0, nj87_0, ej87_0, hn120, hs85, (le40.trans le86), fI, hrj87_0⟩
  ·refine Ex ?_
   refine thenQ_ex ?_
   refine thenQ_ex ?_
   refine blockQ_hit rfl ?_
   have ho121 := iter_done h62 hnx59
   exact .inl ⟨rfl, (s37.1, s37.2), F1, as37_1, ns37_1, es37_1, ho121, hs39, le40, fI, hrs37_1⟩
 ·rintro f w48 ⟨s47, F2, as47_1, ns47_1, es47_1, rfl, hs49, le50, ⟨_, rfl⟩, hrs47_1⟩
  have h122 := k_done h36
  refine thenQ_nrm ?_
  refine Sq (Rg [0, 1, 2] ?_)
  refine Ld hs49.at1 ?_
  have hb126 := RowR.bound hrs47_1
  obtain ⟨F5, hs123, le124, hs125⟩ := hs49.fr0 hrs47_1
  obtain ⟨r127, hr128, h129⟩ := bind_some h122
  refine Cl' co_rules_simpler hs123 (c_rules_simpler N w48 F5 hs123.pers (({ Op := x0.Op, Value := x0.Value, Kids := s47.2 } : Expr)) as47_1 ns47_1 hb126 hs125 _ hr128) ?_
  rintro _ F6 w131 hs132 le133 ⟨ar127_0_2, nr127_0_2, rfl, hbr127_0_2, hsr127_0_2⟩
  refine St1 (kExpr r127 ar127_0_2 nr127_0_2) hs132 (fun w135 hs136 => ?_)
  refine Nt ?_
  refine Rt ?_
  obtain rfl := some_inj h129
  exact ⟨rfl, (.agg (kExpr r127 ar127_0_2 nr127_0_2)), res_of (l := [.cell 2 33]) (by kernel_rfl) (vs := [(.agg (kExpr r127 ar127_0_2 nr127_0_2))]) ⟨b24, 0, rfl, run_loadVar' (t := 33) (g := true) (s := 3) (by kernel_rfl) hs136.at1 rfl (by decide), trivial⟩, (.agg (kExpr r127 ar127_0_2 nr127_0_2)), F6, rfl, hs136.clear, ⟨ar127_0_2, nr127_0_2, rfl, hbr127_0_2, hsr127_0_2⟩⟩
end Go.Proofs.YtaihlcdkcampbaaGreatDoor
namespace Go.Proofs.YtaihlcdkcampbaaGreatDoor
open Go.Proofs
structure Rec94 where
 q94 : Expr → Option Expr
def rec94 (N : Nat) : Nat → Rec94
 | 0 => ⟨fun _ => none⟩
 | k + 1 => ⟨rules_simplified_S N (rec94 N k).q94⟩
theorem rec94_ok (N : Nat) : ∀ k, Self94 (rec94 N k).q94
 | 0 => (by unfold Self94; intros; rename_i h; cases h)
 | k + 1 => by
  have ih := rec94_ok N k
  exact @cS_rules_simplified N (rec94 N k).q94 ih
def rules_simplified (N : Nat) (x0 : Expr) : Option Expr := (rec94 N N).q94 x0
theorem c_rules_simplified (N : Nat) (w0 : World) (F0 : Mem) (hF : ∀ b o, F0 b = some o → w0.heap[b]? = some o) (x0 : Expr) (a0_2 : Option Addr) (n0_2 : Nat) (hb0_2 : LC x0.Kids.length n0_2) (hs0_2 : SlA tExpr F0 a0_2 x0.Kids) (r : Expr) (h : rules_simplified N x0 = some r) :
  Calls Tryz.prog 94 ([(.agg #[(.int .i64 x0.Op), (.int .i64 x0.Value), (.slice a0_2 x0.Kids.length n0_2)])] : List Value).toArray w0 (FRet w0 F0 fun F' v => ∃ (aq0_2 : Option Addr) (nq0_2 : Nat), v = (.agg #[(.int .i64 r.Op), (.int .i64 r.Value), (.slice aq0_2 r.Kids.length nq0_2)]) ∧ LC r.Kids.length nq0_2 ∧ SlA tExpr F' aq0_2 r.Kids) := (rec94_ok N N) w0 F0 hF x0 a0_2 n0_2 hb0_2 hs0_2 r h
end Go.Proofs.YtaihlcdkcampbaaGreatDoor
namespace Go.Proofs.YtaihlcdkcampbaaGreatDoor
open Go.Proofs
def rules_Simplify (N : Nat) (x0 : Expr) : Option (Expr × Int) :=
 ((rules_sound N x0).bind fun r27 => (bif (!r27) then some (({ Op := 0, Value := 0, Kids := ([] : List Expr) } : Expr), 61) else ((rules_simplified N x0).bind fun r40 => some (r40, 0))))
theorem co_rules_Simplify : CallOk Tryz.prog 30 := fun _ _ => by kernel_rfl
theorem c_rules_Simplify (N : Nat) (w0 : World) (F0 : Mem) (hF : ∀ b o, F0 b = some o → w0.heap[b]? = some o) (x0 : Expr) (a0_2 : Option Addr) (n0_2 : Nat) (hb0_2 : LC x0.Kids.length n0_2) (hs0_2 : SlA tExpr F0 a0_2 x0.Kids) (r : (Expr × Int)) (h : rules_Simplify N x0 = some r) :
  Calls Tryz.prog 30 ([(.agg (kExpr x0 a0_2 n0_2))] : List Value).toArray w0 (FRet w0 F0 fun F' v => ∃ (aq0_2 : Option Addr) (nq0_2 : Nat), v = (.tuple #[(.agg (kExpr r.1 aq0_2 nq0_2)), (vi r.2)]) ∧ LC r.1.Kids.length nq0_2 ∧ SlA tExpr F' aq0_2 r.1.Kids) := by
 have hs0 := HS.start hF
 refine Go 10 Tryz.func30 ?_
 refine Sq (Rg [0, 1, 2] ?_)
 refine Bx' 33 (kExpr x0 a0_2 n0_2) hs0 (fun b21 w22 hs23 => ?_)
 refine Al' 33 #[(vi 0), (vi 0), (.slice none ([] : List Expr).length 0)] hs23 (fun b24 w25 hs26 => ?_)
 refine Vs 1 ?_
 refine Nss ?_
 refine Sq (Rg [0, 1, 2] ?_)
 refine Ld hs26.at1 ?_
 obtain ⟨r27, hr28, h29⟩ := bind_some h
 refine Cl' co_rules_sound hs26 (c_rules_sound N w25 F0 hs26.pers (x0) a0_2 n0_2 hb0_2 hs0_2 _ hr28) ?_
 rintro _ F1 w31 hs32 le33 rfl
 refine Vs 1 ?_
 refine Nt ?_
 refine Cd h29 (fun hb35 h36 => ?_) (fun hb35 h37 => ?_)
 ·refine Sq (Rg [0, 1, 2] ?_)
  refine Vs 1 ?_
  refine St0 #[(vi 0), (vi 0), (.slice none ([] : List Expr).length 0)] hs32 (fun w38 hs39 => ?_)
  refine Vs 1 ?_
  refine Nt ?_
  refine Rt ?_
  refine thenQ_ret ?_
  obtain rfl := some_inj h36
  exact ⟨rfl, (.tuple #[(.agg #[(vi 0), (vi 0), (.slice none ([] : List Expr).length 0)]), (vi 61)]), res_of (l := [.cell 2 33, .tmp 3]) (by kernel_rfl) (vs := [(.agg #[(vi 0), (vi 0), (.slice none ([] : List Expr).length 0)]), (vi 61)]) ⟨b24, 0, rfl, run_loadVar' (t := 33) (g := true) (s := 3) (by kernel_rfl) hs39.at0 rfl (by decide), ⟨rfl, trivial⟩⟩, (.tuple #[(.agg #[(vi 0), (vi 0), (.slice none ([] : List Expr).length 0)]), (vi 61)]), F1, rfl, hs39.clear, ⟨none, 0, rfl, LC.nil, (.inl rfl)⟩⟩
 ·refine Sc ?_
  refine thenQ_nrm ?_
  refine Sq (Rg [0, 1, 2, 3] ?_)
  refine Ld hs32.at1 ?_
  obtain ⟨r40, hr41, h42⟩ := bind_some h37
  refine Cl' co_rules_simplified hs32 (c_rules_simplified N w31 F1 hs32.pers (x0) a0_2 n0_2 hb0_2 (SlA.mono hs0_2 le33) _ hr41) ?_
  rintro _ F2 w44 hs45 le46 ⟨ar40_0_2, nr40_0_2, rfl, hbr40_0_2, hsr40_0_2⟩
  refine St0 (kExpr r40 ar40_0_2 nr40_0_2) hs45 (fun w48 hs49 => ?_)
  refine Vs 1 ?_
  refine Nt ?_
  refine Rt ?_
  obtain rfl := some_inj h42
  exact ⟨rfl, (.tuple #[(.agg (kExpr r40 ar40_0_2 nr40_0_2)), (vi 0)]), res_of (l := [.cell 2 33, .tmp 3]) (by kernel_rfl) (vs := [(.agg (kExpr r40 ar40_0_2 nr40_0_2)), (vi 0)]) ⟨b24, 0, rfl, run_loadVar' (t := 33) (g := true) (s := 3) (by kernel_rfl) hs49.at0 rfl (by decide), ⟨rfl, trivial⟩⟩, (.tuple #[(.agg (kExpr r40 ar40_0_2 nr40_0_2)), (vi 0)]), F2, rfl, hs49.clear, ⟨ar40_0_2, nr40_0_2, rfl, hbr40_0_2, hsr40_0_2⟩⟩
end Go.Proofs.YtaihlcdkcampbaaGreatDoor
namespace Go.Proofs.YtaihlcdkcampbaaGreatDoor
open Go.Proofs
def rules_signOf (N : Nat) (x0 : Int) : Option (rules_sign × Bool) :=
 (bif (x0 == 5) then some (({ text_ := ([111, 114] : List UInt8), rank_ := 1, left_ := 1, right_ := 2 } : rules_sign), true) else (bif (x0 == 4) then some (({ text_ := ([97, 110, 100] : List UInt8), rank_ := 2, left_ := 2, right_ := 3 } : rules_sign), true) else (bif (x0 == 6) then some (({ text_ := ([61] : List UInt8), rank_ := 4, left_ := 5, right_ := 5 } : rules_sign), true) else (bif (x0 == 7) then some (({ text_ := ([60] : List UInt8), rank_ := 4, left_ := 5, right_ := 5 } : rules_sign), true) else (bif (x0 == 8) then some (({ text_ := ([43] : List UInt8), rank_ := 5, left_ := 5, right_ := 6 } : rules_sign), true) else (bif (x0 == 9) then some (({ text_ := ([45] : List UInt8), rank_ := 5, left_ := 5, right_ := 6 } : rules_sign), true) else (bif (x0 == 10) then some (({ text_ := ([42] : List UInt8), rank_ := 6, left_ := 6, right_ := 7 } : rules_sign), true) else some (({ text_ := ([] : List UInt8), rank_ := 0, left_ := 0, right_ := 0 } : rules_sign), false))))))))
theorem co_rules_signOf : CallOk Tryz.prog 150 := fun _ _ => by kernel_rfl
theorem c_rules_signOf (N : Nat) (w0 : World) (F0 : Mem) (hF : ∀ b o, F0 b = some o → w0.heap[b]? = some o) (x0 : Int) (r : (rules_sign × Bool)) (h : rules_signOf N x0 = some r) :
  Calls Tryz.prog 150 ([(vi x0)] : List Value).toArray w0 (FRet w0 F0 fun F' v => v = (.tuple #[(.agg (krules_sign r.1)), (.bool r.2)])) := by
 have hs0 := HS.start hF
 refine Go 27 Tryz.func150 ?_
 refine Sq (Rg [0, 1] ?_)
 refine Al' 173 #[(.string ⟨(([] : List UInt8)).toArray⟩), (vi 0), (vi 0), (vi 0)] hs0 (fun b21 w22 hs23 => ?_)
 refine Vs 1 ?_
 refine Nss ?_
 refine Sq (Rg [0] ?_)
 refine Vs 1 ?_
 refine Nt ?_
 refine Bk ?_
 refine Sq (Rg [0, 1] ?_)
 refine Vs 2 ?_
 refine Nt ?_
 refine Cd h (fun hb24 h25 => ?_) (fun hb24 h26 => ?_)
 ·refine Sq (Rg [0, 1, 2] ?_)
  refine Vs 1 ?_
  refine St0 #[(.string ⟨(([111, 114] : List UInt8)).toArray⟩), (vi 1), (vi 1), (vi 2)] hs23 (fun w27 hs28 => ?_)
  refine Vs 1 ?_
  refine Nt ?_
  refine Rt ?_
  refine blockQ_ret ?_
  refine thenQ_ret ?_
  obtain rfl := some_inj h25
  exact ⟨rfl, (.tuple #[(.agg #[(.string ⟨(([111, 114] : List UInt8)).toArray⟩), (vi 1), (vi 1), (vi 2)]), (.bool true)]), res_of (l := [.cell 2 173, .tmp 3]) (by kernel_rfl) (vs := [(.agg #[(.string ⟨(([111, 114] : List UInt8)).toArray⟩), (vi 1), (vi 1), (vi 2)]), (.bool true)]) ⟨b21, 0, rfl, run_loadVar' (t := 173) (g := true) (s := 4) (by kernel_rfl) hs28.at0 rfl (by decide), ⟨rfl, trivial⟩⟩, (.tuple #[(.agg #[(.string ⟨(([111, 114] : List UInt8)).toArray⟩), (vi 1), (vi 1), (vi 2)]), (.bool true)]), F0, rfl, hs28.clear, rfl⟩
 ·refine Sq (Rg [0, 1] ?_)
  refine Vs 2 ?_
  refine Nt ?_
  refine Cd h26 (fun hb29 h30 => ?_) (fun hb29 h31 => ?_)
  ·refine Sq (Rg [0, 1, 2] ?_)
   refine Vs 1 ?_
   refine St0 #[(.string ⟨(([97, 110, 100] : List UInt8)).toArray⟩), (vi 2), (vi 2), (vi 3)] hs23 (fun w32 hs33 => ?_)
   refine Vs 1 ?_
   refine Nt ?_
   refine Rt ?_
   refine blockQ_ret ?_
   refine thenQ_ret ?_
   obtain rfl := some_inj h30
   exact ⟨rfl, (.tuple #[(.agg #[(.string ⟨(([97, 110, 100] : List UInt8)).toArray⟩), (vi 2), (vi 2), (vi 3)]), (.bool true)]), res_of (l := [.cell 2 173, .tmp 3]) (by kernel_rfl) (vs := [(.agg #[(.string ⟨(([97, 110, 100] : List UInt8)).toArray⟩), (vi 2), (vi 2), (vi 3)]), (.bool true)]) ⟨b21, 0, rfl, run_loadVar' (t := 173) (g := true) (s := 4) (by kernel_rfl) hs33.at0 rfl (by decide), ⟨rfl, trivial⟩⟩, (.tuple #[(.agg #[(.string ⟨(([97, 110, 100] : List UInt8)).toArray⟩), (vi 2), (vi 2), (vi 3)]), (.bool true)]), F0, rfl, hs33.clear, rfl⟩
  ·refine Sq (Rg [0, 1] ?_)
   refine Vs 2 ?_
   refine Nt ?_
   refine Cd h31 (fun hb34 h35 => ?_) (fun hb34 h36 => ?_)
   ·refine Sq (Rg [0, 1, 2] ?_)
    refine Vs 1 ?_
    refine St0 #[(.string ⟨(([61] : List UInt8)).toArray⟩), (vi 4), (vi 5), (vi 5)] hs23 (fun w37 hs38 => ?_)
    refine Vs 1 ?_
    refine Nt ?_
    refine Rt ?_
    refine blockQ_ret ?_
    refine thenQ_ret ?_
    obtain rfl := some_inj h35
    exact ⟨rfl, (.tuple #[(.agg #[(.string ⟨(([61] : List UInt8)).toArray⟩), (vi 4), (vi 5), (vi 5)]), (.bool true)]), res_of (l := [.cell 2 173, .tmp 3]) (by kernel_rfl) (vs := [(.agg #[(.string ⟨(([61] : List UInt8)).toArray⟩), (vi 4), (vi 5), (vi 5)]), (.bool true)]) ⟨b21, 0, rfl, run_loadVar' (t := 173) (g := true) (s := 4) (by kernel_rfl) hs38.at0 rfl (by decide), ⟨rfl, trivial⟩⟩, (.tuple #[(.agg #[(.string ⟨(([61] : List UInt8)).toArray⟩), (vi 4), (vi 5), (vi 5)]), (.bool true)]), F0, rfl, hs38.clear, rfl⟩
   ·refine Sq (Rg [0, 1] ?_)
    refine Vs 2 ?_
    refine Nt ?_
    refine Cd h36 (fun hb39 h40 => ?_) (fun hb39 h41 => ?_)
    ·refine Sq (Rg [0, 1, 2] ?_)
     refine Vs 1 ?_
     refine St0 #[(.string ⟨(([60] : List UInt8)).toArray⟩), (vi 4), (vi 5), (vi 5)] hs23 (fun w42 hs43 => ?_)
     refine Vs 1 ?_
     refine Nt ?_
     refine Rt ?_
     refine blockQ_ret ?_
     refine thenQ_ret ?_
     obtain rfl := some_inj h40
     exact ⟨rfl, (.tuple #[(.agg #[(.string ⟨(([60] : List UInt8)).toArray⟩), (vi 4), (vi 5), (vi 5)]), (.bool true)]), res_of (l := [.cell 2 173, .tmp 3]) (by kernel_rfl) (vs := [(.agg #[(.string ⟨(([60] : List UInt8)).toArray⟩), (vi 4), (vi 5), (vi 5)]), (.bool true)]) ⟨b21, 0, rfl, run_loadVar' (t := 173) (g := true) (s := 4) (by kernel_rfl) hs43.at0 rfl (by decide), ⟨rfl, trivial⟩⟩, (.tuple #[(.agg #[(.string ⟨(([60] : List UInt8)).toArray⟩), (vi 4), (vi 5), (vi 5)]), (.bool true)]), F0, rfl, hs43.clear, rfl⟩
    ·refine Sq (Rg [0, 1] ?_)
     refine Vs 2 ?_
     refine Nt ?_
     refine Cd h41 (fun hb44 h45 => ?_) (fun hb44 h46 => ?_)
     ·refine Sq (Rg [0, 1, 2] ?_)
      refine Vs 1 ?_
      refine St0 #[(.string ⟨(([43] : List UInt8)).toArray⟩), (vi 5), (vi 5), (vi 6)] hs23 (fun w47 hs48 => ?_)
      refine Vs 1 ?_
      refine Nt ?_
      refine Rt ?_
      refine blockQ_ret ?_
      refine thenQ_ret ?_
      obtain rfl := some_inj h45
      exact ⟨rfl, (.tuple #[(.agg #[(.string ⟨(([43] : List UInt8)).toArray⟩), (vi 5), (vi 5), (vi 6)]), (.bool true)]), res_of (l := [.cell 2 173, .tmp 3]) (by kernel_rfl) (vs := [(.agg #[(.string ⟨(([43] : List UInt8)).toArray⟩), (vi 5), (vi 5), (vi 6)]), (.bool true)]) ⟨b21, 0, rfl, run_loadVar' (t := 173) (g := true) (s := 4) (by kernel_rfl) hs48.at0 rfl (by decide), ⟨rfl, trivial⟩⟩, (.tuple #[(.agg #[(.string ⟨(([43] : List UInt8)).toArray⟩), (vi 5), (vi 5), (vi 6)]), (.bool true)]), F0, rfl, hs48.clear, rfl⟩
     ·refine Sq (Rg [0, 1] ?_)
      refine Vs 2 ?_
      refine Nt ?_
      refine Cd h46 (fun hb49 h50 => ?_) (fun hb49 h51 => ?_)
      ·refine Sq (Rg [0, 1, 2] ?_)
       refine Vs 1 ?_
       refine St0 #[(.string ⟨(([45] : List UInt8)).toArray⟩), (vi 5), (vi 5), (vi 6)] hs23 (fun w52 hs53 => ?_)
       refine Vs 1 ?_
       refine Nt ?_
       refine Rt ?_
       refine blockQ_ret ?_
       refine thenQ_ret ?_
       obtain rfl := some_inj h50
       exact ⟨rfl, (.tuple #[(.agg #[(.string ⟨(([45] : List UInt8)).toArray⟩), (vi 5), (vi 5), (vi 6)]), (.bool true)]), res_of (l := [.cell 2 173, .tmp 3]) (by kernel_rfl) (vs := [(.agg #[(.string ⟨(([45] : List UInt8)).toArray⟩), (vi 5), (vi 5), (vi 6)]), (.bool true)]) ⟨b21, 0, rfl, run_loadVar' (t := 173) (g := true) (s := 4) (by kernel_rfl) hs53.at0 rfl (by decide), ⟨rfl, trivial⟩⟩, (.tuple #[(.agg #[(.string ⟨(([45] : List UInt8)).toArray⟩), (vi 5), (vi 5), (vi 6)]), (.bool true)]), F0, rfl, hs53.clear, rfl⟩
      ·refine Sq (Rg [0, 1] ?_)
       refine Vs 2 ?_
       refine Nt ?_
       refine Cd h51 (fun hb54 h55 => ?_) (fun hb54 h56 => ?_)
       ·refine Sq (Rg [0, 1, 2] ?_)
        refine Vs 1 ?_
        refine St0 #[(.string ⟨(([42] : List UInt8)).toArray⟩), (vi 6), (vi 6), (vi 7)] hs23 (fun w57 hs58 => ?_)
        refine Vs 1 ?_
        refine Nt ?_
        refine Rt ?_
        refine blockQ_ret ?_
        refine thenQ_ret ?_
        obtain rfl := some_inj h55
        exact ⟨rfl, (.tuple #[(.agg #[(.string ⟨(([42] : List UInt8)).toArray⟩), (vi 6), (vi 6), (vi 7)]), (.bool true)]), res_of (l := [.cell 2 173, .tmp 3]) (by kernel_rfl) (vs := [(.agg #[(.string ⟨(([42] : List UInt8)).toArray⟩), (vi 6), (vi 6), (vi 7)]), (.bool true)]) ⟨b21, 0, rfl, run_loadVar' (t := 173) (g := true) (s := 4) (by kernel_rfl) hs58.at0 rfl (by decide), ⟨rfl, trivial⟩⟩, (.tuple #[(.agg #[(.string ⟨(([42] : List UInt8)).toArray⟩), (vi 6), (vi 6), (vi 7)]), (.bool true)]), F0, rfl, hs58.clear, rfl⟩
       ·refine Sc ?_
        refine blockQ_nrm ?_
        refine thenQ_nrm ?_
        refine Sq (Rg [0, 1, 2] ?_)
        refine Vs 1 ?_
        refine St0 #[(.string ⟨(([] : List UInt8)).toArray⟩), (vi 0), (vi 0), (vi 0)] hs23 (fun w59 hs60 => ?_)
        refine Vs 1 ?_
        refine Nt ?_
        refine Rt ?_
        obtain rfl := some_inj h56
        exact ⟨rfl, (.tuple #[(.agg #[(.string ⟨(([] : List UInt8)).toArray⟩), (vi 0), (vi 0), (vi 0)]), (.bool false)]), res_of (l := [.cell 2 173, .tmp 3]) (by kernel_rfl) (vs := [(.agg #[(.string ⟨(([] : List UInt8)).toArray⟩), (vi 0), (vi 0), (vi 0)]), (.bool false)]) ⟨b21, 0, rfl, run_loadVar' (t := 173) (g := true) (s := 4) (by kernel_rfl) hs60.at0 rfl (by decide), ⟨rfl, trivial⟩⟩, (.tuple #[(.agg #[(.string ⟨(([] : List UInt8)).toArray⟩), (vi 0), (vi 0), (vi 0)]), (.bool false)]), F0, rfl, hs60.clear, rfl⟩
end Go.Proofs.YtaihlcdkcampbaaGreatDoor
namespace Go.Proofs.YtaihlcdkcampbaaGreatDoor
open Go.Proofs
def rules_names (N : Nat)  : Option (List (List UInt8)) :=
 some [([98, 97, 110, 100] : List UInt8), ([109, 111, 100, 101] : List UInt8), ([104, 111, 117, 114] : List UInt8), ([109, 121, 99, 111, 117, 110, 116, 114, 121] : List UInt8), ([109, 121, 122, 111, 110, 101] : List UInt8), ([109, 121, 99, 111, 110, 116, 105, 110, 101, 110, 116] : List UInt8), ([99, 111, 117, 110, 116, 114, 121] : List UInt8), ([122, 111, 110, 101] : List UInt8), ([99, 111, 110, 116, 105, 110, 101, 110, 116] : List UInt8), ([99, 97, 108, 108] : List UInt8), ([103, 111, 116, 122, 111, 110, 101] : List UInt8), ([99, 97, 116, 101, 103, 111, 114, 121] : List UInt8), ([112, 111, 119, 101, 114] : List UInt8), ([115, 116, 97, 116, 117, 115] : List UInt8)]
theorem co_rules_names : CallOk Tryz.prog 152 := fun _ _ => by kernel_rfl
theorem c_rules_names (N : Nat) (w0 : World) (F0 : Mem) (hF : ∀ b o, F0 b = some o → w0.heap[b]? = some o)  (r : (List (List UInt8))) (h : rules_names N  = some r) :
  Calls Tryz.prog 152 ([] : List Value).toArray w0 (FRet w0 F0 fun F' v => ∃ (aq0_0 : Option Addr) (nq0_0 : Nat), v = (.slice aq0_0 r.length nq0_0) ∧ LC r.length nq0_0 ∧ SlA tStr F' aq0_0 r) := by
 have hs0 := HS.start hF
 refine Go 2 Tryz.func152 ?_
 refine Sq (Rg [0] ?_)
 refine Vs 1 ?_
 refine Nss (Rg [0, 1] ?_)
 refine Bs 9 [(.string ⟨(([98, 97, 110, 100] : List UInt8)).toArray⟩), (.string ⟨(([109, 111, 100, 101] : List UInt8)).toArray⟩), (.string ⟨(([104, 111, 117, 114] : List UInt8)).toArray⟩), (.string ⟨(([109, 121, 99, 111, 117, 110, 116, 114, 121] : List UInt8)).toArray⟩), (.string ⟨(([109, 121, 122, 111, 110, 101] : List UInt8)).toArray⟩), (.string ⟨(([109, 121, 99, 111, 110, 116, 105, 110, 101, 110, 116] : List UInt8)).toArray⟩), (.string ⟨(([99, 111, 117, 110, 116, 114, 121] : List UInt8)).toArray⟩), (.string ⟨(([122, 111, 110, 101] : List UInt8)).toArray⟩), (.string ⟨(([99, 111, 110, 116, 105, 110, 101, 110, 116] : List UInt8)).toArray⟩), (.string ⟨(([99, 97, 108, 108] : List UInt8)).toArray⟩), (.string ⟨(([103, 111, 116, 122, 111, 110, 101] : List UInt8)).toArray⟩), (.string ⟨(([99, 97, 116, 101, 103, 111, 114, 121] : List UInt8)).toArray⟩), (.string ⟨(([112, 111, 119, 101, 114] : List UInt8)).toArray⟩), (.string ⟨(([115, 116, 97, 116, 117, 115] : List UInt8)).toArray⟩)] hs0 (fun b21 w22 hs23 => ?_)
 have hr25 : RowR tStr 9 F0 (some ⟨b21, 0, none⟩) 14 [([98, 97, 110, 100] : List UInt8), ([109, 111, 100, 101] : List UInt8), ([104, 111, 117, 114] : List UInt8), ([109, 121, 99, 111, 117, 110, 116, 114, 121] : List UInt8), ([109, 121, 122, 111, 110, 101] : List UInt8), ([109, 121, 99, 111, 110, 116, 105, 110, 101, 110, 116] : List UInt8), ([99, 111, 117, 110, 116, 114, 121] : List UInt8), ([122, 111, 110, 101] : List UInt8), ([99, 111, 110, 116, 105, 110, 101, 110, 116] : List UInt8), ([99, 97, 108, 108] : List UInt8), ([103, 111, 116, 122, 111, 110, 101] : List UInt8), ([99, 97, 116, 101, 103, 111, 114, 121] : List UInt8), ([112, 111, 119, 101, 114] : List UInt8), ([115, 116, 97, 116, 117, 115] : List UInt8)] (some b21, .cells ([(.string ⟨(([98, 97, 110, 100] : List UInt8)).toArray⟩), (.string ⟨(([109, 111, 100, 101] : List UInt8)).toArray⟩), (.string ⟨(([104, 111, 117, 114] : List UInt8)).toArray⟩), (.string ⟨(([109, 121, 99, 111, 117, 110, 116, 114, 121] : List UInt8)).toArray⟩), (.string ⟨(([109, 121, 122, 111, 110, 101] : List UInt8)).toArray⟩), (.string ⟨(([109, 121, 99, 111, 110, 116, 105, 110, 101, 110, 116] : List UInt8)).toArray⟩), (.string ⟨(([99, 111, 117, 110, 116, 114, 121] : List UInt8)).toArray⟩), (.string ⟨(([122, 111, 110, 101] : List UInt8)).toArray⟩), (.string ⟨(([99, 111, 110, 116, 105, 110, 101, 110, 116] : List UInt8)).toArray⟩), (.string ⟨(([99, 97, 108, 108] : List UInt8)).toArray⟩), (.string ⟨(([103, 111, 116, 122, 111, 110, 101] : List UInt8)).toArray⟩), (.string ⟨(([99, 97, 116, 101, 103, 111, 114, 121] : List UInt8)).toArray⟩), (.string ⟨(([112, 111, 119, 101, 114] : List UInt8)).toArray⟩), (.string ⟨(([115, 116, 97, 116, 117, 115] : List UInt8)).toArray⟩)] : List Value).toArray 9 (0, 0)) := RowR.lit ⟨rfl, ⟨rfl, ⟨rfl, ⟨rfl, ⟨rfl, ⟨rfl, ⟨rfl, ⟨rfl, ⟨rfl, ⟨rfl, ⟨rfl, ⟨rfl, ⟨rfl, ⟨rfl, rfl⟩⟩⟩⟩⟩⟩⟩⟩⟩⟩⟩⟩⟩⟩ (by simp)
 refine Vs 1 ?_
 refine Nt ?_
 refine Rt ?_
 have hb29 := RowR.bound hr25
 obtain ⟨F1, hs26, le27, hs28⟩ := hs23.fr0 hr25
 obtain rfl := some_inj h
 exact Re [(.slice (some ⟨b21, 0, none⟩) [([98, 97, 110, 100] : List UInt8), ([109, 111, 100, 101] : List UInt8), ([104, 111, 117, 114] : List UInt8), ([109, 121, 99, 111, 117, 110, 116, 114, 121] : List UInt8), ([109, 121, 122, 111, 110, 101] : List UInt8), ([109, 121, 99, 111, 110, 116, 105, 110, 101, 110, 116] : List UInt8), ([99, 111, 117, 110, 116, 114, 121] : List UInt8), ([122, 111, 110, 101] : List UInt8), ([99, 111, 110, 116, 105, 110, 101, 110, 116] : List UInt8), ([99, 97, 108, 108] : List UInt8), ([103, 111, 116, 122, 111, 110, 101] : List UInt8), ([99, 97, 116, 101, 103, 111, 114, 121] : List UInt8), ([112, 111, 119, 101, 114] : List UInt8), ([115, 116, 97, 116, 117, 115] : List UInt8)].length 14)] hs26 ⟨(some ⟨b21, 0, none⟩), 14, rfl, hb29, hs28⟩
end Go.Proofs.YtaihlcdkcampbaaGreatDoor
namespace Go.Proofs
open Go.Shelf
def Tryz.lays137_ren : Go.Shelf.Ren := ⟨fun | 137 => 183 | 217 => 211 | 266 => 225 | n => n, fun | 9 => 9 | 5 => 5 | 3 => 3 | n => n, fun | n => n⟩
theorem Tryz.lays137 : Go.Proofs.Lays.n137 Tryz.prog Tryz.lays137_ren := {
 mixed := by kernel_rfl
 f137 := Tryz.func183.trans (congrArg some (by kernel_rfl))
 f217 := Tryz.func211.trans (congrArg some (by kernel_rfl))
 f266 := Tryz.func225.trans (congrArg some (by kernel_rfl))
 t3 := Tryz.underlying3
 a3 := Tryz.isAgg3
 z3 := Tryz.sizeOf3
 v3 := Tryz.zeroValue3
 t5 := Tryz.underlying5
 a5 := Tryz.isAgg5
 z5 := Tryz.sizeOf5
 v5 := Tryz.zeroValue5
 t9 := Tryz.underlying9
 a9 := Tryz.isAgg9
 z9 := Tryz.sizeOf9
 v9 := Tryz.zeroValue9 }
open Go.RowKit in
theorem Tryz.strings_IndexByte (s : ByteArray) (c : Int) (w : World) :
  Calls Tryz.prog 183 #[.string s, .int .u8 c] w fun e w' => e = .returned (.int .i64 (Lib.indexByte s.data.toList c.toNat.toUInt8)) ∧ w' = w := Any.strings_IndexByte Tryz.lays137 s c w
def Tryz.lays172_ren : Go.Shelf.Ren := ⟨fun | 172 => 248 | 244 => 251 | 245 => 252 | 247 => 253 | 279 => 254 | 280 => 255 | 281 => 256 | 282 => 257 | 287 => 258 | 316 => 259 | 171 => 151 | 205 => 260 | 321 => 261 | 322 => 262 | 243 => 196 | 246 => 218 | 283 => 228 | 284 => 229 | 285 => 230 | 286 => 231 | 129 => 209 | 317 => 235 | 318 => 236 | 319 => 237 | 320 => 238 | 337 => 241 | 338 => 242 | n => n, fun | 9 => 9 | 3 => 3 | 75 => 134 | 76 => 135 | 4 => 4 | 5 => 5 | 167 => 241 | 37 => 42 | 0 => 0 | 85 => 242 | 2 => 2 | 168 => 244 | 53 => 218 | 175 => 247 | 46 => 191 | 210 => 251 | 127 => 184 | 145 => 256 | 143 => 254 | 21 => 21 | 171 => 227 | 173 => 229 | 212 => 234 | 51 => 216 | 20 => 20 | 213 => 235 | 232 => 237 | 233 => 238 | 80 => 137 | n => n, fun | 15 => 4 | 16 => 5 | 17 => 1 | 18 => 2 | 19 => 3 | n => n⟩
theorem Tryz.lays172 : Go.Proofs.Lays.n172 Tryz.prog Tryz.lays172_ren := {
 mixed := by kernel_rfl
 f129 := Tryz.func209.trans (congrArg some (by kernel_rfl))
 f171 := Tryz.func151.trans (congrArg some (by kernel_rfl))
 f172 := Tryz.func248.trans (congrArg some (by kernel_rfl))
 f205 := Tryz.func260.trans (congrArg some (by kernel_rfl))
 f243 := Tryz.func196.trans (congrArg some (by kernel_rfl))
 f244 := Tryz.func251.trans (congrArg some (by kernel_rfl))
 f245 := Tryz.func252.trans (congrArg some (by kernel_rfl))
 f246 := Tryz.func218.trans (congrArg some (by kernel_rfl))
 f247 := Tryz.func253.trans (congrArg some (by kernel_rfl))
 f279 := Tryz.func254.trans (congrArg some (by kernel_rfl))
 f280 := Tryz.func255.trans (congrArg some (by kernel_rfl))
 f281 := Tryz.func256.trans (congrArg some (by kernel_rfl))
 f282 := Tryz.func257.trans (congrArg some (by kernel_rfl))
 f283 := Tryz.func228.trans (congrArg some (by kernel_rfl))
 f284 := Tryz.func229.trans (congrArg some (by kernel_rfl))
 f285 := Tryz.func230.trans (congrArg some (by kernel_rfl))
 f286 := Tryz.func231.trans (congrArg some (by kernel_rfl))
 f287 := Tryz.func258.trans (congrArg some (by kernel_rfl))
 f316 := Tryz.func259.trans (congrArg some (by kernel_rfl))
 f317 := Tryz.func235.trans (congrArg some (by kernel_rfl))
 f318 := Tryz.func236.trans (congrArg some (by kernel_rfl))
 f319 := Tryz.func237.trans (congrArg some (by kernel_rfl))
 f320 := Tryz.func238.trans (congrArg some (by kernel_rfl))
 f321 := Tryz.func261.trans (congrArg some (by kernel_rfl))
 f322 := Tryz.func262.trans (congrArg some (by kernel_rfl))
 f337 := Tryz.func241.trans (congrArg some (by kernel_rfl))
 f338 := Tryz.func242.trans (congrArg some (by kernel_rfl))
 t0 := Tryz.underlying0
 a0 := Tryz.isAgg0
 z0 := Tryz.sizeOf0
 v0 := Tryz.zeroValue0
 t2 := Tryz.underlying2
 a2 := Tryz.isAgg2
 z2 := Tryz.sizeOf2
 v2 := Tryz.zeroValue2
 t3 := Tryz.underlying3
 a3 := Tryz.isAgg3
 z3 := Tryz.sizeOf3
 v3 := Tryz.zeroValue3
 t4 := Tryz.underlying4
 a4 := Tryz.isAgg4
 z4 := Tryz.sizeOf4
 v4 := Tryz.zeroValue4
 t5 := Tryz.underlying5
 a5 := Tryz.isAgg5
 z5 := Tryz.sizeOf5
 v5 := Tryz.zeroValue5
 t9 := Tryz.underlying9
 a9 := Tryz.isAgg9
 z9 := Tryz.sizeOf9
 v9 := Tryz.zeroValue9
 t20 := Tryz.underlying20
 a20 := Tryz.isAgg20
 z20 := Tryz.sizeOf20
 v20 := Tryz.zeroValue20
 t21 := Tryz.underlying21
 a21 := Tryz.isAgg21
 z21 := Tryz.sizeOf21
 v21 := Tryz.zeroValue21
 t37 := Tryz.underlying42
 a37 := Tryz.isAgg42
 z37 := Tryz.sizeOf42
 v37 := Tryz.zeroValue42
 t46 := Tryz.underlying191
 a46 := Tryz.isAgg191
 z46 := Tryz.sizeOf191
 v46 := Tryz.zeroValue191
 t51 := Tryz.underlying216
 a51 := Tryz.isAgg216
 z51 := Tryz.sizeOf216
 v51 := Tryz.zeroValue216
 t53 := Tryz.underlying218
 a53 := Tryz.isAgg218
 z53 := Tryz.sizeOf218
 v53 := Tryz.zeroValue218
 t75 := Tryz.underlying134
 a75 := Tryz.isAgg134
 z75 := Tryz.sizeOf134
 v75 := Tryz.zeroValue134
 t76 := Tryz.underlying135
 a76 := Tryz.isAgg135
 z76 := Tryz.sizeOf135
 v76 := Tryz.zeroValue135
 t85 := Tryz.underlying242
 a85 := Tryz.isAgg242
 z85 := Tryz.sizeOf242
 v85 := Tryz.zeroValue242
 t127 := Tryz.underlying184
 a127 := Tryz.isAgg184
 z127 := Tryz.sizeOf184
 v127 := Tryz.zeroValue184
 t143 := Tryz.underlying254
 a143 := Tryz.isAgg254
 z143 := Tryz.sizeOf254
 v143 := Tryz.zeroValue254
 t145 := Tryz.underlying256
 a145 := Tryz.isAgg256
 z145 := Tryz.sizeOf256
 v145 := Tryz.zeroValue256
 t167 := Tryz.underlying241
 a167 := Tryz.isAgg241
 z167 := Tryz.sizeOf241
 v167 := Tryz.zeroValue241
 t168 := Tryz.underlying244
 a168 := Tryz.isAgg244
 z168 := Tryz.sizeOf244
 v168 := Tryz.zeroValue244
 t171 := Tryz.underlying227
 a171 := Tryz.isAgg227
 z171 := Tryz.sizeOf227
 v171 := Tryz.zeroValue227
 t173 := Tryz.underlying229
 a173 := Tryz.isAgg229
 z173 := Tryz.sizeOf229
 v173 := Tryz.zeroValue229
 t175 := Tryz.underlying247
 a175 := Tryz.isAgg247
 z175 := Tryz.sizeOf247
 v175 := Tryz.zeroValue247
 t210 := Tryz.underlying251
 a210 := Tryz.isAgg251
 z210 := Tryz.sizeOf251
 v210 := Tryz.zeroValue251
 t212 := Tryz.underlying234
 a212 := Tryz.isAgg234
 z212 := Tryz.sizeOf234
 v212 := Tryz.zeroValue234
 t213 := Tryz.underlying235
 a213 := Tryz.isAgg235
 z213 := Tryz.sizeOf235
 t232 := Tryz.underlying237
 a232 := Tryz.isAgg237
 z232 := Tryz.sizeOf237
 v232 := Tryz.zeroValue237
 t233 := Tryz.underlying238
 a233 := Tryz.isAgg238
 z233 := Tryz.sizeOf238
 v233 := Tryz.zeroValue238
 g15 := by kernel_rfl
 g16 := by kernel_rfl
 g17 := by kernel_rfl
 g18 := by kernel_rfl
 g19 := by kernel_rfl }
open Go.RowKit in
theorem Tryz.strconv_Atoi (s : ByteArray) (n : Int) (hl : s.size ≤ 18) (h : Lib.atoi s.data.toList = some n) (w : World) :
  Calls Tryz.prog 248 #[.string s] w fun e w' => e = .returned (.tuple #[.int .i64 n, .nilIface]) ∧ ∃ t, w' = Lib.bytesWorld w 5 t := Any.strconv_Atoi Tryz.lays172 s n hl h w
def Tryz.laysM171_ren : Go.Shelf.Ren := ⟨fun | 171 => 151 | 243 => 196 | 246 => 218 | 283 => 228 | 284 => 229 | 285 => 230 | 286 => 231 | 129 => 209 | 317 => 235 | 318 => 236 | 319 => 237 | 320 => 238 | 337 => 241 | 338 => 242 | n => n, fun | 3 => 3 | 9 => 9 | 2 => 2 | 4 => 4 | 171 => 227 | 0 => 0 | 53 => 218 | 37 => 42 | 5 => 5 | 173 => 229 | 212 => 234 | 51 => 216 | 20 => 20 | 213 => 235 | 46 => 191 | 232 => 237 | 233 => 238 | n => n, fun | 17 => 1 | 18 => 2 | 19 => 3 | n => n⟩
theorem Tryz.laysM171 : Go.Proofs.LaysM.n171 Tryz.prog Tryz.laysM171_ren := {
 mixed := by kernel_rfl
 f129 := Tryz.func209.trans (congrArg some (by kernel_rfl))
 f171 := Tryz.func151.trans (congrArg some (by kernel_rfl))
 f243 := Tryz.func196.trans (congrArg some (by kernel_rfl))
 f246 := Tryz.func218.trans (congrArg some (by kernel_rfl))
 f283 := Tryz.func228.trans (congrArg some (by kernel_rfl))
 f284 := Tryz.func229.trans (congrArg some (by kernel_rfl))
 f285 := Tryz.func230.trans (congrArg some (by kernel_rfl))
 f286 := Tryz.func231.trans (congrArg some (by kernel_rfl))
 f317 := Tryz.func235.trans (congrArg some (by kernel_rfl))
 f318 := Tryz.func236.trans (congrArg some (by kernel_rfl))
 f319 := Tryz.func237.trans (congrArg some (by kernel_rfl))
 f320 := Tryz.func238.trans (congrArg some (by kernel_rfl))
 f337 := Tryz.func241.trans (congrArg some (by kernel_rfl))
 f338 := Tryz.func242.trans (congrArg some (by kernel_rfl))
 t0 := Tryz.underlying0
 a0 := Tryz.isAgg0
 z0 := Tryz.sizeOf0
 v0 := Tryz.zeroValue0
 t2 := Tryz.underlying2
 a2 := Tryz.isAgg2
 z2 := Tryz.sizeOf2
 v2 := Tryz.zeroValue2
 t3 := Tryz.underlying3
 a3 := Tryz.isAgg3
 z3 := Tryz.sizeOf3
 v3 := Tryz.zeroValue3
 t4 := Tryz.underlying4
 a4 := Tryz.isAgg4
 z4 := Tryz.sizeOf4
 v4 := Tryz.zeroValue4
 t5 := Tryz.underlying5
 a5 := Tryz.isAgg5
 z5 := Tryz.sizeOf5
 v5 := Tryz.zeroValue5
 t9 := Tryz.underlying9
 a9 := Tryz.isAgg9
 z9 := Tryz.sizeOf9
 v9 := Tryz.zeroValue9
 t20 := Tryz.underlying20
 a20 := Tryz.isAgg20
 z20 := Tryz.sizeOf20
 v20 := Tryz.zeroValue20
 t37 := Tryz.underlying42
 a37 := Tryz.isAgg42
 z37 := Tryz.sizeOf42
 v37 := Tryz.zeroValue42
 t46 := Tryz.underlying191
 a46 := Tryz.isAgg191
 z46 := Tryz.sizeOf191
 v46 := Tryz.zeroValue191
 t51 := Tryz.underlying216
 a51 := Tryz.isAgg216
 z51 := Tryz.sizeOf216
 v51 := Tryz.zeroValue216
 t53 := Tryz.underlying218
 a53 := Tryz.isAgg218
 z53 := Tryz.sizeOf218
 v53 := Tryz.zeroValue218
 t171 := Tryz.underlying227
 a171 := Tryz.isAgg227
 z171 := Tryz.sizeOf227
 v171 := Tryz.zeroValue227
 t173 := Tryz.underlying229
 a173 := Tryz.isAgg229
 z173 := Tryz.sizeOf229
 v173 := Tryz.zeroValue229
 t212 := Tryz.underlying234
 a212 := Tryz.isAgg234
 z212 := Tryz.sizeOf234
 v212 := Tryz.zeroValue234
 t213 := Tryz.underlying235
 a213 := Tryz.isAgg235
 z213 := Tryz.sizeOf235
 t232 := Tryz.underlying237
 a232 := Tryz.isAgg237
 z232 := Tryz.sizeOf237
 v232 := Tryz.zeroValue237
 t233 := Tryz.underlying238
 a233 := Tryz.isAgg238
 z233 := Tryz.sizeOf238
 v233 := Tryz.zeroValue238
 g17 := by kernel_rfl
 g18 := by kernel_rfl
 g19 := by kernel_rfl
 i0 := by kernel_rfl
 i2 := by kernel_rfl
 i3 := by kernel_rfl
 i4 := by kernel_rfl
 i5 := by kernel_rfl
 i9 := by kernel_rfl
 i20 := by kernel_rfl
 i37 := by kernel_rfl
 i46 := by kernel_rfl
 i51 := by kernel_rfl
 i53 := by kernel_rfl
 i171 := by kernel_rfl
 i173 := by kernel_rfl
 i212 := by kernel_rfl
 i232 := by kernel_rfl
 i233 := by kernel_rfl
 m17 := by kernel_rfl
 m18 := by kernel_rfl
 m19 := by kernel_rfl }
open Go.RowKit Go.Sort Go.Lib in
theorem Tryz.strconv_Itoa (n : Int) (h0 : -9223372036854775808 ≤ n) (h1 : n ≤ 9223372036854775807) (w : World) (htab : Lib.TabIs Tryz.prog w "internal/strconv.uint64pow10" .u64 Lib.pow10Tab) :
  Calls Tryz.prog 151 #[.int .i64 n] w fun e w' => e = .returned (.string ⟨(Lib.itoa n).toArray⟩) ∧ ∃ k os, w' = grow (w.drewN k) os := Any.strconv_Itoa Tryz.laysM171 n h0 h1 w htab
def Tryz.laysC172_ren : Go.Shelf.Ren := ⟨fun | 172 => 248 | 244 => 251 | 245 => 252 | 247 => 253 | 279 => 254 | 280 => 255 | 281 => 256 | 282 => 257 | 287 => 258 | 316 => 259 | 171 => 151 | 205 => 260 | 321 => 261 | 322 => 262 | 243 => 196 | 246 => 218 | 283 => 228 | 284 => 229 | 285 => 230 | 286 => 231 | 129 => 209 | 317 => 235 | 318 => 236 | 319 => 237 | 320 => 238 | 337 => 241 | 338 => 242 | n => n, fun | 9 => 9 | 3 => 3 | 75 => 134 | 76 => 135 | 4 => 4 | 5 => 5 | 167 => 241 | 37 => 42 | 0 => 0 | 85 => 242 | 2 => 2 | 168 => 244 | 53 => 218 | 175 => 247 | 46 => 191 | 210 => 251 | 127 => 184 | 145 => 256 | 143 => 254 | 21 => 21 | 171 => 227 | 173 => 229 | 212 => 234 | 51 => 216 | 20 => 20 | 213 => 235 | 232 => 237 | 233 => 238 | 80 => 137 | n => n, fun | 15 => 4 | 16 => 5 | 17 => 1 | 18 => 2 | 19 => 3 | n => n⟩
theorem Tryz.laysC172 : Go.Proofs.LaysC.n172 Tryz.prog Tryz.laysC172_ren := {
 mixed := by kernel_rfl
 f129 := Tryz.func209.trans (congrArg some (by kernel_rfl))
 f171 := Tryz.func151.trans (congrArg some (by kernel_rfl))
 f172 := Tryz.func248.trans (congrArg some (by kernel_rfl))
 f205 := Tryz.func260.trans (congrArg some (by kernel_rfl))
 f243 := Tryz.func196.trans (congrArg some (by kernel_rfl))
 f244 := Tryz.func251.trans (congrArg some (by kernel_rfl))
 f245 := Tryz.func252.trans (congrArg some (by kernel_rfl))
 f246 := Tryz.func218.trans (congrArg some (by kernel_rfl))
 f247 := Tryz.func253.trans (congrArg some (by kernel_rfl))
 f279 := Tryz.func254.trans (congrArg some (by kernel_rfl))
 f280 := Tryz.func255.trans (congrArg some (by kernel_rfl))
 f281 := Tryz.func256.trans (congrArg some (by kernel_rfl))
 f282 := Tryz.func257.trans (congrArg some (by kernel_rfl))
 f283 := Tryz.func228.trans (congrArg some (by kernel_rfl))
 f284 := Tryz.func229.trans (congrArg some (by kernel_rfl))
 f285 := Tryz.func230.trans (congrArg some (by kernel_rfl))
 f286 := Tryz.func231.trans (congrArg some (by kernel_rfl))
 f287 := Tryz.func258.trans (congrArg some (by kernel_rfl))
 f316 := Tryz.func259.trans (congrArg some (by kernel_rfl))
 f317 := Tryz.func235.trans (congrArg some (by kernel_rfl))
 f318 := Tryz.func236.trans (congrArg some (by kernel_rfl))
 f319 := Tryz.func237.trans (congrArg some (by kernel_rfl))
 f320 := Tryz.func238.trans (congrArg some (by kernel_rfl))
 f321 := Tryz.func261.trans (congrArg some (by kernel_rfl))
 f322 := Tryz.func262.trans (congrArg some (by kernel_rfl))
 f337 := Tryz.func241.trans (congrArg some (by kernel_rfl))
 f338 := Tryz.func242.trans (congrArg some (by kernel_rfl))
 t0 := Tryz.underlying0
 a0 := Tryz.isAgg0
 z0 := Tryz.sizeOf0
 v0 := Tryz.zeroValue0
 t2 := Tryz.underlying2
 a2 := Tryz.isAgg2
 z2 := Tryz.sizeOf2
 v2 := Tryz.zeroValue2
 t3 := Tryz.underlying3
 a3 := Tryz.isAgg3
 z3 := Tryz.sizeOf3
 v3 := Tryz.zeroValue3
 t4 := Tryz.underlying4
 a4 := Tryz.isAgg4
 z4 := Tryz.sizeOf4
 v4 := Tryz.zeroValue4
 t5 := Tryz.underlying5
 a5 := Tryz.isAgg5
 z5 := Tryz.sizeOf5
 v5 := Tryz.zeroValue5
 t9 := Tryz.underlying9
 a9 := Tryz.isAgg9
 z9 := Tryz.sizeOf9
 v9 := Tryz.zeroValue9
 t20 := Tryz.underlying20
 a20 := Tryz.isAgg20
 z20 := Tryz.sizeOf20
 v20 := Tryz.zeroValue20
 t21 := Tryz.underlying21
 a21 := Tryz.isAgg21
 z21 := Tryz.sizeOf21
 v21 := Tryz.zeroValue21
 t37 := Tryz.underlying42
 a37 := Tryz.isAgg42
 z37 := Tryz.sizeOf42
 v37 := Tryz.zeroValue42
 t46 := Tryz.underlying191
 a46 := Tryz.isAgg191
 z46 := Tryz.sizeOf191
 v46 := Tryz.zeroValue191
 t51 := Tryz.underlying216
 a51 := Tryz.isAgg216
 z51 := Tryz.sizeOf216
 v51 := Tryz.zeroValue216
 t53 := Tryz.underlying218
 a53 := Tryz.isAgg218
 z53 := Tryz.sizeOf218
 v53 := Tryz.zeroValue218
 t75 := Tryz.underlying134
 a75 := Tryz.isAgg134
 z75 := Tryz.sizeOf134
 v75 := Tryz.zeroValue134
 t76 := Tryz.underlying135
 a76 := Tryz.isAgg135
 z76 := Tryz.sizeOf135
 v76 := Tryz.zeroValue135
 t85 := Tryz.underlying242
 a85 := Tryz.isAgg242
 z85 := Tryz.sizeOf242
 v85 := Tryz.zeroValue242
 t127 := Tryz.underlying184
 a127 := Tryz.isAgg184
 z127 := Tryz.sizeOf184
 v127 := Tryz.zeroValue184
 t143 := Tryz.underlying254
 a143 := Tryz.isAgg254
 z143 := Tryz.sizeOf254
 v143 := Tryz.zeroValue254
 t145 := Tryz.underlying256
 a145 := Tryz.isAgg256
 z145 := Tryz.sizeOf256
 v145 := Tryz.zeroValue256
 t167 := Tryz.underlying241
 a167 := Tryz.isAgg241
 z167 := Tryz.sizeOf241
 v167 := Tryz.zeroValue241
 t168 := Tryz.underlying244
 a168 := Tryz.isAgg244
 z168 := Tryz.sizeOf244
 v168 := Tryz.zeroValue244
 t171 := Tryz.underlying227
 a171 := Tryz.isAgg227
 z171 := Tryz.sizeOf227
 v171 := Tryz.zeroValue227
 t173 := Tryz.underlying229
 a173 := Tryz.isAgg229
 z173 := Tryz.sizeOf229
 v173 := Tryz.zeroValue229
 t175 := Tryz.underlying247
 a175 := Tryz.isAgg247
 z175 := Tryz.sizeOf247
 v175 := Tryz.zeroValue247
 t210 := Tryz.underlying251
 a210 := Tryz.isAgg251
 z210 := Tryz.sizeOf251
 v210 := Tryz.zeroValue251
 t212 := Tryz.underlying234
 a212 := Tryz.isAgg234
 z212 := Tryz.sizeOf234
 v212 := Tryz.zeroValue234
 t213 := Tryz.underlying235
 a213 := Tryz.isAgg235
 z213 := Tryz.sizeOf235
 t232 := Tryz.underlying237
 a232 := Tryz.isAgg237
 z232 := Tryz.sizeOf237
 v232 := Tryz.zeroValue237
 t233 := Tryz.underlying238
 a233 := Tryz.isAgg238
 z233 := Tryz.sizeOf238
 v233 := Tryz.zeroValue238
 g15 := by kernel_rfl
 g16 := by kernel_rfl
 g17 := by kernel_rfl
 g18 := by kernel_rfl
 g19 := by kernel_rfl
 t80 := Tryz.underlying137
 a80 := Tryz.isAgg137
 z80 := Tryz.sizeOf137
 v80 := Tryz.zeroValue137
 i0 := by kernel_rfl
 i2 := by kernel_rfl
 i3 := by kernel_rfl
 i4 := by kernel_rfl
 i5 := by kernel_rfl
 i9 := by kernel_rfl
 i20 := by kernel_rfl
 i21 := by kernel_rfl
 i37 := by kernel_rfl
 i46 := by kernel_rfl
 i51 := by kernel_rfl
 i53 := by kernel_rfl
 i75 := by kernel_rfl
 i76 := by kernel_rfl
 i80 := by kernel_rfl
 i85 := by kernel_rfl
 i127 := by kernel_rfl
 i143 := by kernel_rfl
 i145 := by kernel_rfl
 i167 := by kernel_rfl
 i168 := by kernel_rfl
 i171 := by kernel_rfl
 i173 := by kernel_rfl
 i175 := by kernel_rfl
 i210 := by kernel_rfl
 i212 := by kernel_rfl
 i232 := by kernel_rfl
 i233 := by kernel_rfl
 m15 := by kernel_rfl
 m16 := by kernel_rfl
 m17 := by kernel_rfl
 m18 := by kernel_rfl
 m19 := by kernel_rfl
 c0 := by kernel_rfl
 c2 := by kernel_rfl
 c3 := by kernel_rfl
 c4 := by kernel_rfl
 c5 := by kernel_rfl
 c9 := by kernel_rfl
 c20 := by kernel_rfl
 c21 := by kernel_rfl
 c37 := by kernel_rfl
 c46 := by kernel_rfl
 c51 := by kernel_rfl
 c53 := by kernel_rfl
 c75 := by kernel_rfl
 c76 := by kernel_rfl
 c80 := by kernel_rfl
 c85 := by kernel_rfl
 c127 := by kernel_rfl
 c143 := by kernel_rfl
 c145 := by kernel_rfl
 c167 := by kernel_rfl
 c168 := by kernel_rfl
 c171 := by kernel_rfl
 c173 := by kernel_rfl
 c175 := by kernel_rfl
 c210 := by kernel_rfl
 c212 := by kernel_rfl
 c213 := by kernel_rfl
 c232 := by kernel_rfl
 c233 := by kernel_rfl }
open Go.RowKit in
theorem Tryz.strconv_Atoi_ok (s : ByteArray) (hmax : s.size ≤ 9223372036854775806) (v : Int) (h : Lib.atoiAll s.data.toList = .ok v) (w : World) :
  Calls Tryz.prog 248 #[.string s] w fun e w' => e = .returned (.tuple #[.int .i64 v, .nilIface]) ∧ (w' = w ∨ ∃ t, w' = Lib.bytesWorld w 5 t) := Any.strconv_Atoi_ok Tryz.laysC172 s hmax v h w
open Go.RowKit in
theorem Tryz.strconv_Atoi_range_var (s : ByteArray) (hlim : s.size ≤ 281474976710656) (h : Lib.atoiAll s.data.toList = .range) (tp : TypeId) (p : Value) (w : World) (hvar : w.var? Tryz.prog "strconv.ErrRange" = some #[.iface tp p]) :
  Calls Tryz.prog 248 #[.string s] w fun e w' => ∃ N, e = .returned (.tuple #[.int .i64 (Lib.atoiSat s.data.toList), .iface 244 (.pointer (some ⟨N, 0, none⟩))]) ∧ w.heap.size ≤ N ∧ w'.heap[N]? = some (.cells #[.string ⟨#[65, 116, 111, 105]⟩, .string s, .iface tp p] 251 (0, 0)) ∧ Below w.heap.size w w' := Any.strconv_Atoi_range_var Tryz.laysC172 s hlim h tp p w hvar
def Tryz.lays99_ren : Go.Shelf.Ren := ⟨fun | 99 => 182 | 206 => 210 | n => n, fun | 9 => 9 | 4 => 4 | 3 => 3 | n => n, fun | n => n⟩
theorem Tryz.lays99 : Go.Proofs.Lays.n99 Tryz.prog Tryz.lays99_ren := {
 mixed := by kernel_rfl
 f99 := Tryz.func182.trans (congrArg some (by kernel_rfl))
 f206 := Tryz.func210.trans (congrArg some (by kernel_rfl))
 t3 := Tryz.underlying3
 a3 := Tryz.isAgg3
 z3 := Tryz.sizeOf3
 v3 := Tryz.zeroValue3
 t4 := Tryz.underlying4
 a4 := Tryz.isAgg4
 z4 := Tryz.sizeOf4
 v4 := Tryz.zeroValue4
 t9 := Tryz.underlying9
 a9 := Tryz.isAgg9
 z9 := Tryz.sizeOf9
 v9 := Tryz.zeroValue9 }
open Go.RowKit Go.Lib in
theorem Tryz.strings_HasPrefix (s p : ByteArray) (w : World) :
  Calls Tryz.prog 182 #[.string s, .string p] w fun e w' => e = .returned (.bool (Lib.hasPrefix s.data.toList p.data.toList)) ∧ w' = w := Any.strings_HasPrefix Tryz.lays99 s p w
end Go.Proofs
namespace Go.Proofs.YtaihlcdkcampbaaGreatDoor
open Go.Proofs Go.RowKit Go.Sort Go.Lib
def strings_HasPrefix (_N : Nat) (s p : List UInt8) : Option Bool := some (Go.Lib.hasPrefix s p)
theorem co_strings_HasPrefix : CallOk Tryz.prog 182 := fun _ _ => by kernel_rfl
theorem c_strings_HasPrefix (N : Nat) (w0 : World) (F0 : Mem) (hF : ∀ b o, F0 b = some o → w0.heap[b]? = some o) (x0 : (List UInt8)) (x1 : (List UInt8)) (r : Bool) (h : strings_HasPrefix N x0 x1 = some r) :
  Calls Tryz.prog 182 ([(.string ⟨(x0).toArray⟩), (.string ⟨(x1).toArray⟩)] : List Value).toArray w0 (FRet w0 F0 fun _ v => v = (.bool r)) := by
 cases h
 exact FRet.below hF ((Tryz.strings_HasPrefix ⟨x0.toArray⟩ ⟨x1.toArray⟩ w0).mono fun e w' ⟨he, hw⟩ => ⟨he, hw ▸ Below.refl _ _⟩) rfl
def strings_IndexByte (_N : Nat) (s : List UInt8) (c : Int) : Option Int := some (Go.Lib.indexByte s c.toNat.toUInt8)
theorem co_strings_IndexByte : CallOk Tryz.prog 183 := fun _ _ => by kernel_rfl
theorem c_strings_IndexByte (N : Nat) (w0 : World) (F0 : Mem) (hF : ∀ b o, F0 b = some o → w0.heap[b]? = some o) (x0 : (List UInt8)) (x1 : Int) (r : Int) (h : strings_IndexByte N x0 x1 = some r) :
  Calls Tryz.prog 183 ([(.string ⟨(x0).toArray⟩), (.int .u8 x1)] : List Value).toArray w0 (FRet w0 F0 fun _ v => v = (.int .i64 r)) := by
 cases h
 exact FRet.below hF ((Tryz.strings_IndexByte ⟨x0.toArray⟩ x1 w0).mono fun e w' ⟨he, hw⟩ => ⟨he, hw ▸ Below.refl _ _⟩) rfl
def strconv_Itoa (_N : Nat) (n : Int) : Option (List UInt8) := if -9223372036854775808 ≤ n ∧ n ≤ 9223372036854775807 then some (Go.Lib.itoa n) else none
theorem co_strconv_Itoa : CallOk Tryz.prog 151 := fun _ _ => by kernel_rfl
theorem c_strconv_Itoa (N : Nat) (w0 : World) (F0 : Mem) (hF : ∀ b o, F0 b = some o → w0.heap[b]? = some o) (hG : Glob F0) (x0 : Int) (r : List UInt8) (h : strconv_Itoa N x0 = some r) :
  Calls Tryz.prog 151 ([(.int .i64 x0)] : List Value).toArray w0 (FRet w0 F0 fun _ v => v = (.string ⟨(r).toArray⟩)) := by
 unfold strconv_Itoa at h
 split at h
 ·rename_i ha
  cases h
  refine FRet.below hF ((Tryz.strconv_Itoa x0 ha.1 ha.2 w0 (hG w0 hF).1).mono ?_) rfl
  rintro e w' ⟨rfl, k, os, rfl⟩
  exact ⟨rfl, rfl, rfl, rfl, by simp [grow, World.drewN], fun j hj => by
   show ((w0.drewN k).heap ++ os)[j]? = _
   rw [Array.getElem?_append_left (show j < (w0.drewN k).heap.size from hj)]; rfl⟩
 ·cases h
def strconv_Atoi (_N : Nat) (s : List UInt8) : Option (Int × Bool) := if s.length ≤ 281474976710656 then (match Go.Lib.atoiAll s with
 | .ok v => some (v, false)
 | .range => some (Go.Lib.atoiSat s, true)
 | _ => none) else none
theorem co_strconv_Atoi : CallOk Tryz.prog 248 := fun _ _ => by kernel_rfl
theorem c_strconv_Atoi (N : Nat) (w0 : World) (F0 : Mem) (hF : ∀ b o, F0 b = some o → w0.heap[b]? = some o) (hG : Glob F0) (x0 : (List UInt8)) (r : Int × Bool) (h : strconv_Atoi N x0 = some r) :
  Calls Tryz.prog 248 ([(.string ⟨(x0).toArray⟩)] : List Value).toArray w0 (FRet w0 F0 fun _ v => ∃ (vq1_0 : Value), v = (.tuple #[(.int .i64 r.1), vq1_0]) ∧ ErrV r.2 vq1_0) := by
 unfold strconv_Atoi at h
 split at h
 ·rename_i ha
  have hsz : (⟨x0.toArray⟩ : ByteArray).size ≤ 281474976710656 := by simpa [ByteArray.size] using ha
  split at h
  ·rename_i v hv
   cases h
   refine FRet.below hF ((Tryz.strconv_Atoi_ok ⟨x0.toArray⟩ (by omega) v (by simpa using hv) w0).mono ?_) ⟨.nilIface, rfl, rfl⟩
   rintro e w' ⟨rfl, (rfl | ⟨t, rfl⟩)⟩
   ·exact ⟨rfl, Below.refl _ _⟩
   ·exact ⟨rfl, rfl, rfl, rfl, by rw [Go.Lib.bytesWorld_size]; omega, fun j hj => Go.Lib.bytesWorld_at_old w0 _ _ j hj⟩
  ·rename_i hv
   cases h
   obtain ⟨tp, p, hvar⟩ := (hG w0 hF).2
   refine (Tryz.strconv_Atoi_range_var ⟨x0.toArray⟩ hsz (by simpa using hv) tp p w0 hvar).mono ?_
   rintro e w' ⟨n, rfl, _, _, hb⟩
   exact ⟨_, F0, rfl, HS.below hF hb, _, rfl, _, _, rfl⟩
  ·cases h
 ·cases h
end Go.Proofs.YtaihlcdkcampbaaGreatDoor
namespace Go.Proofs.YtaihlcdkcampbaaGreatDoor
open Go.Proofs
def Self97 (sR97 : Expr → Int → Option (List UInt8)) : Prop := ∀ (w0 : World) (F0 : Mem) (hF : ∀ b o, F0 b = some o → w0.heap[b]? = some o) (hG : Glob F0) (x0 : Expr) (a0_2 : Option Addr) (n0_2 : Nat) (hb0_2 : LC x0.Kids.length n0_2) (hs0_2 : SlA tExpr F0 a0_2 x0.Kids) (x1 : Int) (r : (List UInt8)), sR97 x0 x1 = some r → Calls Tryz.prog 97 ([(.agg #[(.int .i64 x0.Op), (.int .i64 x0.Value), (.slice a0_2 x0.Kids.length n0_2)]), (.int .i64 x1)] : List Value).toArray w0 (FRet w0 F0 fun F' v => v = (.string ⟨(r).toArray⟩))
theorem co_rules_printed : CallOk Tryz.prog 97 := fun _ _ => by kernel_rfl
end Go.Proofs.YtaihlcdkcampbaaGreatDoor
namespace Go.Proofs.YtaihlcdkcampbaaGreatDoor
open Go.Proofs
def rules_printed_S (N : Nat) (sR97 : Expr → Int → Option (List UInt8)) (x0 : Expr) (x1 : Int) : Option (List UInt8) :=
 ((rules_signOf N x0.Op).bind fun r24 => ((bif r24.2 then (((idx x0.Kids 0).bind fun x62 => ((idx x0.Kids 1).bind fun x76 => ((sR97 x62 r24.1.left_).bind fun r82 => ((sadd r82 ([32] : List UInt8)).bind fun r90 => ((sadd r90 r24.1.text_).bind fun r93 => ((sadd r93 ([32] : List UInt8)).bind fun r96 => ((sR97 x76 r24.1.right_).bind fun r99 => ((sadd r96 r99).bind fun r107 => some r107)))))))).bind fun j55 => some (r24.1.rank_, j55)) else ((bif (x0.Op == 1) then ((strconv_Itoa N x0.Value).bind fun r123 => some (7, r123)) else ((bif (x0.Op == 2) then (((rules_names N ).bind fun r156 => ((idx r156 x0.Value).bind fun x164 => some x164)).bind fun j149 => some (7, j149)) else ((bif (x0.Op == 3) then ((idx x0.Kids 0).bind fun x191 => ((sR97 x191 3).bind fun r205 => ((sadd ([110, 111, 116, 32] : List UInt8) r205).bind fun r213 => some (3, r213)))) else (bif (x0.Op == 11) then none else some (7, ([] : List UInt8)))).bind fun j181 => some (j181.1, j181.2))).bind fun j134 => some (j134.1, j134.2))).bind fun j113 => some (j113.1, j113.2))).bind fun j40 => (bif (decide (j40.1 < x1)) then ((sadd ([40] : List UInt8) j40.2).bind fun r222 => ((sadd r222 ([41] : List UInt8)).bind fun r225 => some r225)) else some j40.2)))
theorem cS_rules_printed (N : Nat) (sR97 : Expr → Int → Option (List UInt8)) (hsR97 : Self97 sR97) (w0 : World) (F0 : Mem) (hF : ∀ b o, F0 b = some o → w0.heap[b]? = some o) (hG : Glob F0) (x0 : Expr) (a0_2 : Option Addr) (n0_2 : Nat) (hb0_2 : LC x0.Kids.length n0_2) (hs0_2 : SlA tExpr F0 a0_2 x0.Kids) (x1 : Int) (r : (List UInt8)) (h : rules_printed_S N sR97 x0 x1 = some r) :
  Calls Tryz.prog 97 ([(.agg (kExpr x0 a0_2 n0_2)), (vi x1)] : List Value).toArray w0 (FRet w0 F0 fun F' v => v = (.string ⟨(r).toArray⟩)) := by
 have hs0 := HS.start hF
 refine Go 97 Tryz.func97 ?_
 refine Sq (Rg [0, 1] ?_)
 refine Bx' 33 (kExpr x0 a0_2 n0_2) hs0 (fun b21 w22 hs23 => ?_)
 refine Vs 1 ?_
 refine Nss (Rg [0, 1] ?_)
 refine Vs 2 ?_
 refine Nss (Rg [0, 1, 2, 3, 4, 5, 6, 7, 8] ?_)
 refine Vs 1 ?_
 refine Ld hs23.at0 ?_
 obtain ⟨r24, hr25, h26⟩ := bind_some h
 refine Cl' co_rules_signOf hs23 (c_rules_signOf N w22 F0 hs23.pers (x0.Op) _ hr25) ?_
 rintro _ F1 w28 hs29 le30 rfl
 refine Vs 3 ?_
 refine Al' 173 #[(.string ⟨(([] : List UInt8)).toArray⟩), (vi 0), (vi 0), (vi 0)] hs29 (fun b32 w33 hs34 => ?_)
 refine St0 (krules_sign r24.1) hs34 (fun w35 hs36 => ?_)
 refine Vs 1 ?_
 refine Nss ?_
 refine Bk ?_
 refine Sq (Rg [0, 1] ?_)
 refine Vs 2 ?_
 refine Nt ?_
 obtain ⟨j40, hj45, h46⟩ := bind_some h26
 refine CWP.cut (fun f w => ∃ (F2 : Mem), HS w0 F0 w F2 [] ∧ Mem.le F1 F2 ∧ FI f [] [(1, (vi x1)), (5, (vi j40.1)), (6, (.string ⟨(j40.2).toArray⟩))]) ?_ ?_
 ·refine Cd hj45 (fun hb47 h48 => ?_) (fun hb47 h49 => ?_)
  ·obtain ⟨j55, hj60, h61⟩ := bind_some h48
   refine RD 24 24 [(sb b32 (krules_sign r24.1) 173), (sb b21 (kExpr x0 a0_2 n0_2) 33)] [] hs36 (fun f w => ∃ (F3 : Mem), HS w0 F0 w F3 [] ∧ Mem.le F1 F3 ∧ FI f [] [(1, (vi x1)), (5, (vi r24.1.rank_)), (6, (.string ⟨(j55).toArray⟩))]) (fun wd50 hw51 => ?_) ?_
   ·refine Dvl [0] [tt, ff, ff, ff, ff, ff, ff, ff, ff, ff, ff, ff, ff, ff, ff, ff, ff, ff, ff, ff, ff, ff, ff, ff] ?_
    refine Dl 1 (fun _ hq => (hq.1.2 0 _ _ rfl)) ?_
    refine Dvl [2] [tt, tt, tt, ff, ff, ff, ff, ff, ff, ff, ff, ff, ff, ff, ff, ff, ff, ff, ff, ff, ff, ff, ff, ff] ?_
    refine Dl 3 (fun _ hq => (hq.1.2 1 _ _ rfl)) ?_
    obtain ⟨x62, hx63, h65⟩ := bind_some hj60
    obtain ⟨hi64, hx63'⟩ := idx_spec hx63
    obtain ⟨b66, o67, C68, E69, fz70, rfl, hF72, hE73⟩ := SlA.open (SlA.mono hs0_2 le30) hx63'
    obtain ⟨ae74_2, ne74_2, hc75, hbe74_2, hse74_2⟩ := (tExpr_open (hE73 _ _ hx63'))
    refine Di 4 hi64 ?_
    refine Dx 5 0 (fun _ hq => hq.1.1 _ _ hF72) hc75 ?_
    refine Dvl [6] [tt, tt, tt, tt, tt, tt, tt, ff, ff, ff, ff, ff, ff, ff, ff, ff, ff, ff, ff, ff, ff, ff, ff, ff] ?_
    refine Dl 7 (fun _ hq => (hq.1.2 0 _ _ rfl)) ?_
    refine Dvl [10] [tt, tt, tt, tt, tt, tt, tt, tt, ff, ff, tt, ff, ff, ff, ff, ff, ff, ff, ff, ff, ff, ff, ff, ff] ?_
    refine Dl 11 (fun _ hq => (hq.1.2 0 _ _ rfl)) ?_
    refine Dvl [14] [tt, tt, tt, tt, tt, tt, tt, tt, ff, ff, tt, tt, ff, ff, tt, ff, ff, ff, ff, ff, ff, ff, ff, ff] ?_
    refine Dl 15 (fun _ hq => (hq.1.2 1 _ _ rfl)) ?_
    obtain ⟨x76, hx77, h79⟩ := bind_some h65
    obtain ⟨hi78, hx77'⟩ := idx_spec hx77
    obtain ⟨ae80_2, ne80_2, hc81, hbe80_2, hse80_2⟩ := (tExpr_open (hE73 _ _ hx77'))
    refine Di 16 hi78 ?_
    refine Dx 17 0 (fun _ hq => hq.1.1 _ _ hF72) hc81 ?_
    refine Dvl [18] [tt, tt, tt, tt, tt, tt, tt, tt, ff, ff, tt, tt, ff, ff, tt, tt, tt, tt, tt, ff, ff, ff, ff, ff] ?_
    refine Dl 19 (fun _ hq => (hq.1.2 0 _ _ rfl)) ?_
    refine D1 8 ?_
    obtain ⟨r82, hr83, h84⟩ := bind_some h79
    refine DCl co_rules_printed hw51 (hsR97 wd50 F1 hw51.pers (hG.mono le30) (x62) ae74_2 ne74_2 hbe74_2 hse74_2 (r24.1.left_) _ hr83) ?_
    rintro _ F4 w86 hs87 le88 rfl
    obtain ⟨r90, hr91, h92⟩ := bind_some h84
    refine Dtl 9 26 9 (.string ⟨(r90).toArray⟩) [tt, tt, tt, tt, tt, tt, tt, tt, tt, tt, tt, tt, ff, ff, tt, tt, tt, tt, tt, tt, ff, ff, ff, ff] (fun _ hq => run_sadd (t := 9) (t' := 9) (x := (.tmp 25)) (y := (.const (.string ⟨([32] : List UInt8).toArray⟩))) (a := r82) (b := ([32] : List UInt8)) (v := r90) rfl rfl hr91) ?_
    obtain ⟨r93, hr94, h95⟩ := bind_some h92
    refine Dtl 12 29 9 (.string ⟨(r93).toArray⟩) [tt, tt, tt, tt, tt, tt, tt, tt, tt, tt, tt, tt, tt, ff, tt, tt, tt, tt, tt, tt, ff, ff, ff, ff] (fun _ hq => run_sadd (t := 9) (t' := 9) (x := (.tmp 26)) (y := (.tmp 28)) (a := r90) (b := r24.1.text_) (v := r93) rfl rfl hr94) ?_
    obtain ⟨r96, hr97, h98⟩ := bind_some h95
    refine Dtl 13 30 9 (.string ⟨(r96).toArray⟩) [tt, tt, tt, tt, tt, tt, tt, tt, tt, tt, tt, tt, tt, tt, tt, tt, tt, tt, tt, tt, ff, ff, ff, ff] (fun _ hq => run_sadd (t := 9) (t' := 9) (x := (.tmp 29)) (y := (.const (.string ⟨([32] : List UInt8).toArray⟩))) (a := r93) (b := ([32] : List UInt8)) (v := r96) rfl rfl hr97) ?_
    refine D1 20 ?_
    obtain ⟨r99, hr100, h101⟩ := bind_some h98
    refine DCl co_rules_printed hs87 (hsR97 w86 F4 hs87.pers (hG.mono (le30.trans le88)) (x76) ae80_2 ne80_2 hbe80_2 (SlA.mono hse80_2 le88) (r24.1.right_) _ hr100) ?_
    rintro _ F5 w103 hs104 le105 rfl
    obtain ⟨r107, hr108, h109⟩ := bind_some h101
    refine Dtl 21 38 9 (.string ⟨(r107).toArray⟩) [tt, tt, tt, tt, tt, tt, tt, tt, tt, tt, tt, tt, tt, tt, tt, tt, tt, tt, tt, tt, tt, tt, ff, ff] (fun _ hq => run_sadd (t := 9) (t' := 9) (x := (.tmp 30)) (y := (.tmp 37)) (a := r96) (b := r99) (v := r107) rfl rfl hr108) ?_
    refine Dvl [22, 23] [tt, tt, tt, tt, tt, tt, tt, tt, tt, tt, tt, tt, tt, tt, tt, tt, tt, tt, tt, tt, tt, tt, tt, tt] ?_
    obtain rfl := some_inj h109
    exact DWP.done (by kernel_rfl) ⟨F5, hs104.dr0.dr0, (le88.trans le105), fI⟩
   ·rintro f w52 ⟨F3, hs53, le54, ⟨_, rfl⟩⟩
    obtain rfl := some_inj h61
    exact .inl ⟨rfl, F3, hs53, le54, fI⟩
  ·refine Sq (Rg [0, 1, 2, 3] ?_)
   refine Vs 1 ?_
   refine Ld hs36.at1 ?_
   refine Vs 2 ?_
   refine Nt ?_
   obtain ⟨j113, hj118, h119⟩ := bind_some h49
   refine CWP.cut (fun f w => ∃ (F6 : Mem), HS w0 F0 w F6 [] ∧ Mem.le F1 F6 ∧ FI f [] [(1, (vi x1)), (5, (vi j113.1)), (6, (.string ⟨(j113.2).toArray⟩))]) ?_ ?_
   ·refine Cd hj118 (fun hb120 h121 => ?_) (fun hb120 h122 => ?_)
    ·refine Rg [0, 1, 2, 3] ?_
     refine Vs 1 ?_
     refine Ld hs36.at1 ?_
     obtain ⟨r123, hr124, h125⟩ := bind_some h121
     refine Cl' co_strconv_Itoa hs36 (c_strconv_Itoa N w35 F1 hs36.pers (hG.mono le30) (x0.Value) _ hr124) ?_
     rintro _ F7 w127 hs128 le129 rfl
     refine Vs 1 ?_
     refine RWP.nil ?_
     obtain rfl := some_inj h125
     exact .inl ⟨rfl, F7, hs128.dr0.dr0, le129, fI⟩
    ·refine Sq (Rg [0, 1, 2, 3] ?_)
     refine Vs 1 ?_
     refine Ld hs36.at1 ?_
     refine Vs 2 ?_
     refine Nt ?_
     obtain ⟨j134, hj139, h140⟩ := bind_some h122
     refine CWP.cut (fun f w => ∃ (F8 : Mem), HS w0 F0 w F8 [] ∧ Mem.le F1 F8 ∧ FI f [] [(1, (vi x1)), (5, (vi j134.1)), (6, (.string ⟨(j134.2).toArray⟩))]) ?_ ?_
     ·refine Cd hj139 (fun hb141 h142 => ?_) (fun hb141 h143 => ?_)
      ·obtain ⟨j149, hj154, h155⟩ := bind_some h142
       refine RD 6 6 [(sb b32 (krules_sign r24.1) 173), (sb b21 (kExpr x0 a0_2 n0_2) 33)] [] hs36 (fun f w => ∃ (F9 : Mem), HS w0 F0 w F9 [] ∧ Mem.le F1 F9 ∧ FI f [] [(1, (vi x1)), (5, (vi 7)), (6, (.string ⟨(j149).toArray⟩))]) (fun wd144 hw145 => ?_) ?_
       ·refine Dv [1] ?_
        refine Dl 2 (fun _ hq => (hq.1.2 1 _ _ rfl)) ?_
        refine D1 0 ?_
        obtain ⟨r156, hr157, h158⟩ := bind_some hj154
        refine DCl co_rules_names hw145 (c_rules_names N wd144 F1 hw145.pers  _ hr157) ?_
        rintro _ F10 w160 hs161 le162 ⟨ar156_0_0, nr156_0_0, rfl, hbr156_0_0, hsr156_0_0⟩
        obtain ⟨x164, hx165, h167⟩ := bind_some h158
        obtain ⟨hi166, hx165'⟩ := idx_spec hx165
        obtain ⟨b168, o169, C170, E171, fz172, rfl, hF174, hE175⟩ := SlA.open hsr156_0_0 hx165'
        have hc177 := hE175 _ _ hx165'
        refine Di 3 hi166 ?_
        refine D1 4 ?_
        refine DStep.val (l' := [true, true, true, true, true, false]) (zd := true) (by kernel_rfl) (by kernel_rfl) (dst := (some 54)) (ty := 9) (g := none) (by kernel_rfl) rfl (run_loadE (t := 9) (x := (.tmp 53)) (b := b168) (o := (o169 + (x0.Value : Int).toNat * 1)) (j := 0) (C := C170) (kk := 1) (cs := [(.string ⟨(x164).toArray⟩)]) (gg := false) (s := 1) (v := (.string ⟨(x164).toArray⟩)) rfl (by kernel_rfl) (hs161.pers _ _ hF174) hc177 (by decide) (by exact ⟨rfl, trivial⟩) rfl rfl) (dz_of hs161 le162 (by simp) (fun e => by cases e)) ?_
        refine Dv [5] ?_
        obtain rfl := some_inj h167
        exact DWP.done (by kernel_rfl) ⟨F10, hs161.dr0.dr0, le162, fI⟩
       ·rintro f w146 ⟨F9, hs147, le148, ⟨_, rfl⟩⟩
        obtain rfl := some_inj h155
        exact .inl ⟨rfl, F9, hs147, le148, fI⟩
      ·refine Sq (Rg [0, 1, 2, 3] ?_)
       refine Vs 1 ?_
       refine Ld hs36.at1 ?_
       refine Vs 2 ?_
       refine Nt ?_
       obtain ⟨j181, hj186, h187⟩ := bind_some h143
       refine CWP.cut (fun f w => ∃ (F11 : Mem), HS w0 F0 w F11 [] ∧ Mem.le F1 F11 ∧ FI f [] [(1, (vi x1)), (5, (vi j181.1)), (6, (.string ⟨(j181.2).toArray⟩))]) ?_ ?_
       ·refine Cd hj186 (fun hb188 h189 => ?_) (fun hb188 h190 => ?_)
        ·refine Rg [0, 1, 2, 3, 4, 5, 6, 7] ?_
         refine Vs 1 ?_
         refine Ld hs36.at1 ?_
         obtain ⟨x191, hx192, h194⟩ := bind_some h189
         obtain ⟨hi193, hx192'⟩ := idx_spec hx192
         obtain ⟨b195, o196, C197, E198, fz199, rfl, hF201, hE202⟩ := SlA.open (SlA.mono hs0_2 le30) hx192'
         obtain ⟨ae203_2, ne203_2, hc204, hbe203_2, hse203_2⟩ := (tExpr_open (hE202 _ _ hx192'))
         refine Ix hi193 ?_
         refine Lx 0 (hs36.pers _ _ hF201) hc204 ?_
         obtain ⟨r205, hr206, h207⟩ := bind_some h194
         refine Cl' co_rules_printed hs36 (hsR97 w35 F1 hs36.pers (hG.mono le30) (x191) ae203_2 ne203_2 hbe203_2 hse203_2 (3) _ hr206) ?_
         rintro _ F12 w209 hs210 le211 rfl
         obtain ⟨r213, hr214, h215⟩ := bind_some h207
         refine V 64 9 (run_sadd (t := 9) (t' := 9) (x := (.const (.string ⟨([110, 111, 116, 32] : List UInt8).toArray⟩))) (y := (.tmp 63)) (a := ([110, 111, 116, 32] : List UInt8)) (b := r205) (v := r213) rfl rfl hr214) ?_
         refine Vs 2 ?_
         refine RWP.nil ?_
         obtain rfl := some_inj h215
         exact .inl ⟨rfl, F12, hs210.dr0.dr0, le211, fI⟩
        ·refine Sq (Rg [0, 1, 2, 3] ?_)
         refine Vs 1 ?_
         refine Ld hs36.at1 ?_
         refine Vs 2 ?_
         refine Nt ?_
         refine Cd h190 (fun hb216 h217 => ?_) (fun hb216 h218 => ?_)
         ·cases h217
         ·refine Sc ?_
          obtain rfl := some_inj h218
          exact .inl ⟨rfl, F1, hs36.dr0.dr0, (Mem.le.refl _), fI⟩
       ·rintro f w178 ⟨F11, hs179, le180, ⟨_, rfl⟩⟩
        obtain rfl := some_inj h187
        exact .inl ⟨rfl, F11, hs179, le180, fI⟩
     ·rintro f w131 ⟨F8, hs132, le133, ⟨_, rfl⟩⟩
      obtain rfl := some_inj h140
      exact .inl ⟨rfl, F8, hs132, le133, fI⟩
   ·rintro f w110 ⟨F6, hs111, le112, ⟨_, rfl⟩⟩
    obtain rfl := some_inj h119
    exact .inl ⟨rfl, F6, hs111, le112, fI⟩
 ·rintro f w37 ⟨F2, hs38, le39, ⟨_, rfl⟩⟩
  refine blockQ_nrm ?_
  refine thenQ_nrm ?_
  refine Sq ?_
  refine Sq (Rg [0, 1, 2] ?_)
  refine Vs 3 ?_
  refine Nt ?_
  refine Cd h46 (fun hb219 h220 => ?_) (fun hb219 h221 => ?_)
  ·refine Sq (Rg [0, 1, 2, 3] ?_)
   refine Vs 1 ?_
   obtain ⟨r222, hr223, h224⟩ := bind_some h220
   refine V 94 9 (run_sadd (t := 9) (t' := 9) (x := (.const (.string ⟨([40] : List UInt8).toArray⟩))) (y := (.tmp 93)) (a := ([40] : List UInt8)) (b := j40.2) (v := r222) rfl rfl hr223) ?_
   obtain ⟨r225, hr226, h227⟩ := bind_some h224
   refine V 95 9 (run_sadd (t := 9) (t' := 9) (x := (.tmp 94)) (y := (.const (.string ⟨([41] : List UInt8).toArray⟩))) (a := r222) (b := ([41] : List UInt8)) (v := r225) rfl rfl hr226) ?_
   refine Vs 1 ?_
   refine Nt ?_
   refine Rt ?_
   refine thenQ_ret ?_
   obtain rfl := some_inj h227
   exact Re [(.string ⟨(r225).toArray⟩)] hs38 rfl
  ·refine Sc ?_
   refine thenQ_nrm ?_
   refine Sq (Rg [0, 1] ?_)
   refine Vs 2 ?_
   refine Nt ?_
   refine Rt ?_
   obtain rfl := some_inj h221
   exact Re [(.string ⟨(j40.2).toArray⟩)] hs38 rfl
end Go.Proofs.YtaihlcdkcampbaaGreatDoor
namespace Go.Proofs.YtaihlcdkcampbaaGreatDoor
open Go.Proofs
structure Rec97 where
 q97 : Expr → Int → Option (List UInt8)
def rec97 (N : Nat) : Nat → Rec97
 | 0 => ⟨fun _ _ => none⟩
 | k + 1 => ⟨rules_printed_S N (rec97 N k).q97⟩
theorem rec97_ok (N : Nat) : ∀ k, Self97 (rec97 N k).q97
 | 0 => (by unfold Self97; intros; rename_i h; cases h)
 | k + 1 => by
  have ih := rec97_ok N k
  exact @cS_rules_printed N (rec97 N k).q97 ih
def rules_printed (N : Nat) (x0 : Expr) (x1 : Int) : Option (List UInt8) := (rec97 N N).q97 x0 x1
theorem c_rules_printed (N : Nat) (w0 : World) (F0 : Mem) (hF : ∀ b o, F0 b = some o → w0.heap[b]? = some o) (hG : Glob F0) (x0 : Expr) (a0_2 : Option Addr) (n0_2 : Nat) (hb0_2 : LC x0.Kids.length n0_2) (hs0_2 : SlA tExpr F0 a0_2 x0.Kids) (x1 : Int) (r : (List UInt8)) (h : rules_printed N x0 x1 = some r) :
  Calls Tryz.prog 97 ([(.agg #[(.int .i64 x0.Op), (.int .i64 x0.Value), (.slice a0_2 x0.Kids.length n0_2)]), (.int .i64 x1)] : List Value).toArray w0 (FRet w0 F0 fun F' v => v = (.string ⟨(r).toArray⟩)) := (rec97_ok N N) w0 F0 hF hG x0 a0_2 n0_2 hb0_2 hs0_2 x1 r h
end Go.Proofs.YtaihlcdkcampbaaGreatDoor
namespace Go.Proofs.YtaihlcdkcampbaaGreatDoor
open Go.Proofs
def rules_PrintExpr (N : Nat) (x0 : Expr) : Option ((List UInt8) × Int) :=
 ((rules_sound N x0).bind fun r24 => (bif (!r24) then some (([] : List UInt8), 61) else ((rules_printed N x0 1).bind fun r35 => some (r35, 0))))
theorem co_rules_PrintExpr : CallOk Tryz.prog 33 := fun _ _ => by kernel_rfl
theorem c_rules_PrintExpr (N : Nat) (w0 : World) (F0 : Mem) (hF : ∀ b o, F0 b = some o → w0.heap[b]? = some o) (hG : Glob F0) (x0 : Expr) (a0_2 : Option Addr) (n0_2 : Nat) (hb0_2 : LC x0.Kids.length n0_2) (hs0_2 : SlA tExpr F0 a0_2 x0.Kids) (r : ((List UInt8) × Int)) (h : rules_PrintExpr N x0 = some r) :
  Calls Tryz.prog 33 ([(.agg (kExpr x0 a0_2 n0_2))] : List Value).toArray w0 (FRet w0 F0 fun F' v => v = (.tuple #[(.string ⟨(r.1).toArray⟩), (vi r.2)])) := by
 have hs0 := HS.start hF
 refine Go 9 Tryz.func33 ?_
 refine Sq (Rg [0, 1, 2] ?_)
 refine Bx' 33 (kExpr x0 a0_2 n0_2) hs0 (fun b21 w22 hs23 => ?_)
 refine Vs 2 ?_
 refine Nss ?_
 refine Sq (Rg [0, 1, 2] ?_)
 refine Ld hs23.at0 ?_
 obtain ⟨r24, hr25, h26⟩ := bind_some h
 refine Cl' co_rules_sound hs23 (c_rules_sound N w22 F0 hs23.pers (x0) a0_2 n0_2 hb0_2 hs0_2 _ hr25) ?_
 rintro _ F1 w28 hs29 le30 rfl
 refine Vs 1 ?_
 refine Nt ?_
 refine Cd h26 (fun hb32 h33 => ?_) (fun hb32 h34 => ?_)
 ·refine Sq (Rg [0, 1] ?_)
  refine Vs 2 ?_
  refine Nt ?_
  refine Rt ?_
  refine thenQ_ret ?_
  obtain rfl := some_inj h33
  exact Re [(.string ⟨(([] : List UInt8)).toArray⟩), (vi 61)] hs29 rfl
 ·refine Sc ?_
  refine thenQ_nrm ?_
  refine Sq (Rg [0, 1, 2, 3] ?_)
  refine Ld hs29.at0 ?_
  obtain ⟨r35, hr36, h37⟩ := bind_some h34
  refine Cl' co_rules_printed hs29 (c_rules_printed N w28 F1 hs29.pers (hG.mono le30) (x0) a0_2 n0_2 hb0_2 (SlA.mono hs0_2 le30) (1) _ hr36) ?_
  rintro _ F2 w39 hs40 le41 rfl
  refine Vs 2 ?_
  refine Nt ?_
  refine Rt ?_
  obtain rfl := some_inj h37
  exact Re [(.string ⟨(r35).toArray⟩), (vi 0)] hs40 rfl
end Go.Proofs.YtaihlcdkcampbaaGreatDoor
namespace Go.Proofs.YtaihlcdkcampbaaGreatDoor
open Go.Proofs
def collectM (m : ∀ {σ : Type}, (σ → rules_token → Option (Bool × σ)) → σ → Option σ) : Option (List rules_token) := m (fun st x => (apnd st [x]).map fun t => (true, t)) ([] : List rules_token)
theorem co_slices_AppendSeq : CallOk Tryz.prog 179 := fun _ _ => by kernel_rfl
theorem c_slices_AppendSeq (w0 : World) (F0 : Mem) (hF : ∀ b o, F0 b = some o → w0.heap[b]? = some o) (gf : FuncId) (cap : List Value) (m : ∀ {σ : Type}, (σ → rules_token → Option (Bool × σ)) → σ → Option σ) (hgf : CallOk Tryz.prog gf) (hseq : SeqOk Tryz.prog gf cap F0 [] enc194 ok194 px194 m) (r : (List rules_token)) (h : collectM m = some r) :
  Calls Tryz.prog 179 ([.slice none 0 0, (.func (.func gf) #[] cap.toArray)] : List Value).toArray w0 (FRet w0 F0 fun F' v => ∃ (aq0_0 : Option Addr) (nq0_0 : Nat), v = (.slice aq0_0 r.length nq0_0) ∧ LC r.length nq0_0 ∧ SlA trules_token F' aq0_0 r) := by
 have hs0 := HS.start hF
 refine calls_ofM (n := 13) (c := bodyOf Tryz.f179) Tryz.func179 (by kernel_rfl) (by kernel_rfl) (by kernel_rfl) ?_
 refine Sq ?_
 refine Rg [0, 1] ?_
 refine RWP.box (dst := (some 2)) (ty := 0) (g := none) (by kernel_rfl) rfl (x := (.tmp 0)) (t := 98) (v := (.slice none ([] : List rules_token).length 0)) rfl (C := #[(.slice none ([] : List rules_token).length 0)]) rfl hs0 (fun b1 w2 (hs3 : HS w0 F0 w2 F0 [(some b1, (.cells #[(.slice none ([] : List rules_token).length 0)] 98 (0, 0)))]) => ?_)
 refine V 4 98 (run_assign (x := (.const (.slice none 0 0))) (v := (.slice none ([] : List rules_token).length 0)) rfl) ?_
 refine RWP.nil ?_
 refine thenQ_nrm ?_
 refine Sq ?_
 refine Sq ?_
 refine Rg [0] ?_
 refine V 6 162 (run_move (x := (.tmp 1)) (v := (.func (.func gf) #[] cap.toArray)) rfl) ?_
 refine RWP.nil ?_
 refine thenQ_nrm ?_
 refine CWP.block (by kernel_rfl) ?_
 have hs4 : HS w0 F0 w2 F0 [(none, .cells #[] 0 (0, 0)), (some b1, (.cells #[(.slice none ([] : List rules_token).length 0)] 98 (0, 0)))] := hs3.dummy _
 obtain ⟨r14, hr15, h16⟩ : ∃ r14, collectM m = some r14 ∧ some r14 = some r := ⟨r, h, rfl⟩
 refine CWP.rangeFunc (enc := enc194) (ok := ok194) (px := px194) (m := fun {_} y s => m y s) (L := [(none, .cells #[] 0 (0, 0)), (some b1, (.cells #[(.slice none ([] : List rules_token).length 0)] 98 (0, 0)))]) (B := []) (ps := [7]) (by kernel_rfl) (gf := gf) (cap := cap) rfl hgf rfl (by kernel_rfl) (by kernel_rfl) (fun _ => rfl) hs4 hseq (fun st x => (apnd st [x]).map fun t => (true, t)) (fun (s6 : (List rules_token)) (F1 : Mem) (Lq : Own) => ∃ (as6_0 : Option Addr) (ns6_0 : Nat) (es6_0 : Option Nat × Obj), Lq = [es6_0, (some b1, (.cells #[(.slice as6_0 s6.length ns6_0)] 98 (0, 0)))] ∧ RowR trules_token 97 F1 as6_0 ns6_0 s6 es6_0) ?_ (s := ([] : List rules_token)) (r := r14) ?_ hr15 (fun _ _ _ h => (map_true h).1) ?_ ?_
 ·
  rintro s F F' L ⟨as6_0, ns6_0, es6_0, rfl, hrs6_0⟩ hl
  exact ⟨as6_0, ns6_0, es6_0, rfl, (hrs6_0.mono hl)⟩
 ·
  exact ⟨none, 0, (none, .cells #[] 0 (0, 0)), rfl, (RowR.nil trules_token 97 F0 _)⟩
 ·
  rintro l17 s6 x19 w20 F1 _ Rf22 ⟨q0, q23⟩ le24 ok25 ⟨as6_0, ns6_0, es6_0, rfl, hrs6_0⟩ hs26 hy27
  have h28 := (map_true hy27).2
  have hs29 : HS w0 F0 w20 F1 (es6_0 :: (some b1, (.cells #[(.slice as6_0 s6.length ns6_0)] 98 (0, 0))) :: Rf22) := hs26
  refine Rg [0, 1] ?_
  refine RWP.alloc (dst := (some 5)) (ty := 0) (g := none) (by kernel_rfl) rfl (t := 97) (z := (.agg #[(.int .i64 0), (.int .i64 0), (.string ⟨(([] : List UInt8)).toArray⟩)])) (by kernel_rfl) (C := #[(.int .i64 0), (.int .i64 0), (.string ⟨(([] : List UInt8)).toArray⟩)]) rfl hs29 (fun b30 w31 (hs32 : HS w0 F0 w31 F1 ((some b30, (.cells #[(.int .i64 0), (.int .i64 0), (.string ⟨(([] : List UInt8)).toArray⟩)] 97 (0, 0))) :: es6_0 :: (some b1, (.cells #[(.slice as6_0 s6.length ns6_0)] 98 (0, 0))) :: Rf22)) => ?_)
  refine RWP.store (ty := 0) (g := none) (by kernel_rfl) rfl (x := (.tmp 5)) (y := (.tmp 7)) (t := 97) (gg := true) (s := 3) (v := (.agg #[(.int .i64 x19.kind_), (.int .i64 x19.at_), (.string ⟨(x19.text_).toArray⟩)])) (b := b30) (o := 0) (C := #[(.int .i64 0), (.int .i64 0), (.string ⟨(([] : List UInt8)).toArray⟩)]) rfl rfl (by kernel_rfl) hs32 (k := 0) rfl rfl rfl rfl (C' := #[(.int .i64 x19.kind_), (.int .i64 x19.at_), (.string ⟨(x19.text_).toArray⟩)]) rfl (fun w33 (hs34 : HS w0 F0 w33 F1 ((some b30, (.cells #[(.int .i64 x19.kind_), (.int .i64 x19.at_), (.string ⟨(x19.text_).toArray⟩)] 97 (0, 0))) :: es6_0 :: (some b1, (.cells #[(.slice as6_0 s6.length ns6_0)] 98 (0, 0))) :: Rf22)) => ?_)
  refine RWP.nil ?_
  refine ⟨rfl, F1, [(some b30, (.cells #[(.int .i64 x19.kind_), (.int .i64 x19.at_), (.string ⟨(x19.text_).toArray⟩)] 97 (0, 0))), es6_0, (some b1, (.cells #[(.slice as6_0 s6.length ns6_0)] 98 (0, 0)))], hs34, fun w35 Rf36 hs37 => ?_⟩
  have hs38 : HS w0 F0 w35 F1 ((some b30, (.cells #[(.int .i64 x19.kind_), (.int .i64 x19.at_), (.string ⟨(x19.text_).toArray⟩)] 97 (0, 0))) :: es6_0 :: (some b1, (.cells #[(.slice as6_0 s6.length ns6_0)] 98 (0, 0))) :: Rf36) := hs37
  refine CWP.block (by kernel_rfl) ?_
  refine Rg [0, 1, 2, 3, 4] ?_
  refine V 8 98 (run_load' (t := 98) (x := (.tmp 2)) (b := b1) (o := 0) (g := false) (s := 1) (C := #[(.slice as6_0 s6.length ns6_0)]) (v := (.slice as6_0 s6.length ns6_0)) rfl (by kernel_rfl) (hs38.ownAt (k := 2) rfl) rfl rfl rfl) ?_
  refine V 9 97 (run_load' (t := 97) (x := (.tmp 5)) (b := b30) (o := 0) (g := true) (s := 3) (C := #[(.int .i64 x19.kind_), (.int .i64 x19.at_), (.string ⟨(x19.text_).toArray⟩)]) (v := (.agg #[(.int .i64 x19.kind_), (.int .i64 x19.at_), (.string ⟨(x19.text_).toArray⟩)])) rfl (by kernel_rfl) (hs38.ownAt (k := 0) rfl) rfl rfl rfl) ?_
  refine RWP.buildSlice (dst := (some 10)) (ty := 98) (g := none) (by kernel_rfl) rfl (t := 98) (len := 1) (parts := #[(0, (.tmp 9))]) (vs := [(0, (.agg #[(.int .i64 x19.kind_), (.int .i64 x19.at_), (.string ⟨(x19.text_).toArray⟩)]))]) (rfl) (E := 97) (cs := [(.int .i64 x19.kind_), (.int .i64 x19.at_), (.string ⟨(x19.text_).toArray⟩)]) (by kernel_rfl) hs38 (fun b39 w40 (hs41 : HS w0 F0 w40 F1 ((some b39, .cells ([(.int .i64 x19.kind_), (.int .i64 x19.at_), (.string ⟨(x19.text_).toArray⟩)] : List Value).toArray 97 (0, 0)) :: (some b30, (.cells #[(.int .i64 x19.kind_), (.int .i64 x19.at_), (.string ⟨(x19.text_).toArray⟩)] 97 (0, 0))) :: es6_0 :: (some b1, (.cells #[(.slice as6_0 s6.length ns6_0)] 98 (0, 0))) :: Rf36)) => ?_)
  have hr43 : RowR trules_token 97 F1 (some ⟨b39, 0, none⟩) 1 [x19] (some b39, .cells ([(.int .i64 x19.kind_), (.int .i64 x19.at_), (.string ⟨(x19.text_).toArray⟩)] : List Value).toArray 97 (0, 0)) := RowR.lit ⟨rfl, rfl⟩ (by simp)
  obtain ⟨r44, hap45, h46⟩ : ∃ r44, apnd s6 [x19] = some r44 ∧ some r44 = some q23 := ⟨_, h28, rfl⟩
  refine RWP.append (dst := (some 11)) (ty := 98) (g := none) (by kernel_rfl) rfl (x := (.tmp 8)) (y := (.tmp 10)) (t := 98) (t2 := 98) (by_ := 32) (z := (.agg #[(.int .i64 0), (.int .i64 0), (.string ⟨(([] : List UInt8)).toArray⟩)])) (a2 := (some ⟨b39, 0, none⟩)) (c2 := 1) (m := [x19]) (T := trules_token) (E := 97) (a := as6_0) (cap := ns6_0) (l := s6) rfl rfl (by kernel_rfl) (by decide) (by kernel_rfl) (by kernel_rfl) rfl orules_token hs41 (k := 2) rfl hrs6_0 (RowR.rd hs41 (k := 0) rfl hr43) (r := r44) hap45 (fun a47 n48 e49 w50 (hs51 : HS w0 F0 w50 F1 ((some b39, .cells ([(.int .i64 x19.kind_), (.int .i64 x19.at_), (.string ⟨(x19.text_).toArray⟩)] : List Value).toArray 97 (0, 0)) :: (some b30, (.cells #[(.int .i64 x19.kind_), (.int .i64 x19.at_), (.string ⟨(x19.text_).toArray⟩)] 97 (0, 0))) :: e49 :: (some b1, (.cells #[(.slice as6_0 s6.length ns6_0)] 98 (0, 0))) :: Rf36)) hr52 => ?_)
  refine RWP.store (ty := 0) (g := none) (by kernel_rfl) rfl (x := (.tmp 2)) (y := (.tmp 11)) (t := 98) (gg := false) (s := 1) (v := (.slice a47 r44.length n48)) (b := b1) (o := 0) (C := #[(.slice as6_0 s6.length ns6_0)]) rfl rfl (by kernel_rfl) hs51 (k := 3) rfl rfl rfl rfl (C' := #[(.slice a47 r44.length n48)]) rfl (fun w53 (hs54 : HS w0 F0 w53 F1 ((some b39, .cells ([(.int .i64 x19.kind_), (.int .i64 x19.at_), (.string ⟨(x19.text_).toArray⟩)] : List Value).toArray 97 (0, 0)) :: (some b30, (.cells #[(.int .i64 x19.kind_), (.int .i64 x19.at_), (.string ⟨(x19.text_).toArray⟩)] 97 (0, 0))) :: e49 :: (some b1, (.cells #[(.slice a47 r44.length n48)] 98 (0, 0))) :: Rf36)) => ?_)
  refine RWP.nil ?_
  refine blockQ_nrm ?_
  have hs56 : HS w0 F0 w53 F1 (e49 :: (some b1, (.cells #[(.slice a47 r44.length n48)] 98 (0, 0))) :: Rf36) := (hs54.drop 0).drop 0
  obtain rfl := some_inj h46
  exact ⟨rfl, F1, [e49, (some b1, (.cells #[(.slice a47 r44.length n48)] 98 (0, 0)))], hs56, (Mem.le.refl _), ⟨a47, n48, e49, rfl, hr52⟩⟩
 ·
  rintro D58 w59 F2 _ hs60 le61 ⟨as10_0, ns10_0, es10_0, rfl, hrs10_0⟩
  have hs62 : HS w0 F0 w59 F2 [(some D58, (.deferred (some []))), es10_0, (some b1, (.cells #[(.slice as10_0 r14.length ns10_0)] 98 (0, 0)))] := hs60
  refine blockQ_nrm ?_
  refine thenQ_nrm ?_
  refine Sq ?_
  refine Rg [0, 1] ?_
  refine V 12 98 (run_load' (t := 98) (x := (.tmp 2)) (b := b1) (o := 0) (g := false) (s := 1) (C := #[(.slice as10_0 r14.length ns10_0)]) (v := (.slice as10_0 r14.length ns10_0)) rfl (by kernel_rfl) (hs62.ownAt (k := 2) rfl) rfl rfl rfl) ?_
  refine V 4 98 (run_assign (x := (.tmp 12)) (v := (.slice as10_0 r14.length ns10_0)) rfl) ?_
  refine RWP.nil ?_
  refine thenQ_nrm ?_
  refine CWP.ret (by kernel_rfl) ?_
  have hb66 := RowR.bound hrs10_0
  obtain ⟨F3, hs63, le64, hs65⟩ : ∃ Fq, HS w0 F0 w59 Fq [(some D58, (.deferred (some []))), (some b1, (.cells #[(.slice as10_0 r14.length ns10_0)] 98 (0, 0)))] ∧ Mem.le F2 Fq ∧ SlA trules_token Fq as10_0 r14 := HS.freezeRow hs62 (k := 1) rfl hrs10_0
  have hs67 := hs63.put (k := 0) rfl (.deferred none)
  have hs68 : HS w0 F0 (putB w59 D58 (.deferred none)) F3 [(some b1, (.cells #[(.slice as10_0 r14.length ns10_0)] 98 (0, 0)))] := hs67.drop 0
  have hfin := some_inj h16
  subst hfin
  exact .inr ⟨D58, rfl, hs63.ownAt (k := 0) rfl, (.slice as10_0 r14.length ns10_0), res_of (l := [.tmp 4]) (by kernel_rfl) (vs := [(.slice as10_0 r14.length ns10_0)]) ⟨rfl, trivial⟩, (.slice as10_0 r14.length ns10_0), F3, rfl, hs68.clear, ⟨as10_0, ns10_0, rfl, hb66, hs65⟩⟩
theorem co_slices_Collect : CallOk Tryz.prog 132 := fun _ _ => by kernel_rfl
set_option maxRecDepth 100000 in
theorem c_slices_Collect (w0 : World) (F0 : Mem) (hF : ∀ b o, F0 b = some o → w0.heap[b]? = some o) (gf : FuncId) (cap : List Value) (m : ∀ {σ : Type}, (σ → rules_token → Option (Bool × σ)) → σ → Option σ) (hgf : CallOk Tryz.prog gf) (hseq : SeqOk Tryz.prog gf cap F0 [] enc194 ok194 px194 m) (r : (List rules_token)) (h : collectM m = some r) :
  Calls Tryz.prog 132 ([(.func (.func gf) #[] cap.toArray)] : List Value).toArray w0 (FRet w0 F0 fun F' v => ∃ (aq0_0 : Option Addr) (nq0_0 : Nat), v = (.slice aq0_0 r.length nq0_0) ∧ LC r.length nq0_0 ∧ SlA trules_token F' aq0_0 r) := by
 have hs0 := HS.start hF
 refine calls_of (n := 5) (c := bodyOf Tryz.f132) Tryz.func132 (by kernel_rfl) (by kernel_rfl) (by kernel_rfl) ?_
 refine Sq ?_
 refine Rg [0] ?_
 refine V 2 98 (run_assign (x := (.const (.slice none 0 0))) (v := (.slice none 0 0)) rfl) ?_
 refine RWP.nil ?_
 refine thenQ_nrm ?_
 refine Sq ?_
 refine Rg [0, 1, 2] ?_
 refine V 3 162 (run_move (x := (.tmp 0)) (v := (.func (.func gf) #[] cap.toArray)) rfl) ?_
 refine RWP.call (dst := (some 4)) (ty := 98) (g := none) (by kernel_rfl) rfl (f0 := (.func 179)) (aos := #[(.const (.slice none 0 0)), (.tmp 3)]) (ats := #[98, 162]) (fid := 179) (first := #[]) (cap := #[]) (args := [.slice none 0 0, (.func (.func gf) #[] cap.toArray)]) rfl co_slices_AppendSeq rfl hs0 (c_slices_AppendSeq w0 F0 hs0.pers gf cap m hgf hseq r h) ?_
 intro v F1 w1 hs1 le1 hp
 obtain ⟨a, n, rfl, hb, hs⟩ := hp
 refine V 2 98 (run_assign (x := (.tmp 4)) (v := (.slice a r.length n)) rfl) ?_
 refine RWP.nil ?_
 refine thenQ_nrm ?_
 refine CWP.ret (by kernel_rfl) ?_
 exact ⟨rfl, (.slice a r.length n), res_of (l := [.tmp 2]) (by kernel_rfl) (vs := [(.slice a r.length n)]) ⟨rfl, trivial⟩, _, F1, rfl, hs1, a, n, rfl, hb, hs⟩
theorem co_rules_tokens : CallOk Tryz.prog 133 := fun _ _ => by kernel_rfl
set_option maxRecDepth 100000 in
theorem c_rules_tokens (w0 : World) (F0 : Mem) (hF : ∀ b o, F0 b = some o → w0.heap[b]? = some o) (x0 : List UInt8) :
  Calls Tryz.prog 133 ([(.string ⟨(x0).toArray⟩)] : List Value).toArray w0 (FRet w0 F0 fun F' v => ∃ (b1 b2 : Nat), v = .func (.func 181) #[] #[.pointer (some ⟨b1, 0, none⟩), .pointer (some ⟨b2, 0, none⟩)] ∧ F' b1 = some (.cells #[(.string ⟨(x0).toArray⟩)] 9 (0, 0)) ∧ F' b2 = some (.cells #[.func (.func 180) #[] #[.pointer (some ⟨b1, 0, none⟩)]] 193 (0, 0))) := by
 have hs0 := HS.start hF
 refine calls_of (n := 6) (c := bodyOf Tryz.f133) Tryz.func133 (by kernel_rfl) (by kernel_rfl) (by kernel_rfl) ?_
 refine Sq ?_
 refine Rg [0, 1] ?_
 refine RWP.box (dst := (some 1)) (ty := 0) (g := none) (by kernel_rfl) rfl (x := (.tmp 0)) (t := 9) (v := (.string ⟨(x0).toArray⟩)) rfl (C := #[(.string ⟨(x0).toArray⟩)]) rfl hs0 (fun b1 w1 hs1 => ?_)
 refine V 2 162 (run_assign (x := (.const .nilFunc)) (v := .nilFunc) rfl) ?_
 refine RWP.nil ?_
 refine thenQ_nrm ?_
 refine Sq ?_
 refine Rg [0, 1, 2] ?_
 refine V 4 193 (run_makeFunc (fn := .func 180) (first := #[]) (cap := #[.tmp 1]) (fl := []) (cl := [.pointer (some ⟨b1, 0, none⟩)]) rfl rfl) ?_
 refine RWP.alloc (dst := (some 3)) (ty := 0) (g := none) (by kernel_rfl) rfl (t := 193) (z := .nilFunc) (by kernel_rfl) (C := #[.nilFunc]) rfl hs1 (fun b2 w2 hs2 => ?_)
 refine RWP.store (ty := 0) (g := none) (by kernel_rfl) rfl (x := (.tmp 3)) (y := (.tmp 4)) (t := 193) (gg := false) (s := 1) (v := .func (.func 180) #[] #[.pointer (some ⟨b1, 0, none⟩)]) (b := b2) (o := 0) (C := #[.nilFunc]) rfl rfl (by kernel_rfl) hs2 (k := 0) rfl rfl rfl rfl (C' := #[.func (.func 180) #[] #[.pointer (some ⟨b1, 0, none⟩)]]) rfl (fun w3 (hs3 : HS w0 F0 w3 F0 [(some b2, .cells #[.func (.func 180) #[] #[.pointer (some ⟨b1, 0, none⟩)]] 193 (0, 0)), (some b1, .cells #[(.string ⟨(x0).toArray⟩)] 9 (0, 0))]) => ?_)
 refine RWP.nil ?_
 refine thenQ_nrm ?_
 refine Sq ?_
 refine Rg [0, 1] ?_
 refine V 5 161 (run_makeFunc (fn := .func 181) (first := #[]) (cap := #[.tmp 1, .tmp 3]) (fl := []) (cl := [.pointer (some ⟨b1, 0, none⟩), .pointer (some ⟨b2, 0, none⟩)]) rfl rfl) ?_
 refine V 2 162 (run_assign (x := (.tmp 5)) (v := .func (.func 181) #[] #[.pointer (some ⟨b1, 0, none⟩), .pointer (some ⟨b2, 0, none⟩)]) rfl) ?_
 refine RWP.nil ?_
 refine thenQ_nrm ?_
 refine CWP.ret (by kernel_rfl) ?_
 obtain ⟨F1, hs4, le1, hF1⟩ : ∃ Fq, HS w0 F0 w3 Fq [(some b1, .cells #[(.string ⟨(x0).toArray⟩)] 9 (0, 0))] ∧ Mem.le F0 Fq ∧ Fq b2 = some _ := HS.freezeC hs3 (k := 0) rfl
 obtain ⟨F2, hs5, le2, hF2⟩ : ∃ Fq, HS w0 F0 w3 Fq [] ∧ Mem.le F1 Fq ∧ Fq b1 = some _ := HS.freezeC hs4 (k := 0) rfl
 exact ⟨rfl, _, res_of (l := [.tmp 2]) (by kernel_rfl) (vs := [.func (.func 181) #[] #[.pointer (some ⟨b1, 0, none⟩), .pointer (some ⟨b2, 0, none⟩)]]) ⟨rfl, trivial⟩, _, F2, rfl, hs5, b1, b2, rfl, hF2, le2 _ _ hF1⟩
end Go.Proofs.YtaihlcdkcampbaaGreatDoor
namespace Go.Proofs.YtaihlcdkcampbaaGreatDoor
open Go.Proofs
def rules_tokens_1_L0 (N : Nat) (x0 : Int) (x1 : Int) (x2 : Int) (z0 : (List UInt8)) : Int → Option (Flow (List UInt8) Int) := fun s24 =>
 ((bif (decide (s24 < (z0.length : Int))) then ((sidx z0 s24).bind fun c64 => (bif (decide (x1 ≤ c64)) then ((sidx z0 s24).bind fun c70 => some (decide (c70 ≤ x2))) else some false)) else some false).bind fun j51 => (bif j51 then some (.next (W64 (s24 + 1))) else some (.done s24)))
def rules_tokens_1 (N : Nat) (x0 : Int) (x1 : Int) (x2 : Int) (z0 : (List UInt8)) : Option (List UInt8) :=
 ((iter (rules_tokens_1_L0 N x0 x1 x2 z0) N x0).bind fun o => o.k (fun r => some r) (fun s34 => ((ssub z0 x0 s34).bind fun r79 => some r79)))
theorem co_rules_tokens_1 : CallOk Tryz.prog 180 := fun _ _ => by kernel_rfl
theorem c_rules_tokens_1 (N : Nat) (w0 : World) (F0 : Mem) (hF : ∀ b o, F0 b = some o → w0.heap[b]? = some o) (x0 : Int) (x1 : Int) (x2 : Int) (bz0 : Nat) (z0 : (List UInt8)) (hz0 : F0 bz0 = some (oc #[(.string ⟨(z0).toArray⟩)] 9)) (r : (List UInt8)) (h : rules_tokens_1 N x0 x1 x2 z0 = some r) :
  Calls Tryz.prog 180 ([(vi x0), (.int .u8 x1), (.int .u8 x2), (pt bz0 0)] : List Value).toArray w0 (FRet w0 F0 fun F' v => v = (.string ⟨(r).toArray⟩)) := by
 have hs0 := HS.start hF
 refine Go 34 Tryz.func180 ?_
 refine Sq (Rg [0] ?_)
 refine Vs 1 ?_
 refine Nss (Rg [0, 1] ?_)
 refine Vs 2 ?_
 refine Nss ?_
 obtain ⟨o21, ho22, h23⟩ := bind_some h
 refine CWP.cut (fun f w => ∃ (s34 : Int) (F2 : Mem), o21 = .done s34 ∧ HS w0 F0 w F2 [] ∧ Mem.le F0 F2 ∧ FI f [] [(0, (vi x0)), (3, (pt bz0 0)), (8, (vi s34))]) ?_ ?_
 ·refine Bk ?_
  refine CWP.loop (by kernel_rfl) (fun m f w => ∃ (s24 : Int) (F1 : Mem), iter (rules_tokens_1_L0 N x0 x1 x2 z0) m s24 = some o21 ∧ HS w0 F0 w F1 [] ∧ Mem.le F0 F1 ∧ FI f [] [(0, (vi x0)), (1, (.int .u8 x1)), (2, (.int .u8 x2)), (3, (pt bz0 0)), (8, (vi s24))]) N ⟨x0, F0, ho22, hs0, (Mem.le.refl _), fI⟩ ?_
  rintro m42 f w25 ⟨s24, F1, hit43, hs26, le27, ⟨_, rfl⟩⟩
  obtain ⟨m44, fl45, rfl, hb46, hnx47⟩ := iter_step hit43
  refine Sq ?_
  refine Sq (Rg [0, 1, 2, 3, 4, 5, 6, 7, 8, 9, 10, 11, 12, 13, 14, 15, 16, 17] ?_)
  obtain ⟨j51, hj59, h60⟩ := bind_some hb46
  refine RWP.cut (fun f w => ∃ (F3 : Mem), HS w0 F0 w F3 [] ∧ Mem.le F1 F3 ∧ FI f [] [(0, (vi x0)), (1, (.int .u8 x1)), (2, (.int .u8 x2)), (3, (pt bz0 0)), (8, (vi s24)), (27, (.bool j51))]) ?_ ?_
  ·refine Vs 1 ?_
   refine Ld (hs26.pers _ _ (le27 _ _ hz0)) ?_
   refine Vs 3 ?_
   refine Sp hj59 (fun hb61 h62 => ?_) (fun hb61 h63 => ?_)
   ·refine Vgs hb61 1 ?_
    refine Lg hb61 (hs26.pers _ _ (le27 _ _ hz0)) ?_
    refine Vgs hb61 1 ?_
    obtain ⟨c64, hr65, h66⟩ := bind_some h62
    refine Vg 18 5 4 true 14 hb61 (run_sidx (t := 9) (x := (.tmp 16)) (y := (.tmp 17)) (a := z0) (k := .i64) (i := s24) (v := c64) rfl rfl (by kernel_rfl) hr65) ?_
    refine Vgs hb61 1 ?_
    refine Pk1 hb61 ?_
    refine Vs 1 ?_
    refine Sp h66 (fun hb67 h68 => ?_) (fun hb67 h69 => ?_)
    ·refine Lg hb67 (hs26.pers _ _ (le27 _ _ hz0)) ?_
     refine Vgs hb67 1 ?_
     obtain ⟨c70, hr71, h72⟩ := bind_some h68
     refine Vg 24 5 11 true 21 hb67 (run_sidx (t := 9) (x := (.tmp 22)) (y := (.tmp 23)) (a := z0) (k := .i64) (i := s24) (v := c70) rfl rfl (by kernel_rfl) hr71) ?_
     refine Vgs hb67 2 ?_
     refine Pk1 hb67 ?_
     obtain rfl := some_inj h72
     exact RWP.nil ⟨rfl, F1, hs26, (Mem.le.refl _), fI⟩
    ·refine Ss hb67 5 ?_
     refine Pk0 hb67 ?_
     obtain rfl := some_inj h69
     exact RWP.nil ⟨rfl, F1, hs26, (Mem.le.refl _), fI⟩
   ·refine Ss hb61 5 ?_
    refine Pk0 hb61 ?_
    refine Vs 1 ?_
    refine Ss (rfl : false = false) 5 ?_
    refine Pk0 (rfl : false = false) ?_
    obtain rfl := some_inj h63
    exact RWP.nil ⟨rfl, F1, hs26, (Mem.le.refl _), fI⟩
  ·rintro f w48 ⟨F3, hs49, le50, ⟨_, rfl⟩⟩
   refine thenQ_nrm ?_
   refine Cd h60 (fun hb73 h74 => ?_) (fun hb73 h75 => ?_)
   ·refine Sc ?_
    refine thenQ_nrm ?_
    refine Bk ?_
    refine Rg [0, 1, 2] ?_
    refine Vs 3 ?_
    refine RWP.nil ?_
    refine blockQ_nrm ?_
    have hn76 := iter_next h74 hnx47
    exact ⟨m44, Nat.lt_succ_self _, (W64 (s24 + 1)), F3, hn76, hs49, (le27.trans le50), fI⟩
   ·refine Ex ?_
    refine thenQ_ex ?_
    refine thenQ_ex ?_
    refine blockQ_hit rfl ?_
    have ho77 := iter_done h75 hnx47
    exact .inl ⟨rfl, s24, F3, ho77, hs49, (le27.trans le50), fI⟩
 ·rintro f w35 ⟨s34, F2, rfl, hs36, le37, ⟨_, rfl⟩⟩
  have h78 := k_done h23
  refine thenQ_nrm ?_
  refine Sq (Rg [0, 1, 2, 3, 4] ?_)
  refine Ld (hs36.pers _ _ (le37 _ _ hz0)) ?_
  refine Vs 2 ?_
  obtain ⟨r79, hr80, h81⟩ := bind_some h78
  refine V 33 9 (run_ssub (t := 9) (x := (.tmp 30)) (lo := (some (.tmp 31))) (hi := (some (.tmp 32))) (a := z0) (il := x0) (ih := s34) (v := r79) rfl (by kernel_rfl) rfl rfl hr80) ?_
  refine Vs 1 ?_
  refine Nt ?_
  refine Rt ?_
  obtain rfl := some_inj h81
  exact Re [(.string ⟨(r79).toArray⟩)] hs36 rfl
end Go.Proofs.YtaihlcdkcampbaaGreatDoor
namespace Go.Proofs.YtaihlcdkcampbaaGreatDoor
open Go.Proofs
def rules_tokens_2_L0 {σ : Type} (N : Nat) (y : (σ → rules_token → Option (Bool × σ))) (z0 : (List UInt8)) (z1 : (Int → Int → Int → Option (List UInt8))) (s : σ) : (Int × σ) → Option (Flow σ (Int × σ)) := fun s4 =>
 (bif (decide (s4.1 < (z0.length : Int))) then ((ssub z0 s4.1 (W64 (s4.1 + 1))).bind fun r33 => ((sidx z0 s4.1).bind fun c41 => (bif ((c41 == 32) || (c41 == 9)) then some (.next ((W64 (s4.1 + 1)), s4.2)) else ((bif ((decide (c41 ≥ 48)) && (decide (c41 ≤ 57))) then ((z1 s4.1 48 57).bind fun r87 => some (1, r87)) else ((bif ((decide (c41 ≥ 97)) && (decide (c41 ≤ 122))) then ((z1 s4.1 97 122).bind fun r126 => some (2, r126)) else ((ssub z0 s4.1 (z0.length : Int)).bind fun r138 => ((strings_HasPrefix N r138 ([61, 62] : List UInt8)).bind fun r141 => ((bif r141 then some (3, ([61, 62] : List UInt8)) else ((strings_IndexByte N ([40, 41, 44, 58, 61, 60, 43, 45, 42, 10] : List UInt8) c41).bind fun r168 => ((bif (decide (r168 ≥ 0)) then some 3 else some 4).bind fun j179 => some (j179, r33)))).bind fun j152 => some (j152.1, j152.2))))).bind fun j114 => some (j114.1, j114.2))).bind fun j75 => ((y s4.2 ({ kind_ := j75.1, at_ := s4.1, text_ := j75.2 } : rules_token)).bind fun q193 => (bif (!q193.1) then some (.ret q193.2) else some (.next ((W64 (s4.1 + (j75.2.length : Int))), q193.2)))))))) else some (.done (s4.1, s4.2)))
def rules_tokens_2 {σ : Type} (N : Nat) (y : σ → rules_token → Option (Bool × σ)) (z0 : (List UInt8)) (z1 : (Int → Int → Int → Option (List UInt8))) (s : σ) : Option σ :=
 ((iter (rules_tokens_2_L0 N y z0 z1 s) N (0, s)).bind fun o => o.k (fun r => some r) (fun s15 => ((y s15.2 ({ kind_ := 0, at_ := (z0.length : Int), text_ := ([] : List UInt8) } : rules_token)).bind fun q208 => some q208.2)))
theorem co_rules_tokens_2 : CallOk Tryz.prog 181 := fun _ _ => by kernel_rfl
theorem c_rules_tokens_2 (N : Nat) (F0 : Mem) (z0 : (List UInt8)) (bz0 : Nat) (hz0 : F0 bz0 = some (oc #[(.string ⟨(z0).toArray⟩)] 9)) (z1 : (Int → Int → Int → Option (List UInt8))) (gz1_0 : FuncId) (fz1_0 : List Value) (kz1_0 : List Value) (hoz1_0 : CallOk Tryz.prog gz1_0) (hpz1_0 : Fn193 F0 gz1_0 fz1_0 kz1_0 z1) (bz1 : Nat) (hz1 : F0 bz1 = some (oc #[(.func (.func gz1_0) fz1_0.toArray kz1_0.toArray)] 193)) :
  SeqOk Tryz.prog 181 [(pt bz0 0), (pt bz1 0)] F0 [] enc194 ok194 px194 (fun {_} y s => rules_tokens_2 N y z0 z1 s) := by
 intro σ wb w0 Fb F1 l y J s r Lf le01 hJm hs0 hJ hY h
 have hs0 : HS wb Fb w0 F1 Lf := hs0
 refine calls_of (n := 80) (c := bodyOf Tryz.f181) Tryz.func181 (by kernel_rfl) (by kernel_rfl) (by kernel_rfl) ?_
 refine Sq ?_
 refine Sq (Rg [0] ?_)
 refine Vs 1 ?_
 refine Nt ?_
 obtain ⟨o1, ho2, h3⟩ := bind_some h
 refine CWP.cut (fun f w => ∃ (s15 : (Int × σ)) (F3 : Mem) (Lf19 : Own), o1 = .done s15 ∧ HS wb Fb w F3 Lf19 ∧ Mem.le F1 F3 ∧ FI f [] [(0, (.func (.yield l) #[] #[])), (1, (pt bz0 0))] ∧ J s15.2 F3 Lf19) ?_ ?_
 ·refine Bk ?_
  refine CWP.loop (by kernel_rfl) (fun m f w => ∃ (s4 : (Int × σ)) (F2 : Mem) (Lf8 : Own), iter (rules_tokens_2_L0 N y z0 z1 s) m s4 = some o1 ∧ HS wb Fb w F2 Lf8 ∧ Mem.le F1 F2 ∧ FI f [] [(0, (.func (.yield l) #[] #[])), (1, (pt bz0 0)), (2, (pt bz1 0)), (4, (vi s4.1))] ∧ J s4.2 F2 Lf8) N ⟨(0, s), F1, Lf, ho2, hs0, (Mem.le.refl _), fI, hJ⟩ ?_
  rintro m24 f w5 ⟨s4, F2, Lf8, hit25, hs6, le7, ⟨_, rfl⟩, hJ9⟩
  obtain ⟨m26, fl27, rfl, hb28, hnx29⟩ := iter_step hit25
  refine Sq ?_
  refine Sq (Rg [0, 1, 2, 3] ?_)
  refine Vs 1 ?_
  refine Ld (hs6.pers _ _ ((le01.trans le7) _ _ hz0)) ?_
  refine Vs 1 ?_
  refine Vs 1 ?_
  refine Nt ?_
  refine Cd hb28 (fun hb30 h31 => ?_) (fun hb30 h32 => ?_)
  ·refine Sc ?_
   refine thenQ_nrm ?_
   refine Bk ?_
   refine Sq (Rg [0, 1, 2, 3, 4, 5, 6, 7, 8] ?_)
   refine Vs 1 ?_
   refine Ld (hs6.pers _ _ ((le01.trans le7) _ _ hz0)) ?_
   refine Vs 1 ?_
   refine Vs 1 ?_
   refine Vs 1 ?_
   obtain ⟨r33, hr34, h35⟩ := bind_some h31
   refine V 16 9 (run_ssub (t := 9) (x := (.tmp 12)) (lo := (some (.tmp 13))) (hi := (some (.tmp 15))) (a := z0) (il := s4.1) (ih := (W64 (s4.1 + 1))) (v := r33) rfl (by kernel_rfl) rfl rfl hr34) ?_
   refine Vs 1 ?_
   refine Al' 97 #[(vi 0), (vi 0), (.string ⟨(([] : List UInt8)).toArray⟩)] hs6 (fun b36 w37 hs38 => ?_)
   refine St0 #[(vi 4), (vi s4.1), (.string ⟨(r33).toArray⟩)] hs38 (fun w39 hs40 => ?_)
   refine Nss ?_
   refine Sq (Rg [0, 1, 2, 3] ?_)
   refine Ld (hs40.pers _ _ ((le01.trans le7) _ _ hz0)) ?_
   refine Vs 1 ?_
   obtain ⟨c41, hr42, h43⟩ := bind_some h35
   refine V 20 5 (run_sidx (t := 9) (x := (.tmp 18)) (y := (.tmp 19)) (a := z0) (k := .i64) (i := s4.1) (v := c41) rfl rfl (by kernel_rfl) hr42) ?_
   refine Vs 1 ?_
   refine Nt ?_
   refine Bk ?_
   refine Sq (Rg [0, 1, 2, 3, 4, 5, 6] ?_)
   refine RWP.cut (fun f w => ∃ (F4 : Mem), HS wb Fb w F4 ((sb b36 #[(vi 4), (vi s4.1), (.string ⟨(r33).toArray⟩)] 97) :: Lf8) ∧ Mem.le F2 F4 ∧ FI f [] [(0, (.func (.yield l) #[] #[])), (1, (pt bz0 0)), (2, (pt bz1 0)), (4, (vi s4.1)), (5, (pt b36 0)), (6, (.int .u8 c41)), (21, (.bool ((c41 == 32) || (c41 == 9))))]) ?_ ?_
   ·refine Vs 1 ?_
    refine Vs 1 ?_
    refine Vs 1 ?_
    refine RWP.split (c41 == 32) (fun hb55 => ?_) (fun hb55 => ?_)
    ·refine Ss hb55 1 ?_--2
     refine Ss hb55 1 ?_--2
     refine Pk1 hb55 ?_
     refine Vs 1 ?_
     exact RWP.nil ⟨rfl, F2, hs40, (Mem.le.refl _), (fJ ⟨rfl, rfl, rfl, rfl, rfl, rfl, (congrArg Value.bool (or_t hb55 (rfl))), trivial⟩)⟩
    ·refine Vgs hb55 1 ?_--2
     refine Vgs hb55 1 ?_--2
     refine Pk0 hb55 ?_
     refine Vs 1 ?_
     exact RWP.nil ⟨rfl, F2, hs40, (Mem.le.refl _), (fJ ⟨rfl, rfl, rfl, rfl, rfl, rfl, (congrArg Value.bool (or_f hb55 (rfl))), trivial⟩)⟩
   ·rintro f w44 ⟨F4, hs45, le46, ⟨_, rfl⟩⟩
    refine thenQ_nrm ?_
    refine Cd h43 (fun hb56 h57 => ?_) (fun hb56 h58 => ?_)
    ·refine Sq (Rg [0, 1, 2] ?_)
     refine Vs 1 ?_
     refine Vs 1 ?_
     refine Vs 1 ?_
     refine Nt ?_
     refine Ex ?_
     refine blockQ_miss (by decide) ?_
     refine thenQ_ex ?_
     refine blockQ_hit rfl ?_
     have hn59 := iter_next h57 hnx29
     exact ⟨m26, Nat.lt_succ_self _, ((W64 (s4.1 + 1)), s4.2), F4, Lf8, hn59, hs45.dr0, (le7.trans le46), fI, (hJm _ _ _ _ hJ9 le46)⟩
    ·refine Sq (Rg [0, 1, 2, 3, 4, 5, 6] ?_)
     refine RWP.cut (fun f w => ∃ (F5 : Mem), HS wb Fb w F5 ((sb b36 #[(vi 4), (vi s4.1), (.string ⟨(r33).toArray⟩)] 97) :: Lf8) ∧ Mem.le F4 F5 ∧ FI f [] [(0, (.func (.yield l) #[] #[])), (1, (pt bz0 0)), (2, (pt bz1 0)), (4, (vi s4.1)), (5, (pt b36 0)), (6, (.int .u8 c41)), (30, (.bool ((decide (c41 ≥ 48)) && (decide (c41 ≤ 57)))))]) ?_ ?_
     ·refine Vs 1 ?_
      refine Vs 1 ?_
      refine Vs 1 ?_
      refine RWP.split (decide (c41 ≥ 48)) (fun hb71 => ?_) (fun hb71 => ?_)
      ·refine Vgs hb71 1 ?_--2
       refine Vgs hb71 1 ?_--2
       refine Pk1 hb71 ?_
       refine Vs 1 ?_
       exact RWP.nil ⟨rfl, F4, hs45, (Mem.le.refl _), (fJ ⟨rfl, rfl, rfl, rfl, rfl, rfl, (congrArg Value.bool (and_t hb71 (rfl))), trivial⟩)⟩
      ·refine Ss hb71 1 ?_--2
       refine Ss hb71 1 ?_--2
       refine Pk0 hb71 ?_
       refine Vs 1 ?_
       exact RWP.nil ⟨rfl, F4, hs45, (Mem.le.refl _), (fJ ⟨rfl, rfl, rfl, rfl, rfl, rfl, (congrArg Value.bool (and_f hb71 (rfl))), trivial⟩)⟩
     ·rintro f w60 ⟨F5, hs61, le62, ⟨_, rfl⟩⟩
      refine thenQ_nrm ?_
      obtain ⟨j75, hj82, h83⟩ := bind_some h58
      refine CWP.cut (fun f w => ∃ (F6 : Mem), HS wb Fb w F6 ((sb b36 #[(vi j75.1), (vi s4.1), (.string ⟨(j75.2).toArray⟩)] 97) :: Lf8) ∧ Mem.le F5 F6 ∧ FI f [] [(0, (.func (.yield l) #[] #[])), (1, (pt bz0 0)), (2, (pt bz1 0)), (4, (vi s4.1)), (5, (pt b36 0))]) ?_ ?_
      ·refine Cd hj82 (fun hb84 h85 => ?_) (fun hb84 h86 => ?_)
       ·refine Rg [0, 1, 2, 3, 4, 5, 6] ?_
        refine Ld (hs61.pers _ _ ((((le01.trans le7).trans le46).trans le62) _ _ hz1)) ?_
        refine Vs 1 ?_
        obtain ⟨r87, hr88, h89⟩ := bind_some h85
        refine Cq hoz1_0 hs61 (hpz1_0 w60 F5 (s4.1) (48) (57) _ (((le01.trans le7).trans le46).trans le62) hs61.pers hr88) ?_
        rintro _ F7 w91 hs92 le93 rfl
        refine Vs 1 ?_
        refine St0 #[(vi 1), (vi s4.1), (.string ⟨(r33).toArray⟩)] hs92 (fun w95 hs96 => ?_)
        refine Vs 1 ?_
        refine St0 #[(vi 1), (vi s4.1), (.string ⟨(r87).toArray⟩)] hs96 (fun w97 hs98 => ?_)
        refine RWP.nil ?_
        obtain rfl := some_inj h89
        exact .inl ⟨rfl, F7, hs98, le93, fI⟩
       ·refine Sq (Rg [0, 1, 2, 3, 4, 5, 6] ?_)
        refine RWP.cut (fun f w => ∃ (F8 : Mem), HS wb Fb w F8 ((sb b36 #[(vi 4), (vi s4.1), (.string ⟨(r33).toArray⟩)] 97) :: Lf8) ∧ Mem.le F5 F8 ∧ FI f [] [(0, (.func (.yield l) #[] #[])), (1, (pt bz0 0)), (2, (pt bz1 0)), (4, (vi s4.1)), (5, (pt b36 0)), (6, (.int .u8 c41)), (42, (.bool ((decide (c41 ≥ 97)) && (decide (c41 ≤ 122)))))]) ?_ ?_
        ·refine Vs 1 ?_
         refine Vs 1 ?_
         refine Vs 1 ?_
         refine RWP.split (decide (c41 ≥ 97)) (fun hb110 => ?_) (fun hb110 => ?_)
         ·refine Vgs hb110 1 ?_--2
          refine Vgs hb110 1 ?_--2
          refine Pk1 hb110 ?_
          refine Vs 1 ?_
          exact RWP.nil ⟨rfl, F5, hs61, (Mem.le.refl _), (fJ ⟨rfl, rfl, rfl, rfl, rfl, rfl, (congrArg Value.bool (and_t hb110 (rfl))), trivial⟩)⟩
         ·refine Ss hb110 1 ?_--2
          refine Ss hb110 1 ?_--2
          refine Pk0 hb110 ?_
          refine Vs 1 ?_
          exact RWP.nil ⟨rfl, F5, hs61, (Mem.le.refl _), (fJ ⟨rfl, rfl, rfl, rfl, rfl, rfl, (congrArg Value.bool (and_f hb110 (rfl))), trivial⟩)⟩
        ·rintro f w99 ⟨F8, hs100, le101, ⟨_, rfl⟩⟩
         refine thenQ_nrm ?_
         obtain ⟨j114, hj121, h122⟩ := bind_some h86
         refine CWP.cut (fun f w => ∃ (F9 : Mem), HS wb Fb w F9 ((sb b36 #[(vi j114.1), (vi s4.1), (.string ⟨(j114.2).toArray⟩)] 97) :: Lf8) ∧ Mem.le F8 F9 ∧ FI f [] [(0, (.func (.yield l) #[] #[])), (1, (pt bz0 0)), (2, (pt bz1 0)), (4, (vi s4.1)), (5, (pt b36 0))]) ?_ ?_
         ·refine Cd hj121 (fun hb123 h124 => ?_) (fun hb123 h125 => ?_)
          ·refine Rg [0, 1, 2, 3, 4, 5, 6] ?_
           refine Ld (hs100.pers _ _ (((((le01.trans le7).trans le46).trans le62).trans le101) _ _ hz1)) ?_
           refine Vs 1 ?_
           obtain ⟨r126, hr127, h128⟩ := bind_some h124
           refine Cq hoz1_0 hs100 (hpz1_0 w99 F8 (s4.1) (97) (122) _ ((((le01.trans le7).trans le46).trans le62).trans le101) hs100.pers hr127) ?_
           rintro _ F10 w130 hs131 le132 rfl
           refine Vs 1 ?_
           refine St0 #[(vi 2), (vi s4.1), (.string ⟨(r33).toArray⟩)] hs131 (fun w134 hs135 => ?_)
           refine Vs 1 ?_
           refine St0 #[(vi 2), (vi s4.1), (.string ⟨(r126).toArray⟩)] hs135 (fun w136 hs137 => ?_)
           refine RWP.nil ?_
           obtain rfl := some_inj h128
           exact .inl ⟨rfl, F10, hs137, le132, fI⟩
          ·refine Sq (Rg [0, 1, 2, 3, 4] ?_)
           refine Ld (hs100.pers _ _ (((((le01.trans le7).trans le46).trans le62).trans le101) _ _ hz0)) ?_
           refine Vs 1 ?_
           obtain ⟨r138, hr139, h140⟩ := bind_some h125
           refine V 57 9 (run_ssub (t := 9) (x := (.tmp 55)) (lo := (some (.tmp 56))) (hi := none) (a := z0) (il := s4.1) (ih := (z0.length : Int)) (v := r138) rfl (by kernel_rfl) rfl rfl hr139) ?_
           obtain ⟨r141, hr142, h143⟩ := bind_some h140
           refine Cl' co_strings_HasPrefix hs100 (c_strings_HasPrefix N w99 F8 hs100.pers (r138) (([61, 62] : List UInt8)) _ hr142) ?_
           rintro _ F11 w145 hs146 le147 rfl
           refine Vs 1 ?_
           refine Nt ?_
           obtain ⟨j152, hj159, h160⟩ := bind_some h143
           refine CWP.cut (fun f w => ∃ (F12 : Mem), HS wb Fb w F12 ((sb b36 #[(vi j152.1), (vi s4.1), (.string ⟨(j152.2).toArray⟩)] 97) :: Lf8) ∧ Mem.le F11 F12 ∧ FI f [] [(0, (.func (.yield l) #[] #[])), (1, (pt bz0 0)), (2, (pt bz1 0)), (4, (vi s4.1)), (5, (pt b36 0))]) ?_ ?_
           ·refine Cd hj159 (fun hb161 h162 => ?_) (fun hb161 h163 => ?_)
            ·refine Rg [0, 1, 2, 3] ?_
             refine Vs 1 ?_
             refine St0 #[(vi 3), (vi s4.1), (.string ⟨(r33).toArray⟩)] hs146 (fun w164 hs165 => ?_)
             refine Vs 1 ?_
             refine St0 #[(vi 3), (vi s4.1), (.string ⟨(([61, 62] : List UInt8)).toArray⟩)] hs165 (fun w166 hs167 => ?_)
             refine RWP.nil ?_
             obtain rfl := some_inj h162
             exact .inl ⟨rfl, F11, hs167, (Mem.le.refl _), fI⟩
            ·refine Sq (Rg [0, 1, 2, 3] ?_)
             refine Vs 1 ?_
             obtain ⟨r168, hr169, h170⟩ := bind_some h163
             refine Cl' co_strings_IndexByte hs146 (c_strings_IndexByte N w145 F11 hs146.pers (([40, 41, 44, 58, 61, 60, 43, 45, 42, 10] : List UInt8)) (c41) _ hr169) ?_
             rintro _ F13 w172 hs173 le174 rfl
             refine Vs 1 ?_
             refine Vs 1 ?_
             refine Nt ?_
             obtain ⟨j179, hj186, h187⟩ := bind_some h170
             refine CWP.cut (fun f w => ∃ (F14 : Mem), HS wb Fb w F14 ((sb b36 #[(vi j179), (vi s4.1), (.string ⟨(r33).toArray⟩)] 97) :: Lf8) ∧ Mem.le F13 F14 ∧ FI f [] [(0, (.func (.yield l) #[] #[])), (1, (pt bz0 0)), (2, (pt bz1 0)), (4, (vi s4.1)), (5, (pt b36 0))]) ?_ ?_
             ·refine Cd hj186 (fun hb188 h189 => ?_) (fun hb188 h190 => ?_)
              ·refine Rg [0, 1] ?_
               refine Vs 1 ?_
               refine St0 #[(vi 3), (vi s4.1), (.string ⟨(r33).toArray⟩)] hs173 (fun w191 hs192 => ?_)
               refine RWP.nil ?_
               obtain rfl := some_inj h189
               exact .inl ⟨rfl, F13, hs192, (Mem.le.refl _), fI⟩
              ·refine Sc ?_
               obtain rfl := some_inj h190
               exact .inl ⟨rfl, F13, hs173, (Mem.le.refl _), fI⟩
             ·rintro f w176 ⟨F14, hs177, le178, ⟨_, rfl⟩⟩
              obtain rfl := some_inj h187
              exact .inl ⟨rfl, F14, hs177, (le174.trans le178), fI⟩
           ·rintro f w149 ⟨F12, hs150, le151, ⟨_, rfl⟩⟩
            obtain rfl := some_inj h160
            exact .inl ⟨rfl, F12, hs150, (le147.trans le151), fI⟩
         ·rintro f w111 ⟨F9, hs112, le113, ⟨_, rfl⟩⟩
          obtain rfl := some_inj h122
          exact .inl ⟨rfl, F9, hs112, (le101.trans le113), fI⟩
      ·rintro f w72 ⟨F6, hs73, le74, ⟨_, rfl⟩⟩
       refine blockQ_nrm ?_
       refine thenQ_nrm ?_
       refine Sq (Rg [0, 1, 2, 3, 4, 5] ?_)
       refine Vs 1 ?_
       refine Vs 1 ?_
       refine Ld hs73.at0 ?_
       refine Vs 1 ?_
       refine Vs 1 ?_
       refine Vs 1 ?_
       refine Nss (Rg [0, 1, 2, 3] ?_)
       refine Vs 1 ?_
       refine Ld hs73.at0 ?_
       obtain ⟨q193, hq194, h195⟩ := bind_some h83
       refine RWP.yield (dst := (some 73)) (ty := 4) (g := none) (by kernel_rfl) rfl (f0 := (.tmp 71)) (aos := #[(.tmp 72)]) (ats := #[97]) (l := l) (args := [(.agg #[(vi j75.1), (vi s4.1), (.string ⟨(j75.2).toArray⟩)])]) rfl (rfl) (hY s4.2 ({ kind_ := j75.1, at_ := s4.1, text_ := j75.2 } : rules_token) w72 F6 [(sb b36 #[(vi j75.1), (vi s4.1), (.string ⟨(j75.2).toArray⟩)] 97)] Lf8 q193 (((le7.trans le46).trans le62).trans le74) trivial (hJm _ _ _ _ hJ9 ((le46.trans le62).trans le74)) hs73 hq194) ?_
       rintro _ w196 ⟨F15, Lf200, rfl, hs197, le198, hJ199⟩
       have hs201 : HS wb Fb w196 F15 ((sb b36 #[(vi j75.1), (vi s4.1), (.string ⟨(j75.2).toArray⟩)] 97) :: Lf200) := hs197
       refine ⟨_, rfl, ?_⟩
       refine Vs 1 ?_
       refine Nt ?_
       refine Cd h195 (fun hb202 h203 => ?_) (fun hb202 h204 => ?_)
       ·refine Rt ?_
        refine blockQ_ret ?_
        refine thenQ_ret ?_
        refine blockQ_ret ?_
        have hret := iter_ret h203 hnx29
        subst hret
        refine .inr ?_
        refine thenQ_ret ?_
        have hfin := some_inj h3
        subst hfin
        exact ⟨rfl, .tuple #[], res_of (l := []) (by kernel_rfl) (vs := []) trivial, F15, Lf200, rfl, hs201.dr0, ((((le7.trans le46).trans le62).trans le74).trans le198), hJ199⟩
       ·refine Sc ?_
        refine blockQ_nrm ?_
        have hn205 := iter_next h204 hnx29
        exact ⟨m26, Nat.lt_succ_self _, ((W64 (s4.1 + (j75.2.length : Int))), q193.2), F15, Lf200, hn205, hs201.dr0, ((((le7.trans le46).trans le62).trans le74).trans le198), fI, hJ199⟩
  ·refine Ex ?_
   refine thenQ_ex ?_
   refine thenQ_ex ?_
   refine blockQ_hit rfl ?_
   have ho206 := iter_done h32 hnx29
   exact .inl ⟨rfl, (s4.1, s4.2), F2, Lf8, ho206, hs6, le7, fI, hJ9⟩
 ·rintro f w16 ⟨s15, F3, Lf19, rfl, hs17, le18, ⟨_, rfl⟩, hJ20⟩
  have h207 := k_done h3
  refine thenQ_nrm ?_
  refine Rg [0, 1, 2, 3, 4] ?_
  refine Vs 1 ?_
  refine Ld (hs17.pers _ _ ((le01.trans le18) _ _ hz0)) ?_
  refine Vs 1 ?_
  refine Vs 1 ?_
  obtain ⟨q208, hq209, h210⟩ := bind_some h207
  refine RWP.yield (dst := (some 79)) (ty := 4) (g := none) (by kernel_rfl) rfl (f0 := (.tmp 75)) (aos := #[(.tmp 78)]) (ats := #[97]) (l := l) (args := [(.agg #[(vi 0), (vi (z0.length : Int)), (.string ⟨(([] : List UInt8)).toArray⟩)])]) rfl (rfl) (hY s15.2 ({ kind_ := 0, at_ := (z0.length : Int), text_ := ([] : List UInt8) } : rules_token) w16 F3 [] Lf19 q208 le18 trivial hJ20 hs17 hq209) ?_
  rintro _ w211 ⟨F16, Lf215, rfl, hs212, le213, hJ214⟩
  have hs216 : HS wb Fb w211 F16 Lf215 := hs212
  refine ⟨_, rfl, ?_⟩
  refine RWP.nil ?_
  have hfin := some_inj h210
  subst hfin
  exact ⟨rfl, .tuple #[], res_of (l := []) (by kernel_rfl) (vs := []) trivial, F16, Lf215, rfl, hs216, (le18.trans le213), hJ214⟩
end Go.Proofs.YtaihlcdkcampbaaGreatDoor
namespace Go.Proofs.YtaihlcdkcampbaaGreatDoor
open Go.Proofs
section
variable {P : Program} {ro : Option Nat} {n : Nat} {R : Array Oper} {Q : Exit → Fr → World → Prop} {w w0 : World} {F0 F : Mem} {L : Own} {f : Fr} {i : Nat} {rest : List Nat} {dst : Option Nat} {ty : TypeId} {g : Option (Nat × Bool)} {ρ : Operand → Value}
theorem run_defer0 {x : Operand} {q : FuncId} {cap : Array Value} {ats : Array TypeId} (hx : ρ x = .func (.func q) #[] cap) :
  (execB ρ (.defer { callee := .value x, args := #[], argTypes := ats }) ty).run P w = .ok (.defer { target := .fn (.func q) cap, args := #[] }) w := by
 have e : execB ρ (.defer { callee := .value x, args := #[], argTypes := ats }) ty = (do pure (Next.defer (← Deferred.ofValue (ρ x) (Array.map ρ #[])))) := rfl
 rw [e, hx]
 simp [Deferred.ofValue]
theorem RWP.defer0 {x : Operand} {q : FuncId} {cap : Array Value} {ats : Array TypeId} (ho : opq R i = some (none, .defer { callee := .value x, args := #[], argTypes := ats }, ty, g)) (hg : gd R f g = true) (hx : fev f x = .func (.func q) #[] cap)
  (k : RWP P none n R Q rest ⟨f.v, { target := .fn (.func q) cap, args := #[] } :: f.d⟩ w) : RWP P none n R Q (i :: rest) f w := by
 intro hok a ha
 obtain ⟨o, hR, hd, hop, hty, hgd⟩ := opq_spec ho
 rw [wpOpsIn]
 simp only [hR]
 rw [ha.wanted R o, hgd, hg]
 simp only [if_true]
 refine ⟨about_wide, ?_⟩
 show o.uponIn (FW none) 0 P a _ _ ((execOp a.eval o).run P w)
 rw [execOp_eq, ha.evalF, hop, hty, run_defer0 hx]
 simp only [Oper.uponIn]
 rw [hd]
 exact k hok _ ⟨ha.size, ha.at_, by simp [Act.put, ha.defers]⟩
theorem run_typeAssert' {x : Operand} {t q : TypeId} {v : Value} (hx : ρ x = .iface q v) (hu : notIface P q = true) :
  (execB ρ (.typeAssert x t q true) ty).run P w = .ok (.value (.tuple #[v, .bool true])) w := by
 have e : execB ρ (.typeAssert x t q true) ty = (do pure (Next.value (← Instr.typeAssert (ρ x) t q true))) := rfl
 rw [e, hx]
 unfold notIface at hu
 split at hu
 ·cases hu
 ·rename_i d h1 h2
  cases d <;> first | exact (h1 _ rfl).elim | simp [Instr.typeAssert, run_underlying h2, Result.andThen]
 ·cases hu
theorem wpOpsS_recover2 {ops : Array Oper} {QS : Exit → Act → List Frame → World → Prop} {a : Act} {cs : List Frame} {d d2 : Nat} {ty ty2 : TypeId}
  (ho : opq ops 0 = some (some d, .call { callee := .builtin .recover, args := #[], argTypes := #[] }, ty, none)) (ho2 : opq ops 1 = some (some d2, .assign (.tmp d), ty2, none)) (hl : ops.size = 2) (hsz : d < a.tmps.size)
  (h : match recoverD cs with | some (v, cs') => QS .normal ((a.put (some d) v).put (some d2) v) cs' w | none => QS .normal ((a.put (some d) .nilIface).put (some d2) .nilIface) cs w) : wpOpsS P ops QS (List.range ops.size) a cs w := by
 rw [hl]
 obtain ⟨o, hR, hd, hop, hty, hgd⟩ := opq_spec ho
 obtain ⟨o2, hR2, hd2, hop2, hty2, hgd2⟩ := opq_spec ho2
 show wpOpsS P ops QS [0, 1] a cs w
 have step2 : ∀ (v : Value) (cs' : List Frame), QS .normal ((a.put (some d) v).put (some d2) v) cs' w → wpOpsS P ops QS [1] (a.put (some d) v) cs' w := by
  intro v cs' hq
  simp only [wpOpsS, hR2]
  have hw : ∀ y, Region.wanted o2 y = true := fun y => by unfold Region.wanted; rw [hgd2]
  rw [if_pos (hw _)]
  have hev : (a.put (some d) v).eval (.tmp d) = v := by
   simp [Act.eval, Act.put, hsz]
  have hx : (execOp (a.put (some d) v).eval o2).run P w = .ok (.value v) w := by
   rw [execOp_eq, hop2]
   exact run_assign (ρ := (a.put (some d) v).eval) hev
  rw [hx]
  simp only [Oper.upon]
  rw [hd2]; exact hq
 rw [wpOpsS]
 simp only [hR]
 have hw : Region.wanted o (yielded ops a.tmps) = true := by unfold Region.wanted; rw [hgd]
 rw [if_pos hw]
 have hx : (execOp a.eval o).run P w = .ok .recover w := by rw [execOp_eq, hop]; rfl
 rw [hx]
 simp only
 cases hr : recoverD cs with
 | none => rw [hr] at h; simp only at h ⊢; rw [hd]; exact step2 _ _ h
 | some p => obtain ⟨v, cs'⟩ := p; rw [hr] at h; simp only at h ⊢; rw [hd]; exact step2 _ _ h
theorem restS {c : Code} {a : Act} {cs : List Frame} {Q' : Exit → Fr → World → Prop} {QS : Exit → Act → List Frame → World → Prop} (h : CWP P none n c Q' f w) (hf : Fits n f a)
  (hq : ∀ e a' w', lq n Q' e a' w' → QS e a' cs w') : c.wpS P QS a cs w := wpS_of_wp (wp_mono (wpIn_wide.1 (h a hf)) hq)
theorem fits0 {args : List Value} (hsz : decide (args.length ≤ n) = true) : Fits n (f0 args) { tmps := args.toArray ++ Array.replicate (n - args.toArray.size) undef, defers := [] } := by
 have hsz' : args.length ≤ n := by simpa using hsz
 refine ⟨?_, ?_, rfl⟩
 ·simp; omega
 ·intro i
  simp only [f0]
  rw [Array.getD_eq_getD_getElem?]
  by_cases hi : i < args.length
  ·simp [Array.getElem?_append, hi]
  ·rw [Array.getElem?_append_right (by simp; omega)]
   rw [List.getD_eq_getElem?_getD, List.getElem?_eq_none (by omega)]
   simp only [List.getElem?_toArray, Array.getElem?_replicate]
   split <;> rfl
end
section
variable {wb w : World} {Fb F : Mem} {Lf : Own}
theorem code131 : ∃ id ops, cs1 (bodyOf Tryz.f131) = .region id ops false ∧ bodyOf Tryz.f131 = .seq (cs1 (bodyOf Tryz.f131)) (cs2 (bodyOf Tryz.f131)) := ⟨_, _, rfl, rfl⟩
theorem wpS_code131 {Q : Exit → Act → List Frame → World → Prop} {a : Act} {cs : List Frame} {w : World} (h : wpOpsS Tryz.prog (cops (cs1 (bodyOf Tryz.f131))) (Exit.thenS ((cs2 (bodyOf Tryz.f131)).wpS Tryz.prog Q) Q) (List.range (cops (cs1 (bodyOf Tryz.f131))).size) a cs w) : (bodyOf Tryz.f131).wpS Tryz.prog Q a cs w := by
 obtain ⟨id, ops, h1, h2⟩ := code131
 rw [h2]
 refine wpS_seq ?_
 rw [h1] at h ⊢
 exact wpS_region h
abbrev badv (b : rules_bad) : Value := .agg #[.int .i64 b.e_, .int .i64 b.at_]
abbrev be (v : Int) : Obj := .cells #[.int .i64 v] 27 (0, 0)
abbrev ba (v : Int) : Obj := .cells #[.int .i64 v] 3 (0, 0)
abbrev rargs (b c : Nat) : List Value := [.pointer (some ⟨b, 0, none⟩), .pointer (some ⟨c, 0, none⟩)]
theorem c_read1_ret {b c : Nat} : CallsD Tryz.prog 131 (rargs b c).toArray .returning w fun e u' w' => u' = .returning ∧ e = .returned (.tuple #[]) ∧ w' = w := by
 refine callsD_of_wpS (fn := Tryz.f131) (c := bodyOf Tryz.f131) Tryz.func131 (by kernel_rfl) fun c0 cs hu => wpS_code131 (wpOpsS_recover2 (d := 5) (d2 := 2) (ty := 20) (ty2 := 20) (by kernel_rfl) (by kernel_rfl) (by kernel_rfl) (by rw [show Tryz.f131.ntmps = 20 from by kernel_rfl]; simp) ?_)
 have hr : recoverD (c0 :: cs) = none := by simp [recoverD, hu]
 rw [hr]
 simp only
 refine restS (n := 20) (f := upd (upd (f0 (rargs b c)) 5 .nilIface) 2 .nilIface) (Q' := fun e f w' => e = .normal ∧ w' = w ∧ f.d = []) ?_ (((fits0 (n := 20) (args := rargs b c) rfl).put (dst := some 5) (by decide) .nilIface).put (dst := some 2) (by decide) .nilIface) ?_
 ·refine Sq ?_
  refine Rg [0, 1] ?_
  refine V 6 20 (run_move (x := .tmp 2) (v := .nilIface) rfl) ?_
  refine V 7 4 (run_errneq (t := 20) (t' := 20) (x := .tmp 6) (c := .nilIface) (b := false) (v := .nilIface) rfl rfl rfl (by kernel_rfl)) ?_
  refine RWP.nil ?_
  refine thenQ_nrm ?_
  refine CWP.cond0 (t := false) (by kernel_rfl) rfl rfl ?_
  exact CWP.skip (by kernel_rfl) ⟨rfl, rfl, rfl⟩
 ·rintro e a' w' ⟨f, hf, rfl, rfl, hd⟩
  refine ⟨hf.defers.trans hd, .returning, by rw [← hu], .tuple #[], ?_, rfl, rfl, rfl⟩
  rw [hf.results Tryz.f131]
  exact res_of (l := []) (by kernel_rfl) (vs := []) trivial
theorem c_read1_pan {b c : Nat} {x : rules_bad} (hs : HS wb Fb w F ((some c, ba 0) :: (some b, be 0) :: Lf)) :
  CallsD Tryz.prog 131 (rargs b c).toArray (.panicking [{ v := .iface 158 (badv x), recovered := false }]) w fun e u' w' =>
   settle u' = .returning ∧ e = .returned (.tuple #[]) ∧ HS wb Fb w' F ((some c, ba x.at_) :: (some b, be x.e_) :: Lf) := by
 refine callsD_of_wpS (fn := Tryz.f131) (c := bodyOf Tryz.f131) Tryz.func131 (by kernel_rfl) fun c0 cs hu => wpS_code131 (wpOpsS_recover2 (d := 5) (d2 := 2) (ty := 20) (ty2 := 20) (by kernel_rfl) (by kernel_rfl) (by kernel_rfl) (by rw [show Tryz.f131.ntmps = 20 from by kernel_rfl]; simp) ?_)
 have hr : recoverD (c0 :: cs) = some (.iface 158 (badv x), { c0 with mode := .panicking [{ v := .iface 158 (badv x), recovered := true }] } :: cs) := by simp [recoverD, hu]
 rw [hr]
 simp only
 refine restS (n := 20) (f := upd (upd (f0 (rargs b c)) 5 (.iface 158 (badv x))) 2 (.iface 158 (badv x))) (Q' := fun e f w' => e = .normal ∧ f.d = [] ∧ HS wb Fb w' F ((some c, ba x.at_) :: (some b, be x.e_) :: Lf)) ?_ (((fits0 (n := 20) (args := rargs b c) rfl).put (dst := some 5) (by decide) _).put (dst := some 2) (by decide) _) ?_
 ·refine Sq ?_
  refine Rg [0, 1] ?_
  refine V 6 20 (run_move (x := .tmp 2) (v := .iface 158 (badv x)) rfl) ?_
  refine V 7 4 (run_errneq (t := 20) (t' := 20) (x := .tmp 6) (c := .nilIface) (b := true) (v := .iface 158 (badv x)) ⟨_, _, rfl⟩ rfl rfl (by kernel_rfl)) ?_
  refine RWP.nil ?_
  refine thenQ_nrm ?_
  refine CWP.cond1 (t := true) (by kernel_rfl) rfl rfl ?_
  refine Sq ?_
  refine Rg [0, 1, 2, 3, 4, 5, 6, 7] ?_
  refine V 9 20 (run_move (x := .tmp 2) (v := .iface 158 (badv x)) rfl) ?_
  refine V 10 159 (run_typeAssert' (x := .tmp 9) (t := 20) (q := 158) (v := badv x) rfl (by kernel_rfl)) ?_
  refine V 8 159 (run_move (x := .tmp 10) (v := .tuple #[badv x, .bool true]) rfl) ?_
  refine V 11 158 (run_extract (x := .tmp 8) (vs := #[badv x, .bool true]) (i := 0) (v := badv x) rfl rfl) ?_
  refine V 12 4 (run_extract (x := .tmp 8) (vs := #[badv x, .bool true]) (i := 1) (v := .bool true) rfl rfl) ?_
  refine RWP.alloc (dst := some 3) (ty := 0) (g := none) (by kernel_rfl) rfl (t := 158) (z := .agg #[.int .i64 0, .int .i64 0]) (by kernel_rfl) (C := #[.int .i64 0, .int .i64 0]) rfl hs (fun b3 w3 hs3 => ?_)
  refine RWP.store (ty := 0) (g := none) (by kernel_rfl) rfl (x := .tmp 3) (y := .tmp 11) (t := 158) (gg := true) (s := 2) (v := badv x) (b := b3) (o := 0) (C := #[.int .i64 0, .int .i64 0]) rfl rfl (by kernel_rfl) hs3 (k := 0) rfl rfl rfl rfl (C' := #[.int .i64 x.e_, .int .i64 x.at_]) rfl (fun w4 (hs4 : HS wb Fb w4 F ((some b3, .cells #[.int .i64 x.e_, .int .i64 x.at_] 158 (0, 0)) :: (some c, ba 0) :: (some b, be 0) :: Lf)) => ?_)
  refine V 4 4 (run_assign (x := .tmp 12) (v := .bool true) rfl) ?_
  refine RWP.nil ?_
  refine thenQ_nrm ?_
  refine Sq ?_
  refine Sq ?_
  refine Rg [0, 1] ?_
  refine V 13 4 (run_move (x := .tmp 4) (v := .bool true) rfl) ?_
  refine V 14 4 (run_not (t := 4) (x := .tmp 13) (a := true) rfl) ?_
  refine RWP.nil ?_
  refine thenQ_nrm ?_
  refine CWP.cond0 (t := false) (by kernel_rfl) rfl rfl ?_
  refine CWP.skip (by kernel_rfl) ?_
  refine thenQ_nrm ?_
  refine CWP.regionD (by kernel_rfl) (by kernel_rfl) (by kernel_rfl) (by kernel_rfl) (z := 6) (F := F) (Lc := [(some b3, .cells #[.int .i64 x.e_, .int .i64 x.at_] 158 (0, 0))]) (Lz := []) (l := [false, false, false, false, false, false]) (fuel := 6) (by kernel_rfl) (by kernel_rfl) hs4 (by simp) (by simp) (fun f w' => f.d = [] ∧ HS wb Fb w' F ((some c, ba x.at_) :: (some b, be x.e_) :: Lf)) (fun wd hw => ?_) (fun f w' h => ⟨rfl, h.1, h.2⟩)
  refine DWP.take (i := 0) (v := .pointer (some ⟨b3, 0, none⟩)) (zd := true) (dst := some 16) (ty := 0) (g := none) (by kernel_rfl) (by kernel_rfl) (by kernel_rfl) (by kernel_rfl) (by kernel_rfl) rfl (fun wq hq => run_fieldAddr (s := 158) (x := .tmp 3) (i := 0) (o := 0) (k := 1) (b := b3) (o0 := 0) rfl (by kernel_rfl) rfl (o1 := 0) rfl) (l' := [true, false, false, false, false, false]) (by kernel_rfl) ?_
  refine DWP.take (i := 1) (v := .int .i64 x.e_) (zd := true) (dst := some 17) (ty := 27) (g := none) (by kernel_rfl) (by kernel_rfl) (by kernel_rfl) (by kernel_rfl) (by kernel_rfl) rfl (fun wq hq => run_load' (t := 27) (x := .tmp 16) (b := b3) (o := 0) (g := false) (s := 1) (C := #[.int .i64 x.e_, .int .i64 x.at_]) (v := .int .i64 x.e_) rfl (by kernel_rfl) (hq.1.2 0 _ _ rfl) rfl rfl rfl) (l' := [true, true, false, false, false, false]) (by kernel_rfl) ?_
  refine DWP.take (i := 2) (v := .pointer (some ⟨b3, 1, none⟩)) (zd := true) (dst := some 18) (ty := 0) (g := none) (by kernel_rfl) (by kernel_rfl) (by kernel_rfl) (by kernel_rfl) (by kernel_rfl) rfl (fun wq hq => run_fieldAddr (s := 158) (x := .tmp 3) (i := 1) (o := 1) (k := 1) (b := b3) (o0 := 0) rfl (by kernel_rfl) rfl (o1 := 1) rfl) (l' := [true, true, true, false, false, false]) (by kernel_rfl) ?_
  refine DWP.take (i := 3) (v := .int .i64 x.at_) (zd := true) (dst := some 19) (ty := 3) (g := none) (by kernel_rfl) (by kernel_rfl) (by kernel_rfl) (by kernel_rfl) (by kernel_rfl) rfl (fun wq hq => run_load' (t := 3) (x := .tmp 18) (b := b3) (o := 1) (g := false) (s := 1) (C := #[.int .i64 x.e_, .int .i64 x.at_]) (v := .int .i64 x.at_) rfl (by kernel_rfl) (hq.1.2 0 _ _ rfl) rfl rfl rfl) (l' := [true, true, true, true, false, false]) (by kernel_rfl) ?_
  refine DWP.one (i := 4) (by kernel_rfl) ?_
  refine DStep.store (l' := [true, true, true, true, true, false]) (zd := true) (by kernel_rfl) (by kernel_rfl) (ty := 0) (g := none) (by kernel_rfl) rfl (x := .tmp 0) (y := .tmp 17) (t := 27) (v := .int .i64 x.e_) (gg := false) (s := 1) (b := b) (o := 0) (C := #[.int .i64 0]) rfl rfl (by kernel_rfl) hw (k := 2) rfl rfl rfl rfl (C' := #[.int .i64 x.e_]) rfl (Mem.le.refl _) (by simp) (fun e => by cases e) (fun w5 (hs5 : HS wb Fb w5 F ((some b3, .cells #[.int .i64 x.e_, .int .i64 x.at_] 158 (0, 0)) :: (some c, ba 0) :: (some b, be x.e_) :: Lf)) => ?_)
  refine DWP.one (i := 5) (by kernel_rfl) ?_
  refine DStep.store (l' := [true, true, true, true, true, true]) (zd := true) (by kernel_rfl) (by kernel_rfl) (ty := 0) (g := none) (by kernel_rfl) rfl (x := .tmp 1) (y := .tmp 19) (t := 3) (v := .int .i64 x.at_) (gg := false) (s := 1) (b := c) (o := 0) (C := #[.int .i64 0]) rfl rfl (by kernel_rfl) hs5 (k := 1) rfl rfl rfl rfl (C' := #[.int .i64 x.at_]) rfl (Mem.le.refl _) (by simp) (fun e => by cases e) (fun w6 (hs6 : HS wb Fb w6 F ((some b3, .cells #[.int .i64 x.e_, .int .i64 x.at_] 158 (0, 0)) :: (some c, ba x.at_) :: (some b, be x.e_) :: Lf)) => ?_)
  exact DWP.done (by kernel_rfl) ⟨rfl, hs6.drop 0⟩
 ·rintro e a' w' ⟨f, hf, rfl, hd, hs'⟩
  refine ⟨hf.defers.trans hd, _, rfl, .tuple #[], ?_, rfl, rfl, hs'⟩
  rw [hf.results Tryz.f131]
  exact res_of (l := []) (by kernel_rfl) (vs := []) trivial
theorem inv131 (b c : Nat) (w' : World) : (invoke (.fn (.func 131) (rargs b c).toArray) #[]).run Tryz.prog w' = .ok (.enter 131 (rargs b c).toArray) w' := by
 have co : CallOk Tryz.prog 131 := fun _ _ => by kernel_rfl
 simp only [invoke]; rw [co]; rfl
def rules_tokensOf (N : Nat) (s : List UInt8) : Option (List rules_token) := collectM (fun {_} y st => rules_tokens_2 N y s (fun y0 y1 y2 => rules_tokens_1 N y0 y1 y2 s) st)
theorem co_rules_read : CallOk Tryz.prog 78 := fun _ _ => by kernel_rfl
theorem c_rules_read (N : Nat) (hs : HS wb Fb w F Lf) (s : List UInt8) {g : FuncId} {cap : List Value} (hok : CallOk Tryz.prog g) (K : Option rules_bad → Mem → Own → Prop) (hlong : decide ((s.length : Int) > 65536) = true → ∀ F', K (some ⟨2, 0⟩) F' Lf)
  (hrun : decide ((s.length : Int) > 65536) = false → ∃ l, rules_tokensOf N s = some l ∧ ∀ w1 F1 be_ ba_ bp a n, Mem.le F F1 → LC l.length n → SlA trules_token F1 a l → HS wb Fb w1 F1 ((some bp, .cells #[.slice a l.length n, .int .i64 0] 100 (0, 0)) :: (some ba_, ba 0) :: (some be_, be 0) :: Lf) →
   Calls Tryz.prog g (.pointer (some ⟨bp, 0, none⟩) :: cap).toArray w1 (fun e w2 =>
   (∃ v F2 Lf2, e = .returned v ∧ HS wb Fb w2 F2 ((some ba_, ba 0) :: (some be_, be 0) :: Lf2) ∧ Mem.le F1 F2 ∧ K none F2 Lf2) ∨
   (∃ x F2 Lf2, e = .panicked [{ v := .iface 158 (badv x), recovered := false }] ∧ HS wb Fb w2 F2 ((some ba_, ba 0) :: (some be_, be 0) :: Lf2) ∧ Mem.le F1 F2 ∧ K (some x) F2 Lf2))) :
  Calls Tryz.prog 78 ([.string ⟨s.toArray⟩, .func (.func g) #[] cap.toArray] : List Value).toArray w (fun e w' => ∃ o F' Lf', e = .returned (match o with | none => .tuple #[.int .i64 0, .int .i64 0] | some x => .tuple #[.int .i64 x.e_, .int .i64 x.at_]) ∧ HS wb Fb w' F' Lf' ∧ Mem.le F F' ∧ K o F' Lf') := by
 refine calls_of_wp_defers (fn := Tryz.f78) (c := bodyOf Tryz.f78) Tryz.func78 (by kernel_rfl) ?_
 have key : CWP Tryz.prog none 17 (bodyOf Tryz.f78) (fun e f w' => ∃ b c F' Lf', f 4 = .pointer (some ⟨b, 0, none⟩) ∧ f 5 = .pointer (some ⟨c, 0, none⟩) ∧ Mem.le F F' ∧
   ((e = .ret ∧ f.d = [] ∧ HS wb Fb w' F' ((some c, ba 0) :: (some b, be 2) :: Lf') ∧ K (some ⟨2, 0⟩) F' Lf') ∨
   (e = .ret ∧ f.d = [{ target := .fn (.func 131) (rargs b c).toArray, args := #[] }] ∧ HS wb Fb w' F' ((some c, ba 0) :: (some b, be 0) :: Lf') ∧ K none F' Lf') ∨
   (∃ x, e = .panic [{ v := .iface 158 (badv x), recovered := false }] ∧ f.d = [{ target := .fn (.func 131) (rargs b c).toArray, args := #[] }] ∧ HS wb Fb w' F' ((some c, ba 0) :: (some b, be 0) :: Lf') ∧ K (some x) F' Lf'))) (f0 [.string ⟨s.toArray⟩, .func (.func g) #[] cap.toArray]) w := by
  refine Sq ?_
  refine Rg [0, 1] ?_
  refine RWP.alloc (dst := some 4) (ty := 0) (g := none) (by kernel_rfl) rfl (t := 27) (z := .int .i64 0) (by kernel_rfl) (C := #[.int .i64 0]) rfl hs (fun b w2 hs2 => ?_)
  refine RWP.alloc (dst := some 5) (ty := 0) (g := none) (by kernel_rfl) rfl (t := 3) (z := .int .i64 0) (by kernel_rfl) (C := #[.int .i64 0]) rfl hs2 (fun c w3 hs3 => ?_)
  refine RWP.nil ?_
  refine thenQ_nrm ?_
  refine Sq ?_
  refine Sq ?_
  refine Rg [0, 1, 2] ?_
  refine V 6 9 (run_move (x := .tmp 0) (v := .string ⟨s.toArray⟩) rfl) ?_
  refine V 7 3 (run_slen (x := .tmp 6) (ats := #[9]) (t := 9) (a := s) rfl rfl (by kernel_rfl)) ?_
  refine V 8 4 (run_gtr (t := 3) (t' := 3) (x := .tmp 7) (y := .const (.int .i64 65536)) (k := .i64) (a := (s.length : Int)) (b := 65536) rfl rfl) ?_
  refine RWP.nil ?_
  refine thenQ_nrm ?_
  refine CWP.cond (t := decide ((s.length : Int) > 65536)) (by kernel_rfl) rfl (fun hc => ?_) (fun hc => ?_)
  ·refine Sq ?_
   refine Rg [0, 1] ?_
   refine RWP.store (ty := 0) (g := none) (by kernel_rfl) rfl (x := .tmp 4) (y := .const (.int .i64 2)) (t := 27) (gg := false) (s := 1) (v := .int .i64 2) (b := b) (o := 0) (C := #[.int .i64 0]) rfl rfl (by kernel_rfl) hs3 (k := 1) rfl rfl rfl rfl (C' := #[.int .i64 2]) rfl (fun w4 hs4 => ?_)
   refine RWP.store (ty := 0) (g := none) (by kernel_rfl) rfl (x := .tmp 5) (y := .const (.int .i64 0)) (t := 3) (gg := false) (s := 1) (v := .int .i64 0) (b := c) (o := 0) (C := #[.int .i64 0]) rfl rfl (by kernel_rfl) hs4 (k := 0) rfl rfl rfl rfl (C' := #[.int .i64 0]) rfl (fun w5 hs5 => ?_)
   refine RWP.nil ?_
   refine thenQ_nrm ?_
   refine CWP.ret (by kernel_rfl) ?_
   exact ⟨b, c, F, Lf, rfl, rfl, Mem.le.refl F, .inl ⟨rfl, rfl, hs5, hlong hc F⟩⟩
  ·obtain ⟨l, hl, hrun⟩ := hrun hc
   refine CWP.skip (by kernel_rfl) ?_
   refine thenQ_nrm ?_
   refine Sq ?_
   refine Rg [0, 1] ?_
   refine V 9 1 (run_makeFunc (fn := .func 131) (first := #[]) (cap := #[.tmp 4, .tmp 5]) (fl := []) (cl := rargs b c) rfl rfl) ?_
   refine RWP.defer0 (ty := 0) (g := none) (x := .tmp 9) (q := 131) (cap := (rargs b c).toArray) (ats := #[]) (by kernel_rfl) rfl rfl ?_
   refine RWP.nil ?_
   refine thenQ_nrm ?_
   refine Sq ?_
   refine Rg [0, 1, 2, 3, 4, 5, 6] ?_
   refine V 10 103 (run_move (x := .tmp 1) (v := .func (.func g) #[] cap.toArray) rfl) ?_
   refine V 11 9 (run_move (x := .tmp 0) (v := .string ⟨s.toArray⟩) rfl) ?_
   refine RWP.call (dst := some 12) (ty := 162) (g := none) (by kernel_rfl) rfl (f0 := .func 133) (aos := #[.tmp 11]) (ats := #[9]) (fid := 133) (first := #[]) (cap := #[]) (args := [.string ⟨s.toArray⟩]) rfl co_rules_tokens rfl hs3 (c_rules_tokens w3 F hs3.pers s) ?_
   rintro _ F1 w4 hs4 le4 ⟨b1, b2, rfl, hb1, hb2⟩
   refine RWP.call (dst := some 13) (ty := 98) (g := none) (by kernel_rfl) rfl (f0 := .func 132) (aos := #[.tmp 12]) (ats := #[162]) (fid := 132) (first := #[]) (cap := #[]) (args := [.func (.func 181) #[] #[.pointer (some ⟨b1, 0, none⟩), .pointer (some ⟨b2, 0, none⟩)]]) rfl co_slices_Collect rfl hs4
    (c_slices_Collect w4 F1 hs4.pers 181 [.pointer (some ⟨b1, 0, none⟩), .pointer (some ⟨b2, 0, none⟩)] (fun {_} y st => rules_tokens_2 N y s (fun y0 y1 y2 => rules_tokens_1 N y0 y1 y2 s) st) co_rules_tokens_2
     (c_rules_tokens_2 N F1 s b1 hb1 (fun y0 y1 y2 => rules_tokens_1 N y0 y1 y2 s) 180 [] [.pointer (some ⟨b1, 0, none⟩)] co_rules_tokens_1 (fun w1 F2 y0 y1 y2 r le1 pe1 hr1 => c_rules_tokens_1 N w1 F2 pe1 y0 y1 y2 b1 s (le1 _ _ hb1) r hr1) b2 hb2) l hl) ?_
   rintro _ F2 w5 hs5 le5 ⟨a, n, rfl, hb, hsl⟩
   refine V 14 100 (run_build2 (t := 100) (parts := #[(0, .tmp 13)]) (vs := [(0, .slice a l.length n)]) rfl (cs := [.slice a l.length n, .int .i64 0]) (by kernel_rfl)) ?_
   refine RWP.box (dst := some 15) (ty := 95) (g := none) (by kernel_rfl) rfl (x := .tmp 14) (t := 100) (v := .agg #[.slice a l.length n, .int .i64 0]) rfl (C := #[.slice a l.length n, .int .i64 0]) rfl hs5 (fun bp w6 hs6 => ?_)
   refine RWP.enter (dst := some 16) (ty := 0) (g := none) (by kernel_rfl) rfl (run_call (f := .tmp 10) (aos := #[.tmp 15]) (ats := #[95]) (g := g) (first := #[]) (cap := cap.toArray) (args := .pointer (some ⟨bp, 0, none⟩) :: cap) rfl hok (by simp; rfl)) (hrun _ F2 b c bp a n (le4.trans le5) hb hsl hs6) ?_
   rintro e w7 (⟨v, F3, Lf2, rfl, hs7, hle, hK⟩ | ⟨x, F3, Lf2, rfl, hs7, hle, hK⟩)
   ·refine RWP.nil ?_
    refine thenQ_nrm ?_
    refine Sq ?_
    refine Rg [0, 1] ?_
    refine RWP.store (ty := 0) (g := none) (by kernel_rfl) rfl (x := .tmp 4) (y := .const (.int .i64 0)) (t := 27) (gg := false) (s := 1) (v := .int .i64 0) (b := b) (o := 0) (C := #[.int .i64 0]) rfl rfl (by kernel_rfl) hs7 (k := 1) rfl rfl rfl rfl (C' := #[.int .i64 0]) rfl (fun w8 hs8 => ?_)
    refine RWP.store (ty := 0) (g := none) (by kernel_rfl) rfl (x := .tmp 5) (y := .const (.int .i64 0)) (t := 3) (gg := false) (s := 1) (v := .int .i64 0) (b := c) (o := 0) (C := #[.int .i64 0]) rfl rfl (by kernel_rfl) hs8 (k := 0) rfl rfl rfl rfl (C' := #[.int .i64 0]) rfl (fun w9 hs9 => ?_)
    refine RWP.nil ?_
    refine thenQ_nrm ?_
    refine CWP.ret (by kernel_rfl) ?_
    exact ⟨b, c, F3, Lf2, rfl, rfl, (le4.trans le5).trans hle, .inr (.inl ⟨rfl, rfl, hs9, hK⟩)⟩
   ·exact ⟨b, c, F3, Lf2, rfl, rfl, (le4.trans le5).trans hle, .inr (.inr ⟨x, rfl, rfl, hs7, hK⟩)⟩
 refine wp_mono (wpIn_wide.1 (key _ (fits0 (n := 17) (args := [.string ⟨s.toArray⟩, .func (.func g) #[] cap.toArray]) rfl))) ?_
 have hres : ∀ {f : Fr} {b c : Nat} {v u : Int} {w' : World} {F' : Mem} {L' : Own}, f 4 = .pointer (some ⟨b, 0, none⟩) → f 5 = .pointer (some ⟨c, 0, none⟩) → HS wb Fb w' F' ((some c, ba u) :: (some b, be v) :: L') → (resultsF Tryz.f78.results f).run Tryz.prog w' = .ok (.tuple #[.int .i64 v, .int .i64 u]) w' := by
  intro f b c v u w' F' L' hf hf5 hs'
  exact res_of (l := [.cell 4 27, .cell 5 3]) (by kernel_rfl) (vs := [.int .i64 v, .int .i64 u]) ⟨b, 0, hf, run_loadVar' (t := 27) (g := false) (s := 1) (by kernel_rfl) (hs'.ownAt (k := 1) rfl) rfl (by decide), c, 0, hf5, run_loadVar' (t := 3) (g := false) (s := 1) (by kernel_rfl) (hs'.ownAt (k := 0) rfl) rfl (by decide), trivial⟩
 rintro e a w' ⟨f, hf, b, c, F', Lf', h4, h5, hle, (⟨rfl, hd, hs', hK⟩ | ⟨rfl, hd, hs', hK⟩ | ⟨x, rfl, hd, hs', hK⟩)⟩
 ·show Leaves _ _ _ _ _ _ _
  rw [hf.defers, hd]
  exact ⟨_, by rw [hf.results Tryz.f78]; exact hres h4 h5 hs', some ⟨2, 0⟩, F', Lf', rfl, (hs'.drop 0).drop 0, hle, hK⟩
 ·show Leaves _ _ _ _ _ _ _
  rw [hf.defers, hd]
  refine ⟨by simp, _, _, 131, _, rfl, inv131 b c w', ?_⟩
  intro c0 cs hc0
  obtain ⟨e, u', w2, fr, hR, hrest⟩ := c_read1_ret (w := w') (b := b) (c := c) c0 cs hc0
  refine ⟨e, u', w2, fr, ?_, hrest⟩
  obtain ⟨rfl, rfl, rfl⟩ := hR
  show Leaves _ _ _ _ _ _ _
  exact ⟨_, by rw [hf.results Tryz.f78]; exact hres h4 h5 hs', none, F', Lf', rfl, (hs'.drop 0).drop 0, hle, hK⟩
 ·show Leaves _ _ _ _ _ _ _
  rw [hf.defers, hd]
  refine ⟨by simp, _, _, 131, _, rfl, inv131 b c w', ?_⟩
  intro c0 cs hc0
  obtain ⟨e, u', w2, fr, hR, hrest⟩ := c_read1_pan (w := w') (b := b) (c := c) (x := x) hs' c0 cs hc0
  refine ⟨e, u', w2, fr, ?_, hrest⟩
  obtain ⟨hu, rfl, hs2⟩ := hR
  show Leaves _ _ _ _ _ _ _
  rw [hu]
  exact ⟨_, by rw [hf.results Tryz.f78]; exact hres h4 h5 hs2, some x, F', Lf', rfl, (hs2.drop 0).drop 0, hle, hK⟩
end
end Go.Proofs.YtaihlcdkcampbaaGreatDoor
namespace Go.Proofs.YtaihlcdkcampbaaGreatDoor
open Go.Proofs
def rules_parser_peek (N : Nat) (x0 : rules_parser) (x1 : (List UInt8)) : Option Bool :=
 (((idx x0.l_ 0).bind fun x29 => (bif (x29.kind_ == 2) then ((idx x0.l_ 0).bind fun x46 => some (x46.text_ == x1)) else ((idx x0.l_ 0).bind fun x52 => (bif (x52.kind_ == 3) then ((idx x0.l_ 0).bind fun x61 => some (x61.text_ == x1)) else some false)))).bind fun j24 => some j24)
theorem co_rules_parser_peek : CallOk Tryz.prog 134 := fun _ _ => by kernel_rfl
theorem c_rules_parser_peek (N : Nat) {wb w0 : World} {Fb F0 : Mem} {Lf : Own} (bp0 : Nat) (x0 : rules_parser) (a0_0 : Option Addr) (n0_0 : Nat) (hb0_0 : LC x0.l_.length n0_0) (hs0_0 : SlA trules_token F0 a0_0 x0.l_) (x1 : (List UInt8)) (hs0 : HS wb Fb w0 F0 ((sb bp0 (krules_parser x0 a0_0 n0_0) 100) :: Lf)) (r : Bool) (h : rules_parser_peek N x0 x1 = some r) :
  Calls Tryz.prog 134 ([(pt bp0 0), (.string ⟨(x1).toArray⟩)] : List Value).toArray w0 (BRet wb Fb F0 fun F' v L' => v = (.bool r) ∧ L' = (sb bp0 (krules_parser x0 a0_0 n0_0) 100) :: Lf) := by
 refine Go 34 Tryz.func134 ?_
 refine Sq (Rg [0] ?_)
 refine Vs 1 ?_
 refine Nss (Rg [0, 1, 2, 3, 4, 5, 6, 7, 8, 9, 10, 11, 12, 13, 14, 15, 16, 17, 18, 19, 20, 21, 22, 23, 24, 25, 26, 27, 28, 29] ?_)
 obtain ⟨j24, hj27, h28⟩ := bind_some h
 refine RWP.cut (fun f w => ∃ (F1 : Mem), HS wb Fb w F1 ((sb bp0 (krules_parser x0 a0_0 n0_0) 100) :: Lf) ∧ Mem.le F0 F1 ∧ FI f [] [(4, (.bool j24))]) ?_ ?_
 ·refine Vs 3 ?_
  refine Ld hs0.at0 ?_
  obtain ⟨x29, hx30, h32⟩ := bind_some hj27
  obtain ⟨hi31, hx30'⟩ := idx_spec hx30
  obtain ⟨b33, o34, C35, E36, fz37, rfl, hF39, hE40⟩ := SlA.open hs0_0 hx30'
  have hc42 := hE40 _ _ hx30'
  refine Ix hi31 ?_
  refine Vs 1 ?_
  refine Lx 0 (hs0.pers _ _ hF39) hc42 ?_
  refine Vs 2 ?_
  refine Sp h32 (fun hb43 h44 => ?_) (fun hb43 h45 => ?_)
  ·refine Ss hb43 8 ?_
   refine Pk1 hb43 ?_
   refine Vs 1 ?_
   refine Vg 24 95 18 true 23 rfl (mv 0 (pt bp0 0)) ?_
   refine Vg 25 0 18 true 23 rfl (run_nilCheck (x := (.tmp 24)) (a := ⟨bp0, 0, none⟩) rfl) ?_
   refine Vg 26 0 18 true 23 rfl (fa 100 25 0 0 1 bp0 0 0) ?_
   refine Vg 27 98 18 true 23 rfl (ld 98 26 bp0 0 false 1 (.slice (some ⟨b33, o34, none⟩) x0.l_.length n0_0) hs0.at0) ?_
   obtain ⟨x46, hx47, h49⟩ := bind_some h44
   obtain ⟨hi48, hx47'⟩ := idx_spec hx47
   have hc51 := hE40 _ _ hx47'
   refine Vg 28 0 18 true 23 rfl (run_index (t := 98) (x := (.tmp 27)) (y := (.const (vi 0))) (b := b33) (o := o34) (E := 97) (s := 3) (by_ := 32) rfl rfl (by kernel_rfl) hi48) ?_
   refine Vg 29 0 18 true 23 rfl (fa 97 28 2 2 1 b33 (o34 + (0 : Int).toNat * 3) ((o34 + (0 : Int).toNat * 3) + 2)) ?_
   refine Vg 30 9 18 true 23 rfl (lx 9 29 2 3 false 1 (.string ⟨(x46.text_).toArray⟩) (hs0.pers _ _ hF39) hc51) ?_
   refine Vg 31 9 18 true 23 rfl (mv 1 (.string ⟨(x1).toArray⟩)) ?_
   refine Vg 32 4 18 true 23 rfl (run_scmp (t := 9) (t' := 9) (x := (.tmp 30)) (y := (.tmp 31)) (op := .eql) (a := x46.text_) (b := x1) (v := (x46.text_ == x1)) rfl rfl rfl) ?_
   refine Pk1 (rfl : true = true) ?_
   refine Vs 1 ?_
   obtain rfl := some_inj h49
   exact RWP.nil ⟨rfl, F0, hs0, (Mem.le.refl _), fI⟩
  ·refine Vgs hb43 3 ?_
   refine Lg hb43 hs0.at0 ?_
   obtain ⟨x52, hx53, h55⟩ := bind_some h45
   obtain ⟨hi54, hx53'⟩ := idx_spec hx53
   have hc57 := hE40 _ _ hx53'
   refine Ixg hb43 hi54 ?_
   refine Vgs hb43 1 ?_
   refine Lxg hb43 0 (hs0.pers _ _ hF39) hc57 ?_
   refine Vgs hb43 1 ?_
   refine Pk0 hb43 ?_
   refine Vs 1 ?_
   refine Sp h55 (fun hb58 h59 => ?_) (fun hb58 h60 => ?_)
   ·refine Vgs hb58 3 ?_
    refine Lg hb58 hs0.at0 ?_
    obtain ⟨x61, hx62, h64⟩ := bind_some h59
    obtain ⟨hi63, hx62'⟩ := idx_spec hx62
    have hc66 := hE40 _ _ hx62'
    refine Ixg hb58 hi63 ?_
    refine Vgs hb58 1 ?_
    refine Lxg hb58 2 (hs0.pers _ _ hF39) hc66 ?_
    refine Vgs hb58 2 ?_
    refine Pk1 hb58 ?_
    refine Vs 1 ?_
    obtain rfl := some_inj h64
    exact RWP.nil ⟨rfl, F0, hs0, (Mem.le.refl _), fI⟩
   ·refine Ss hb58 9 ?_
    refine Pk0 hb58 ?_
    refine Vs 1 ?_
    obtain rfl := some_inj h60
    exact RWP.nil ⟨rfl, F0, hs0, (Mem.le.refl _), fI⟩
 ·rintro f w21 ⟨F1, hs22, le23, ⟨_, rfl⟩⟩
  refine thenQ_nrm ?_
  refine Rt ?_
  obtain rfl := some_inj h28
  exact ReB [(.bool j24)] hs22 le23 ⟨rfl, rfl⟩
end Go.Proofs.YtaihlcdkcampbaaGreatDoor
namespace Go.Proofs.YtaihlcdkcampbaaGreatDoor
open Go.Proofs
def rules_parser_accept (N : Nat) (x0 : rules_parser) (x1 : (List UInt8)) : Option (rules_parser × Bool) :=
 ((rules_parser_peek N x0 x1).bind fun r21 => (bif (!r21) then some (x0, false) else ((sub x0.l_ 1 (x0.l_.length : Int)).bind fun r31 => some (({ l_ := r31, open_ := x0.open_ } : rules_parser), true))))
theorem co_rules_parser_accept : CallOk Tryz.prog 80 := fun _ _ => by kernel_rfl
theorem c_rules_parser_accept (N : Nat) {wb w0 : World} {Fb F0 : Mem} {Lf : Own} (bp0 : Nat) (x0 : rules_parser) (a0_0 : Option Addr) (n0_0 : Nat) (hb0_0 : LC x0.l_.length n0_0) (hs0_0 : SlA trules_token F0 a0_0 x0.l_) (x1 : (List UInt8)) (hs0 : HS wb Fb w0 F0 ((sb bp0 (krules_parser x0 a0_0 n0_0) 100) :: Lf)) (r : (rules_parser × Bool)) (h : rules_parser_accept N x0 x1 = some r) :
  Calls Tryz.prog 80 ([(pt bp0 0), (.string ⟨(x1).toArray⟩)] : List Value).toArray w0 (BRet wb Fb F0 fun F' v L' => ∃ (aq0_0 : Option Addr) (nq0_0 : Nat), v = (.bool r.2) ∧ L' = (sb bp0 (krules_parser r.1 aq0_0 nq0_0) 100) :: Lf ∧ LC r.1.l_.length nq0_0 ∧ SlA trules_token F' aq0_0 r.1.l_) := by
 refine Go 17 Tryz.func80 ?_
 refine Sq (Rg [0] ?_)
 refine Vs 1 ?_
 refine Nss ?_
 refine Sq (Rg [0, 1, 2, 3] ?_)
 refine Vs 2 ?_
 obtain ⟨r21, hr22, h23⟩ := bind_some h
 refine CB co_rules_parser_peek (c_rules_parser_peek N bp0 (x0) a0_0 n0_0 hb0_0 hs0_0 (x1) hs0 _ hr22) ?_
 rintro _ F1 w24 _ hs25 le26 ⟨rfl, rfl⟩
 refine Vs 1 ?_
 refine Nt ?_
 refine Cd h23 (fun hb28 h29 => ?_) (fun hb28 h30 => ?_)
 ·refine Sq (Rg [0] ?_)
  refine Vs 1 ?_
  refine Nt ?_
  refine Rt ?_
  refine thenQ_ret ?_
  obtain rfl := some_inj h29
  exact ReB [(.bool false)] hs25 le26 ⟨a0_0, n0_0, rfl, rfl, hb0_0, (SlA.mono hs0_0 le26)⟩
 ·refine Sc ?_
  refine thenQ_nrm ?_
  refine Sq (Rg [0, 1, 2, 3, 4, 5, 6, 7, 8] ?_)
  refine Vs 4 ?_
  refine Ld hs25.at0 ?_
  obtain ⟨r31, hr32, h33⟩ := bind_some h30
  obtain ⟨a34, n35, hb36, hs37, hrun38⟩ := part_val (P := Tryz.prog) (T := trules_token) (lo := (some (.const (vi 1)))) (hi := none) (mx := none) (t := 98) (E := 97) (by_ := 32) (c := n0_0) (a := a0_0) (l := x0.l_) (r := r31) (il := 1) (ih := (x0.l_.length : Int)) (im := 0) (by kernel_rfl) (by kernel_rfl) hb0_0 (SlA.mono hs0_0 le26) (fun h => by first | rfl | cases h) hr32
  refine V 14 98 (hrun38 (x := (.tmp 13)) rfl rfl rfl trivial) ?_
  refine Vs 2 ?_
  refine St0 #[(.slice a34 r31.length n35), (vi x0.open_)] hs25 (fun w39 hs40 => ?_)
  refine Nss (Rg [0] ?_)
  refine Vs 1 ?_
  refine Nt ?_
  refine Rt ?_
  obtain rfl := some_inj h33
  exact ReB [(.bool true)] hs40 le26 ⟨a34, n35, rfl, rfl, hb36, hs37⟩
end Go.Proofs.YtaihlcdkcampbaaGreatDoor
namespace Go.Proofs.YtaihlcdkcampbaaGreatDoor
open Go.Proofs
def rules_parser_joinedBy_L0 (N : Nat) (x0 : rules_parser) (x1 : (rules_parser → Option (rules_bad ⊕ (rules_parser × Expr)))) (x2 : (List ((List UInt8) × Int))) (r27 : (rules_parser × Expr)) : (Int × Int × List Expr × List rules_token × Int) → Option (Flow (rules_bad ⊕ (rules_parser × Expr)) (Int × Int × List Expr × List rules_token × Int)) := fun s42 =>
 ((idx s42.2.2.2.1 0).bind fun x64 => ((bif (!(mhas x2 x64.text_)) then some (true, s42.2.2.2.1, s42.2.2.2.2) else ((idx s42.2.2.2.1 0).bind fun x95 => ((rules_parser_accept N ({ l_ := s42.2.2.2.1, open_ := s42.2.2.2.2 } : rules_parser) x95.text_).bind fun r101 => some ((!r101.2), r101.1.l_, r101.1.open_)))).bind fun j81 => (bif j81.1 then some (.ret (.inr (({ l_ := j81.2.1, open_ := j81.2.2 } : rules_parser), ({ Op := s42.1, Value := s42.2.1, Kids := s42.2.2.1 } : Expr)))) else (((x1 ({ l_ := j81.2.1, open_ := j81.2.2 } : rules_parser)).bind fun r129 => sk r129 (fun b146 => some (.inl b146)) (fun r132 => some (.inr (r132.1.l_, r132.1.open_, (mgetD x2 x64.text_ 0), 0, [({ Op := s42.1, Value := s42.2.1, Kids := s42.2.2.1 } : Expr), r132.2])))).bind fun j119 => sk j119 (fun b158 => some (.ret (.inl b158))) (fun J128 => some (.next (J128.2.2.1, J128.2.2.2.1, J128.2.2.2.2, J128.1, J128.2.1)))))))
def rules_parser_joinedBy (N : Nat) (x0 : rules_parser) (x1 : (rules_parser → Option (rules_bad ⊕ (rules_parser × Expr)))) (x2 : (List ((List UInt8) × Int))) : Option (rules_bad ⊕ (rules_parser × Expr)) :=
 ((x1 x0).bind fun r24 => sk r24 (fun b165 => some (.inl b165)) (fun r27 => ((iter (rules_parser_joinedBy_L0 N x0 x1 x2 r27) N (r27.2.Op, r27.2.Value, r27.2.Kids, r27.1.l_, r27.1.open_)).bind fun o => o.k (fun r => some r) (fun s52 => some (.inr (({ l_ := s52.2.2.2.1, open_ := s52.2.2.2.2 } : rules_parser), ({ Op := 0, Value := 0, Kids := ([] : List Expr) } : Expr)))))))
theorem co_rules_parser_joinedBy : CallOk Tryz.prog 184 := fun _ _ => by kernel_rfl
theorem c_rules_parser_joinedBy (N : Nat) {wb w0 : World} {Fb F0 : Mem} {Lf : Own} (hG : Glob F0) (bp0 : Nat) (x0 : rules_parser) (a0_0 : Option Addr) (n0_0 : Nat) (hb0_0 : LC x0.l_.length n0_0) (hs0_0 : SlA trules_token F0 a0_0 x0.l_) (gx1 : FuncId) (fx1 kx1 : List Value) (x1 : (rules_parser → Option (rules_bad ⊕ (rules_parser × Expr)))) (hox1 : CallOk Tryz.prog gx1) (hpx1 : EFn117 bp0 gx1 fx1 kx1 x1) (x2 : (List ((List UInt8) × Int))) (o2_0 : Option Nat) (hm2_0 : MpA tStr tInt F0 o2_0 x2) (hs0 : HS wb Fb w0 F0 ((sb bp0 (krules_parser x0 a0_0 n0_0) 100) :: Lf)) (r : (rules_bad ⊕ (rules_parser × Expr))) (h : rules_parser_joinedBy N x0 x1 x2 = some r) :
  Calls Tryz.prog 184 ([(pt bp0 0), (.func (.func gx1) fx1.toArray kx1.toArray), (.map o2_0)] : List Value).toArray w0 (BRetP wb Fb F0 Lf r (fun b => (.iface 158 (.agg (krules_bad b)))) fun a F' v L' => ∃ (aq0_0 : Option Addr) (nq0_0 : Nat) (aq1_2 : Option Addr) (nq1_2 : Nat), v = (.agg (kExpr a.2 aq1_2 nq1_2)) ∧ L' = (sb bp0 (krules_parser a.1 aq0_0 nq0_0) 100) :: Lf ∧ LC a.1.l_.length nq0_0 ∧ SlA trules_token F' aq0_0 a.1.l_ ∧ LC a.2.Kids.length nq1_2 ∧ SlA tExpr F' aq1_2 a.2.Kids) := by
 refine Go 45 Tryz.func184 ?_
 refine Sq (Rg [0] ?_)
 refine Al' 33 #[(vi 0), (vi 0), (.slice none ([] : List Expr).length 0)] hs0 (fun b21 w22 hs23 => ?_)
 refine Nss (Rg [0, 1, 2, 3] ?_)
 refine Vs 1 ?_
 obtain ⟨r24, hr25, h26⟩ := bind_some h
 refine CPq hox1 (hpx1 hG (x0) a0_0 n0_0 hb0_0 hs0_0 hs23.pk1 _ hr25) ?_ ?_
 ·rintro r27 _ F1 w29 _ rfl hs30 le31 ⟨ar27_0_0, nr27_0_0, ar27_1_2, nr27_1_2, rfl, rfl, hbr27_0_0, hsr27_0_0, hbr27_1_2, hsr27_1_2⟩
  have h33 := sk_r h26
  refine Al' 33 #[(vi 0), (vi 0), (.slice none ([] : List Expr).length 0)] hs30 (fun b34 w35 hs36 => ?_)
  refine St0 (kExpr r27.2 ar27_1_2 nr27_1_2) hs36 (fun w37 hs38 => ?_)
  refine Nt ?_
  obtain ⟨o39, ho40, h41⟩ := bind_some h33
  refine CWP.cut (fun f w => ∃ (s52 : (Int × Int × List Expr × List rules_token × Int)) (F3 : Mem) (as52_3 : Option Addr) (ns52_3 : Nat), o39 = .done s52 ∧ HS wb Fb w F3 ((sb bp0 #[(.slice as52_3 s52.2.2.2.1.length ns52_3), (vi s52.2.2.2.2)] 100) :: (sb b21 #[(vi 0), (vi 0), (.slice none ([] : List Expr).length 0)] 33) :: Lf) ∧ Mem.le F1 F3 ∧ FI f [] [(6, (pt b21 0))] ∧ LC s52.2.2.2.1.length ns52_3 ∧ SlA trules_token F3 as52_3 s52.2.2.2.1) ?_ ?_
  ·refine Bk ?_
   refine CWP.loop (by kernel_rfl) (fun m f w => ∃ (s42 : (Int × Int × List Expr × List rules_token × Int)) (F2 : Mem) (as42_2 : Option Addr) (ns42_2 : Nat) (as42_3 : Option Addr) (ns42_3 : Nat), iter (rules_parser_joinedBy_L0 N x0 x1 x2 r27) m s42 = some o39 ∧ HS wb Fb w F2 ((sb b34 #[(vi s42.1), (vi s42.2.1), (.slice as42_2 s42.2.2.1.length ns42_2)] 33) :: (sb bp0 #[(.slice as42_3 s42.2.2.2.1.length ns42_3), (vi s42.2.2.2.2)] 100) :: (sb b21 #[(vi 0), (vi 0), (.slice none ([] : List Expr).length 0)] 33) :: Lf) ∧ Mem.le F1 F2 ∧ FI f [] [(0, (pt bp0 0)), (1, (.func (.func gx1) fx1.toArray kx1.toArray)), (2, (.map o2_0)), (6, (pt b21 0)), (7, (pt b34 0))] ∧ LC s42.2.2.1.length ns42_2 ∧ SlA tExpr F2 as42_2 s42.2.2.1 ∧ LC s42.2.2.2.1.length ns42_3 ∧ SlA trules_token F2 as42_3 s42.2.2.2.1) N ⟨(r27.2.Op, r27.2.Value, r27.2.Kids, r27.1.l_, r27.1.open_), F1, ar27_1_2, nr27_1_2, ar27_0_0, nr27_0_0, ho40, hs38, (Mem.le.refl _), fI, hbr27_1_2, hsr27_1_2, hbr27_0_0, hsr27_0_0⟩ ?_
   rintro m58 f w43 ⟨s42, F2, as42_2, ns42_2, as42_3, ns42_3, hit59, hs44, le45, ⟨_, rfl⟩, hbs42_2, hss42_2, hbs42_3, hss42_3⟩
   obtain ⟨m60, fl61, rfl, hb62, hnx63⟩ := iter_step hit59
   refine Bk ?_
   refine Sq (Rg [0, 1, 2, 3, 4, 5, 6, 7, 8, 9, 10, 11, 12, 13] ?_)
   refine Vs 4 ?_
   refine Ld hs44.at1 ?_
   obtain ⟨x64, hx65, h67⟩ := bind_some hb62
   obtain ⟨hi66, hx65'⟩ := idx_spec hx65
   obtain ⟨b68, o69, C70, E71, fz72, rfl, hF74, hE75⟩ := SlA.open hss42_3 hx65'
   have hc77 := hE75 _ _ hx65'
   refine Ix hi66 ?_
   refine Vs 1 ?_
   refine Lx 2 (hs44.pers _ _ hF74) hc77 ?_
   refine V 21 213 (run_lookV2 (mt := 198) (k := 9) (vt := 3) (m := (.tmp 13)) (x := (.tmp 20)) (kv := (.string ⟨(x64.text_).toArray⟩)) (kx := x64.text_) (z := (vi 0)) (zx := 0) (K := tStr) (T := tInt) kl9 rfl rfl ⟨_, rfl, rfl⟩ (by kernel_rfl) (by kernel_rfl) ⟨_, rfl, rfl⟩ (MpA.mpw hs44.pers (MpA.mono hm2_0 (le31.trans le45))) (fun h => by obtain ⟨_, rfl, rfl⟩ := h; rfl)) ?_
   refine Vs 5 ?_
   refine Nss ?_
   refine Sq (Rg [0, 1, 2, 3, 4, 5, 6, 7, 8, 9, 10, 11, 12, 13] ?_)
   obtain ⟨j81, hj90, h91⟩ := bind_some h67
   refine RWP.cut (fun f w => ∃ (F4 : Mem) (aj81_1 : Option Addr) (nj81_1 : Nat), HS wb Fb w F4 ((sb b34 #[(vi s42.1), (vi s42.2.1), (.slice as42_2 s42.2.2.1.length ns42_2)] 33) :: (sb bp0 #[(.slice aj81_1 j81.2.1.length nj81_1), (vi j81.2.2)] 100) :: (sb b21 #[(vi 0), (vi 0), (.slice none ([] : List Expr).length 0)] 33) :: Lf) ∧ Mem.le F2 F4 ∧ FI f [] [(0, (pt bp0 0)), (1, (.func (.func gx1) fx1.toArray kx1.toArray)), (2, (.map o2_0)), (6, (pt b21 0)), (7, (pt b34 0)), (8, (vi (mgetD x2 x64.text_ 0))), (37, (.bool j81.1))] ∧ LC j81.2.1.length nj81_1 ∧ SlA trules_token F4 aj81_1 j81.2.1) ?_ ?_
   ·refine Vs 3 ?_
    refine Sp hj90 (fun hb92 h93 => ?_) (fun hb92 h94 => ?_)
    ·refine Ss hb92 10 ?_
     refine Pk1 hb92 ?_
     obtain rfl := some_inj h93
     exact RWP.nil ⟨rfl, F2, (some ⟨b68, o69, none⟩), ns42_3, hs44, (Mem.le.refl _), fI, hbs42_3, hss42_3⟩
    ·refine Vgs hb92 4 ?_
     refine Lg hb92 hs44.at1 ?_
     obtain ⟨x95, hx96, h98⟩ := bind_some h94
     obtain ⟨hi97, hx96'⟩ := idx_spec hx96
     have hc100 := hE75 _ _ hx96'
     refine Ixg hb92 hi97 ?_
     refine Vgs hb92 1 ?_
     refine Lxg hb92 2 (hs44.pers _ _ hF74) hc100 ?_
     obtain ⟨r101, hr102, h103⟩ := bind_some h98
     refine RWP.callB (dst := (some 35)) (ty := 4) (g := (some (2, false))) (by kernel_rfl) (gd_y (d := 26) (by kernel_rfl) rfl hb92) (f0 := (.func 80)) (aos := #[(.tmp 27), (.tmp 34)]) (ats := #[95, 9]) (fid := 80) (first := #[]) (cap := #[]) (args := [(pt bp0 0), (.string ⟨(x95.text_).toArray⟩)]) rfl co_rules_parser_accept (rfl) (c_rules_parser_accept N bp0 (({ l_ := s42.2.2.2.1, open_ := s42.2.2.2.2 } : rules_parser)) (some ⟨b68, o69, none⟩) ns42_3 hbs42_3 hss42_3 (x95.text_) hs44.pk2.pk1.pk2 _ hr102) ?_
     rintro _ F5 w104 _ hs105 le106 ⟨ar101_0_0, nr101_0_0, rfl, rfl, hbr101_0_0, hsr101_0_0⟩
     refine Vgs hb92 1 ?_
     refine Pk0 hb92 ?_
     obtain rfl := some_inj h103
     exact RWP.nil ⟨rfl, F5, ar101_0_0, nr101_0_0, hs105.pk2.pk1.pk2, le106, fI, hbr101_0_0, hsr101_0_0⟩
   ·rintro f w78 ⟨F4, aj81_1, nj81_1, hs79, le80, ⟨_, rfl⟩, hbj81_1, hsj81_1⟩
    refine thenQ_nrm ?_
    refine Cd h91 (fun hb108 h109 => ?_) (fun hb108 h110 => ?_)
    ·refine Sq (Rg [0, 1] ?_)
     refine Ld hs79.at0 ?_
     refine St2 #[(vi s42.1), (vi s42.2.1), (.slice as42_2 s42.2.2.1.length ns42_2)] hs79 (fun w111 hs112 => ?_)
     refine Nt ?_
     refine Rt ?_
     refine thenQ_ret ?_
     refine blockQ_ret ?_
     refine thenQ_ret ?_
     refine blockQ_ret ?_
     have hret := iter_ret h109 hnx63
     subst hret
     refine .inr ?_
     obtain rfl := some_inj h41
     exact ⟨rfl, (.agg #[(vi s42.1), (vi s42.2.1), (.slice as42_2 s42.2.2.1.length ns42_2)]), res_of (l := [.cell 6 33]) (by kernel_rfl) (vs := [(.agg #[(vi s42.1), (vi s42.2.1), (.slice as42_2 s42.2.2.1.length ns42_2)])]) ⟨b21, 0, rfl, run_loadVar' (t := 33) (g := true) (s := 3) (by kernel_rfl) hs112.at2 rfl (by decide), trivial⟩, .inl ⟨_, F4, _, _, rfl, rfl, hs112.dr0.dr1, ((le31.trans le45).trans le80), ⟨aj81_1, nj81_1, as42_2, ns42_2, rfl, rfl, hbj81_1, hsj81_1, hbs42_2, (SlA.mono hss42_2 le80)⟩⟩⟩
    ·refine Sc ?_
     refine thenQ_nrm ?_
     obtain ⟨j119, hj126, h127⟩ := bind_some h110
     refine RDP 6 7 [(sb b21 #[(vi 0), (vi 0), (.slice none ([] : List Expr).length 0)] 33)] [(sb b34 #[(vi s42.1), (vi s42.2.1), (.slice as42_2 s42.2.2.1.length ns42_2)] 33)] hs79 (fun c d w => d = [] ∧ ∃ (b : rules_bad) (Fp : Mem), j119 = .inl b ∧ c = [{ v := (.iface 158 (.agg (krules_bad b))), recovered := false }] ∧ HS wb Fb w Fp Lf ∧ Mem.le F4 Fp) (fun f w => ∃ (J128 : (List rules_token × Int × Int × Int × List Expr)), j119 = .inr J128 ∧ ∃ (F6 : Mem) (aj119_0 : Option Addr) (nj119_0 : Nat) (aj119_4 : Option Addr) (nj119_4 : Nat) (ej119_4 : Option Nat × Obj), HS wb Fb w F6 (ej119_4 :: (sb b34 #[(vi J128.2.2.1), (vi J128.2.2.2.1), (.slice aj119_4 J128.2.2.2.2.length nj119_4)] 33) :: (sb bp0 #[(.slice aj119_0 J128.1.length nj119_0), (vi J128.2.1)] 100) :: (sb b21 #[(vi 0), (vi 0), (.slice none ([] : List Expr).length 0)] 33) :: Lf) ∧ Mem.le F4 F6 ∧ FI f [] [(0, (pt bp0 0)), (1, (.func (.func gx1) fx1.toArray kx1.toArray)), (2, (.map o2_0)), (6, (pt b21 0)), (7, (pt b34 0))] ∧ LC J128.1.length nj119_0 ∧ SlA trules_token F6 aj119_0 J128.1 ∧ RowR tExpr 33 F6 aj119_4 nj119_4 J128.2.2.2.2 ej119_4) (fun wd113 hw114 => ?_) ?_ ?_
     ·refine Dv [0] ?_
      refine Dl 1 (fun _ hq => ((hq.2 rfl).2 0 _ _ rfl)) ?_
      refine Dv [2] ?_
      refine D1 3 ?_
      obtain ⟨r129, hr130, h131⟩ := bind_some hj126
      refine DStep.callBP (l' := [true, true, true, true, false, false, false]) (zd := false) (by kernel_rfl) (by kernel_rfl) (Lf := (sb b34 #[(vi s42.1), (vi s42.2.1), (.slice as42_2 s42.2.2.1.length ns42_2)] 33) :: (sb b21 #[(vi 0), (vi 0), (.slice none ([] : List Expr).length 0)] 33) :: Lf) (dst := (some 42)) (ty := 33) (g := none) (by kernel_rfl) rfl (f0 := (.tmp 41)) (aos := #[]) (ats := #[]) (fid := gx1) (first := fx1.toArray) (cap := kx1.toArray) (args := (fx1 ++ (([] : List Value) ++ kx1))) rfl hox1 (app_args2 (l := []) (fi := fx1) (k := kx1) (rfl)) (hpx1 (hG.mono ((le31.trans le45).trans le80)) (({ l_ := j81.2.1, open_ := j81.2.2 } : rules_parser)) aj81_1 nj81_1 hbj81_1 hsj81_1 hw114.pk2.pk1.pk2 _ hr130) ?_ ?_
      ·rintro r132 _ F7 w134 _ rfl hs135 le136 ⟨ar132_0_0, nr132_0_0, ar132_1_2, nr132_1_2, rfl, rfl, hbr132_0_0, hsr132_0_0, hbr132_1_2, hsr132_1_2⟩
       have h138 := sk_r h131
       refine ⟨dz_of hs135 le136 (by simp) (fun _ => by simp), ?_⟩
       refine D1 4 ?_
       refine DBs 33 [(vi s42.1), (vi s42.2.1), (.slice as42_2 s42.2.2.1.length ns42_2), (vi r132.2.Op), (vi r132.2.Value), (.slice ar132_1_2 r132.2.Kids.length nr132_1_2)] hs135 le136 (fun b139 w140 hs141 => ?_)
       have hr143 : RowR tExpr 33 F7 (some ⟨b139, 0, none⟩) 2 [({ Op := s42.1, Value := s42.2.1, Kids := s42.2.2.1 } : Expr), r132.2] (some b139, .cells ([(vi s42.1), (vi s42.2.1), (.slice as42_2 s42.2.2.1.length ns42_2), (vi r132.2.Op), (vi r132.2.Value), (.slice ar132_1_2 r132.2.Kids.length nr132_1_2)] : List Value).toArray 33 (0, 0)) := RowR.lit ⟨(tExpr_mk ⟨as42_2, ns42_2, rfl, hbs42_2, (SlA.mono hss42_2 (le80.trans le136))⟩), ⟨(tExpr_mk ⟨ar132_1_2, nr132_1_2, rfl, hbr132_1_2, hsr132_1_2⟩), rfl⟩⟩ (by simp)
       refine Dv [5] ?_
       refine D1 6 ?_
       refine DSt2 #[(vi (mgetD x2 x64.text_ 0)), (vi 0), (.slice (some ⟨b139, 0, none⟩) [({ Op := s42.1, Value := s42.2.1, Kids := s42.2.2.1 } : Expr), r132.2].length 2)] hs141 le136 (fun w144 hs145 => ?_)
       obtain rfl := some_inj h138
       exact DWP.done (by kernel_rfl) ⟨_, rfl, F7, ar132_0_0, nr132_0_0, (some ⟨b139, 0, none⟩), 2, (some b139, .cells ([(vi s42.1), (vi s42.2.1), (.slice as42_2 s42.2.2.1.length ns42_2), (vi r132.2.Op), (vi r132.2.Value), (.slice ar132_1_2 r132.2.Kids.length nr132_1_2)] : List Value).toArray 33 (0, 0)), hs145.pk3.pk2.pk3.pk3, le136, fI, hbr132_0_0, hsr132_0_0, hr143⟩
      ·rintro b146 F8 w147 rfl hs148 le149
       have h150 := sk_l h131
       obtain rfl := some_inj h150
       exact ⟨rfl, _, _, rfl, rfl, hs148.dr0.dr0, le149⟩
     ·rintro f w115 ⟨J128, rfl, F6, aj119_0, nj119_0, aj119_4, nj119_4, ej119_4, hs116, le117, ⟨_, rfl⟩, hbj119_0, hsj119_0, hrj119_4⟩
      have h152 := sk_r h127
      refine blockQ_nrm ?_
      have hb156 := RowR.bound hrj119_4
      obtain ⟨F9, hs153, le154, hs155⟩ := hs116.fr0 hrj119_4
      have hn157 := iter_next h152 hnx63
      exact ⟨m60, Nat.lt_succ_self _, (J128.2.2.1, J128.2.2.2.1, J128.2.2.2.2, J128.1, J128.2.1), F9, aj119_4, nj119_4, aj119_0, nj119_0, hn157, hs153, (((le45.trans le80).trans le117).trans le154), fI, hb156, hs155, hbj119_0, (SlA.mono hsj119_0 le154)⟩
     ·rintro c f w159 ⟨hd162, b158, F10, rfl, rfl, hs160, le161⟩
      have h163 := sk_l h127
      refine blockQ_pan ?_
      refine thenQ_pan ?_
      refine blockQ_pan ?_
      have hret := iter_ret h163 hnx63
      subst hret
      refine .inr ?_
      obtain rfl := some_inj h41
      exact ⟨hd162, .inr ⟨_, F10, rfl, rfl, hs160, (((le31.trans le45).trans le80).trans le161)⟩⟩
  ·rintro f w53 ⟨s52, F3, as52_3, ns52_3, rfl, hs54, le55, ⟨_, rfl⟩, hbs52_3, hss52_3⟩
   have h164 := k_done h41
   obtain rfl := some_inj h164
   exact ⟨rfl, (.agg #[(vi 0), (vi 0), (.slice none ([] : List Expr).length 0)]), res_of (l := [.cell 6 33]) (by kernel_rfl) (vs := [(.agg #[(vi 0), (vi 0), (.slice none ([] : List Expr).length 0)])]) ⟨b21, 0, rfl, run_loadVar' (t := 33) (g := true) (s := 3) (by kernel_rfl) hs54.at1 rfl (by decide), trivial⟩, .inl ⟨_, F3, _, _, rfl, rfl, hs54.dr1, (le31.trans le55), ⟨as52_3, ns52_3, none, 0, rfl, rfl, hbs52_3, hss52_3, LC.nil, (.inl rfl)⟩⟩⟩
 ·rintro b165 F11 w166 rfl hs167 le168
  have h169 := sk_l h26
  refine thenQ_pan ?_
  obtain rfl := some_inj h169
  exact RePi hs167.dr0 le168
end Go.Proofs.YtaihlcdkcampbaaGreatDoor
namespace Go.Proofs.YtaihlcdkcampbaaGreatDoor
open Go.Proofs
def Self145 (sR145 : rules_parser → Option (rules_bad ⊕ (rules_parser × Expr))) : Prop := ∀ {wb w0 : World} {Fb F0 : Mem} {Lf : Own} (hG : Glob F0) (bp0 : Nat) (x0 : rules_parser) (a0_0 : Option Addr) (n0_0 : Nat) (hb0_0 : LC x0.l_.length n0_0) (hs0_0 : SlA trules_token F0 a0_0 x0.l_) (hs0 : HS wb Fb w0 F0 ((some bp0, (.cells #[(.slice a0_0 x0.l_.length n0_0), (.int .i64 x0.open_)] 100 (0, 0))) :: Lf)) (r : (rules_bad ⊕ (rules_parser × Expr))), sR145 x0 = some r → Calls Tryz.prog 145 ([(.pointer (some ⟨bp0, 0, none⟩))] : List Value).toArray w0 (BRetP wb Fb F0 Lf r (fun b => (.iface 158 (.agg #[(.int .i64 b.e_), (.int .i64 b.at_)]))) fun a F' v L' => ∃ (aq0_0 : Option Addr) (nq0_0 : Nat) (aq1_2 : Option Addr) (nq1_2 : Nat), v = (.agg #[(.int .i64 a.2.Op), (.int .i64 a.2.Value), (.slice aq1_2 a.2.Kids.length nq1_2)]) ∧ L' = (some bp0, (.cells #[(.slice aq0_0 a.1.l_.length nq0_0), (.int .i64 a.1.open_)] 100 (0, 0))) :: Lf ∧ LC a.1.l_.length nq0_0 ∧ SlA trules_token F' aq0_0 a.1.l_ ∧ LC a.2.Kids.length nq1_2 ∧ SlA tExpr F' aq1_2 a.2.Kids)
theorem co_rules_parser_expr : CallOk Tryz.prog 145 := fun _ _ => by kernel_rfl
def Self185 (sR185 : rules_parser → Option (rules_bad ⊕ (rules_parser × Expr))) : Prop := ∀ {wb w0 : World} {Fb F0 : Mem} {Lf : Own} (hG : Glob F0) (bp0 : Nat) (x0 : rules_parser) (a0_0 : Option Addr) (n0_0 : Nat) (hb0_0 : LC x0.l_.length n0_0) (hs0_0 : SlA trules_token F0 a0_0 x0.l_) (hs0 : HS wb Fb w0 F0 ((some bp0, (.cells #[(.slice a0_0 x0.l_.length n0_0), (.int .i64 x0.open_)] 100 (0, 0))) :: Lf)) (r : (rules_bad ⊕ (rules_parser × Expr))), sR185 x0 = some r → Calls Tryz.prog 185 ([(.pointer (some ⟨bp0, 0, none⟩))] : List Value).toArray w0 (BRetP wb Fb F0 Lf r (fun b => (.iface 158 (.agg #[(.int .i64 b.e_), (.int .i64 b.at_)]))) fun a F' v L' => ∃ (aq0_0 : Option Addr) (nq0_0 : Nat) (aq1_2 : Option Addr) (nq1_2 : Nat), v = (.agg #[(.int .i64 a.2.Op), (.int .i64 a.2.Value), (.slice aq1_2 a.2.Kids.length nq1_2)]) ∧ L' = (some bp0, (.cells #[(.slice aq0_0 a.1.l_.length nq0_0), (.int .i64 a.1.open_)] 100 (0, 0))) :: Lf ∧ LC a.1.l_.length nq0_0 ∧ SlA trules_token F' aq0_0 a.1.l_ ∧ LC a.2.Kids.length nq1_2 ∧ SlA tExpr F' aq1_2 a.2.Kids)
theorem co_rules_parser_both : CallOk Tryz.prog 185 := fun _ _ => by kernel_rfl
def Self212 (sR212 : rules_parser → Option (rules_bad ⊕ (rules_parser × Expr))) : Prop := ∀ {wb w0 : World} {Fb F0 : Mem} {Lf : Own} (hG : Glob F0) (bp0 : Nat) (x0 : rules_parser) (a0_0 : Option Addr) (n0_0 : Nat) (hb0_0 : LC x0.l_.length n0_0) (hs0_0 : SlA trules_token F0 a0_0 x0.l_) (hs0 : HS wb Fb w0 F0 ((some bp0, (.cells #[(.slice a0_0 x0.l_.length n0_0), (.int .i64 x0.open_)] 100 (0, 0))) :: Lf)) (r : (rules_bad ⊕ (rules_parser × Expr))), sR212 x0 = some r → Calls Tryz.prog 212 ([(.pointer (some ⟨bp0, 0, none⟩))] : List Value).toArray w0 (BRetP wb Fb F0 Lf r (fun b => (.iface 158 (.agg #[(.int .i64 b.e_), (.int .i64 b.at_)]))) fun a F' v L' => ∃ (aq0_0 : Option Addr) (nq0_0 : Nat) (aq1_2 : Option Addr) (nq1_2 : Nat), v = (.agg #[(.int .i64 a.2.Op), (.int .i64 a.2.Value), (.slice aq1_2 a.2.Kids.length nq1_2)]) ∧ L' = (some bp0, (.cells #[(.slice aq0_0 a.1.l_.length nq0_0), (.int .i64 a.1.open_)] 100 (0, 0))) :: Lf ∧ LC a.1.l_.length nq0_0 ∧ SlA trules_token F' aq0_0 a.1.l_ ∧ LC a.2.Kids.length nq1_2 ∧ SlA tExpr F' aq1_2 a.2.Kids)
theorem co_rules_parser_deny : CallOk Tryz.prog 212 := fun _ _ => by kernel_rfl
def Self226 (sR226 : rules_parser → Option (rules_bad ⊕ (rules_parser × Expr))) : Prop := ∀ {wb w0 : World} {Fb F0 : Mem} {Lf : Own} (hG : Glob F0) (bp0 : Nat) (x0 : rules_parser) (a0_0 : Option Addr) (n0_0 : Nat) (hb0_0 : LC x0.l_.length n0_0) (hs0_0 : SlA trules_token F0 a0_0 x0.l_) (hs0 : HS wb Fb w0 F0 ((some bp0, (.cells #[(.slice a0_0 x0.l_.length n0_0), (.int .i64 x0.open_)] 100 (0, 0))) :: Lf)) (r : (rules_bad ⊕ (rules_parser × Expr))), sR226 x0 = some r → Calls Tryz.prog 226 ([(.pointer (some ⟨bp0, 0, none⟩))] : List Value).toArray w0 (BRetP wb Fb F0 Lf r (fun b => (.iface 158 (.agg #[(.int .i64 b.e_), (.int .i64 b.at_)]))) fun a F' v L' => ∃ (aq0_0 : Option Addr) (nq0_0 : Nat) (aq1_2 : Option Addr) (nq1_2 : Nat), v = (.agg #[(.int .i64 a.2.Op), (.int .i64 a.2.Value), (.slice aq1_2 a.2.Kids.length nq1_2)]) ∧ L' = (some bp0, (.cells #[(.slice aq0_0 a.1.l_.length nq0_0), (.int .i64 a.1.open_)] 100 (0, 0))) :: Lf ∧ LC a.1.l_.length nq0_0 ∧ SlA trules_token F' aq0_0 a.1.l_ ∧ LC a.2.Kids.length nq1_2 ∧ SlA tExpr F' aq1_2 a.2.Kids)
theorem co_rules_parser_test : CallOk Tryz.prog 226 := fun _ _ => by kernel_rfl
def Self233 (sR233 : rules_parser → Option (rules_bad ⊕ (rules_parser × Expr))) : Prop := ∀ {wb w0 : World} {Fb F0 : Mem} {Lf : Own} (hG : Glob F0) (bp0 : Nat) (x0 : rules_parser) (a0_0 : Option Addr) (n0_0 : Nat) (hb0_0 : LC x0.l_.length n0_0) (hs0_0 : SlA trules_token F0 a0_0 x0.l_) (hs0 : HS wb Fb w0 F0 ((some bp0, (.cells #[(.slice a0_0 x0.l_.length n0_0), (.int .i64 x0.open_)] 100 (0, 0))) :: Lf)) (r : (rules_bad ⊕ (rules_parser × Expr))), sR233 x0 = some r → Calls Tryz.prog 233 ([(.pointer (some ⟨bp0, 0, none⟩))] : List Value).toArray w0 (BRetP wb Fb F0 Lf r (fun b => (.iface 158 (.agg #[(.int .i64 b.e_), (.int .i64 b.at_)]))) fun a F' v L' => ∃ (aq0_0 : Option Addr) (nq0_0 : Nat) (aq1_2 : Option Addr) (nq1_2 : Nat), v = (.agg #[(.int .i64 a.2.Op), (.int .i64 a.2.Value), (.slice aq1_2 a.2.Kids.length nq1_2)]) ∧ L' = (some bp0, (.cells #[(.slice aq0_0 a.1.l_.length nq0_0), (.int .i64 a.1.open_)] 100 (0, 0))) :: Lf ∧ LC a.1.l_.length nq0_0 ∧ SlA trules_token F' aq0_0 a.1.l_ ∧ LC a.2.Kids.length nq1_2 ∧ SlA tExpr F' aq1_2 a.2.Kids)
theorem co_rules_parser_sum : CallOk Tryz.prog 233 := fun _ _ => by kernel_rfl
def Self239 (sR239 : rules_parser → Option (rules_bad ⊕ (rules_parser × Expr))) : Prop := ∀ {wb w0 : World} {Fb F0 : Mem} {Lf : Own} (hG : Glob F0) (bp0 : Nat) (x0 : rules_parser) (a0_0 : Option Addr) (n0_0 : Nat) (hb0_0 : LC x0.l_.length n0_0) (hs0_0 : SlA trules_token F0 a0_0 x0.l_) (hs0 : HS wb Fb w0 F0 ((some bp0, (.cells #[(.slice a0_0 x0.l_.length n0_0), (.int .i64 x0.open_)] 100 (0, 0))) :: Lf)) (r : (rules_bad ⊕ (rules_parser × Expr))), sR239 x0 = some r → Calls Tryz.prog 239 ([(.pointer (some ⟨bp0, 0, none⟩))] : List Value).toArray w0 (BRetP wb Fb F0 Lf r (fun b => (.iface 158 (.agg #[(.int .i64 b.e_), (.int .i64 b.at_)]))) fun a F' v L' => ∃ (aq0_0 : Option Addr) (nq0_0 : Nat) (aq1_2 : Option Addr) (nq1_2 : Nat), v = (.agg #[(.int .i64 a.2.Op), (.int .i64 a.2.Value), (.slice aq1_2 a.2.Kids.length nq1_2)]) ∧ L' = (some bp0, (.cells #[(.slice aq0_0 a.1.l_.length nq0_0), (.int .i64 a.1.open_)] 100 (0, 0))) :: Lf ∧ LC a.1.l_.length nq0_0 ∧ SlA trules_token F' aq0_0 a.1.l_ ∧ LC a.2.Kids.length nq1_2 ∧ SlA tExpr F' aq1_2 a.2.Kids)
theorem co_rules_parser_term : CallOk Tryz.prog 239 := fun _ _ => by kernel_rfl
def Self243 (sR243 : rules_parser → Option (rules_bad ⊕ (rules_parser × Expr))) : Prop := ∀ {wb w0 : World} {Fb F0 : Mem} {Lf : Own} (hG : Glob F0) (bp0 : Nat) (x0 : rules_parser) (a0_0 : Option Addr) (n0_0 : Nat) (hb0_0 : LC x0.l_.length n0_0) (hs0_0 : SlA trules_token F0 a0_0 x0.l_) (hs0 : HS wb Fb w0 F0 ((some bp0, (.cells #[(.slice a0_0 x0.l_.length n0_0), (.int .i64 x0.open_)] 100 (0, 0))) :: Lf)) (r : (rules_bad ⊕ (rules_parser × Expr))), sR243 x0 = some r → Calls Tryz.prog 243 ([(.pointer (some ⟨bp0, 0, none⟩))] : List Value).toArray w0 (BRetP wb Fb F0 Lf r (fun b => (.iface 158 (.agg #[(.int .i64 b.e_), (.int .i64 b.at_)]))) fun a F' v L' => ∃ (aq0_0 : Option Addr) (nq0_0 : Nat) (aq1_2 : Option Addr) (nq1_2 : Nat), v = (.agg #[(.int .i64 a.2.Op), (.int .i64 a.2.Value), (.slice aq1_2 a.2.Kids.length nq1_2)]) ∧ L' = (some bp0, (.cells #[(.slice aq0_0 a.1.l_.length nq0_0), (.int .i64 a.1.open_)] 100 (0, 0))) :: Lf ∧ LC a.1.l_.length nq0_0 ∧ SlA trules_token F' aq0_0 a.1.l_ ∧ LC a.2.Kids.length nq1_2 ∧ SlA tExpr F' aq1_2 a.2.Kids)
theorem co_rules_parser_item : CallOk Tryz.prog 243 := fun _ _ => by kernel_rfl
end Go.Proofs.YtaihlcdkcampbaaGreatDoor
namespace Go.Proofs.YtaihlcdkcampbaaGreatDoor
open Go.Proofs
def rules_parser_expr_S (N : Nat) (sR185 : rules_parser → Option (rules_bad ⊕ (rules_parser × Expr))) (x0 : rules_parser) : Option (rules_bad ⊕ (rules_parser × Expr)) :=
 ((rules_parser_joinedBy N x0 (fun y => sR185 y) (mput ([] : List ((List UInt8) × Int)) ([111, 114] : List UInt8) 5)).bind fun r37 => sk r37 (fun b49 => some (.inl b49)) (fun r40 => some (.inr (r40.1, r40.2))))
theorem cS_rules_parser_expr (N : Nat) (sR185 : rules_parser → Option (rules_bad ⊕ (rules_parser × Expr))) (hsR185 : Self185 sR185) {wb w0 : World} {Fb F0 : Mem} {Lf : Own} (hG : Glob F0) (bp0 : Nat) (x0 : rules_parser) (a0_0 : Option Addr) (n0_0 : Nat) (hb0_0 : LC x0.l_.length n0_0) (hs0_0 : SlA trules_token F0 a0_0 x0.l_) (hs0 : HS wb Fb w0 F0 ((sb bp0 (krules_parser x0 a0_0 n0_0) 100) :: Lf)) (r : (rules_bad ⊕ (rules_parser × Expr))) (h : rules_parser_expr_S N sR185 x0 = some r) :
  Calls Tryz.prog 145 ([(pt bp0 0)] : List Value).toArray w0 (BRetP wb Fb F0 Lf r (fun b => (.iface 158 (.agg (krules_bad b)))) fun a F' v L' => ∃ (aq0_0 : Option Addr) (nq0_0 : Nat) (aq1_2 : Option Addr) (nq1_2 : Nat), v = (.agg (kExpr a.2 aq1_2 nq1_2)) ∧ L' = (sb bp0 (krules_parser a.1 aq0_0 nq0_0) 100) :: Lf ∧ LC a.1.l_.length nq0_0 ∧ SlA trules_token F' aq0_0 a.1.l_ ∧ LC a.2.Kids.length nq1_2 ∧ SlA tExpr F' aq1_2 a.2.Kids) := by
 refine Go 9 Tryz.func145 ?_
 refine Sq (Rg [0] ?_)
 refine Al' 33 #[(vi 0), (vi 0), (.slice none ([] : List Expr).length 0)] hs0 (fun b21 w22 hs23 => ?_)
 refine Nss (Rg [0, 1, 2, 3, 4, 5, 6, 7] ?_)
 refine Vs 3 ?_
 refine RWP.makeMap (t := 198) (K := tStr) (T := tInt) (dst := (some 6)) (ty := 198) (g := none) (by kernel_rfl) rfl hs23 (fun b25 e26 w27 (hs28 : HS wb Fb w27 F0 (e26 :: (sb b21 #[(vi 0), (vi 0), (.slice none ([] : List Expr).length 0)] 33) :: (sb bp0 (krules_parser x0 a0_0 n0_0) 100) :: Lf)) hr29 => ?_)
 refine RWP.mapIns kl9 (ty := 0) (g := none) (mt := 198) (k := 9) (vt := 3) (m := (.tmp 6)) (x := (.const (.string ⟨([111, 114] : List UInt8).toArray⟩))) (y := (.const (vi 5))) (b := b25) (kx := ([111, 114] : List UInt8)) (u := 5) (kv := (.string ⟨(([111, 114] : List UInt8)).toArray⟩)) (v := (vi 5)) (K := tStr) (T := tInt) (by kernel_rfl) rfl rfl rfl rfl ⟨_, rfl, rfl⟩ ⟨_, rfl, rfl⟩ (by kernel_rfl) hs28 (q := 0) rfl hr29 (fun e30 w31 (hs32 : HS wb Fb w31 F0 (e30 :: (sb b21 #[(vi 0), (vi 0), (.slice none ([] : List Expr).length 0)] 33) :: (sb bp0 (krules_parser x0 a0_0 n0_0) 100) :: Lf)) hr33 => ?_)
 refine Vs 1 ?_
 obtain ⟨F1, hs34, le35, hm36⟩ : ∃ Fq, HS wb Fb w31 Fq ((sb b21 #[(vi 0), (vi 0), (.slice none ([] : List Expr).length 0)] 33) :: (sb bp0 (krules_parser x0 a0_0 n0_0) 100) :: Lf) ∧ Mem.le F0 Fq ∧ MpA tStr tInt Fq (some b25) (mput ([] : List ((List UInt8) × Int)) ([111, 114] : List UInt8) 5) := HS.freezeMap hs32 (i := 0) rfl hr33
 obtain ⟨r37, hr38, h39⟩ := bind_some h
 refine CP co_rules_parser_joinedBy (c_rules_parser_joinedBy N (hG.mono le35) bp0 (x0) a0_0 n0_0 hb0_0 (SlA.mono hs0_0 le35) 185 [(pt bp0 0)] ([] : List Value) (fun y => sR185 y) co_rules_parser_both (fun {_ _ _ _ _} hGe y ay_0 ny_0 hby_0 hsy_0 hs r h => hsR185 hGe bp0 y ay_0 ny_0 hby_0 hsy_0 hs r h) ((mput ([] : List ((List UInt8) × Int)) ([111, 114] : List UInt8) 5)) (some b25) hm36 hs34.pk1 _ hr38) ?_ ?_
 ·rintro r40 _ F2 w42 _ rfl hs43 le44 ⟨ar40_0_0, nr40_0_0, ar40_1_2, nr40_1_2, rfl, rfl, hbr40_0_0, hsr40_0_0, hbr40_1_2, hsr40_1_2⟩
  have h46 := sk_r h39
  refine St1 (kExpr r40.2 ar40_1_2 nr40_1_2) hs43 (fun w47 hs48 => ?_)
  refine Nt ?_
  refine Rt ?_
  obtain rfl := some_inj h46
  exact ⟨rfl, (.agg (kExpr r40.2 ar40_1_2 nr40_1_2)), res_of (l := [.cell 2 33]) (by kernel_rfl) (vs := [(.agg (kExpr r40.2 ar40_1_2 nr40_1_2))]) ⟨b21, 0, rfl, run_loadVar' (t := 33) (g := true) (s := 3) (by kernel_rfl) hs48.at1 rfl (by decide), trivial⟩, .inl ⟨_, F2, _, _, rfl, rfl, hs48.dr1, (le35.trans le44), ⟨ar40_0_0, nr40_0_0, ar40_1_2, nr40_1_2, rfl, rfl, hbr40_0_0, hsr40_0_0, hbr40_1_2, hsr40_1_2⟩⟩⟩
 ·rintro b49 F3 w50 rfl hs51 le52
  have h53 := sk_l h39
  refine thenQ_pan ?_
  obtain rfl := some_inj h53
  exact RePi hs51.dr0 (le35.trans le52)
end Go.Proofs.YtaihlcdkcampbaaGreatDoor
namespace Go.Proofs.YtaihlcdkcampbaaGreatDoor
open Go.Proofs
def rules_parser_both_S (N : Nat) (sR212 : rules_parser → Option (rules_bad ⊕ (rules_parser × Expr))) (x0 : rules_parser) : Option (rules_bad ⊕ (rules_parser × Expr)) :=
 ((rules_parser_joinedBy N x0 (fun y => sR212 y) (mput ([] : List ((List UInt8) × Int)) ([97, 110, 100] : List UInt8) 4)).bind fun r37 => sk r37 (fun b49 => some (.inl b49)) (fun r40 => some (.inr (r40.1, r40.2))))
theorem cS_rules_parser_both (N : Nat) (sR212 : rules_parser → Option (rules_bad ⊕ (rules_parser × Expr))) (hsR212 : Self212 sR212) {wb w0 : World} {Fb F0 : Mem} {Lf : Own} (hG : Glob F0) (bp0 : Nat) (x0 : rules_parser) (a0_0 : Option Addr) (n0_0 : Nat) (hb0_0 : LC x0.l_.length n0_0) (hs0_0 : SlA trules_token F0 a0_0 x0.l_) (hs0 : HS wb Fb w0 F0 ((sb bp0 (krules_parser x0 a0_0 n0_0) 100) :: Lf)) (r : (rules_bad ⊕ (rules_parser × Expr))) (h : rules_parser_both_S N sR212 x0 = some r) :
  Calls Tryz.prog 185 ([(pt bp0 0)] : List Value).toArray w0 (BRetP wb Fb F0 Lf r (fun b => (.iface 158 (.agg (krules_bad b)))) fun a F' v L' => ∃ (aq0_0 : Option Addr) (nq0_0 : Nat) (aq1_2 : Option Addr) (nq1_2 : Nat), v = (.agg (kExpr a.2 aq1_2 nq1_2)) ∧ L' = (sb bp0 (krules_parser a.1 aq0_0 nq0_0) 100) :: Lf ∧ LC a.1.l_.length nq0_0 ∧ SlA trules_token F' aq0_0 a.1.l_ ∧ LC a.2.Kids.length nq1_2 ∧ SlA tExpr F' aq1_2 a.2.Kids) := by
 refine Go 9 Tryz.func185 ?_
 refine Sq (Rg [0] ?_)
 refine Al' 33 #[(vi 0), (vi 0), (.slice none ([] : List Expr).length 0)] hs0 (fun b21 w22 hs23 => ?_)
 refine Nss (Rg [0, 1, 2, 3, 4, 5, 6, 7] ?_)
 refine Vs 3 ?_
 refine RWP.makeMap (t := 198) (K := tStr) (T := tInt) (dst := (some 6)) (ty := 198) (g := none) (by kernel_rfl) rfl hs23 (fun b25 e26 w27 (hs28 : HS wb Fb w27 F0 (e26 :: (sb b21 #[(vi 0), (vi 0), (.slice none ([] : List Expr).length 0)] 33) :: (sb bp0 (krules_parser x0 a0_0 n0_0) 100) :: Lf)) hr29 => ?_)
 refine RWP.mapIns kl9 (ty := 0) (g := none) (mt := 198) (k := 9) (vt := 3) (m := (.tmp 6)) (x := (.const (.string ⟨([97, 110, 100] : List UInt8).toArray⟩))) (y := (.const (vi 4))) (b := b25) (kx := ([97, 110, 100] : List UInt8)) (u := 4) (kv := (.string ⟨(([97, 110, 100] : List UInt8)).toArray⟩)) (v := (vi 4)) (K := tStr) (T := tInt) (by kernel_rfl) rfl rfl rfl rfl ⟨_, rfl, rfl⟩ ⟨_, rfl, rfl⟩ (by kernel_rfl) hs28 (q := 0) rfl hr29 (fun e30 w31 (hs32 : HS wb Fb w31 F0 (e30 :: (sb b21 #[(vi 0), (vi 0), (.slice none ([] : List Expr).length 0)] 33) :: (sb bp0 (krules_parser x0 a0_0 n0_0) 100) :: Lf)) hr33 => ?_)
 refine Vs 1 ?_
 obtain ⟨F1, hs34, le35, hm36⟩ : ∃ Fq, HS wb Fb w31 Fq ((sb b21 #[(vi 0), (vi 0), (.slice none ([] : List Expr).length 0)] 33) :: (sb bp0 (krules_parser x0 a0_0 n0_0) 100) :: Lf) ∧ Mem.le F0 Fq ∧ MpA tStr tInt Fq (some b25) (mput ([] : List ((List UInt8) × Int)) ([97, 110, 100] : List UInt8) 4) := HS.freezeMap hs32 (i := 0) rfl hr33
 obtain ⟨r37, hr38, h39⟩ := bind_some h
 refine CP co_rules_parser_joinedBy (c_rules_parser_joinedBy N (hG.mono le35) bp0 (x0) a0_0 n0_0 hb0_0 (SlA.mono hs0_0 le35) 212 [(pt bp0 0)] ([] : List Value) (fun y => sR212 y) co_rules_parser_deny (fun {_ _ _ _ _} hGe y ay_0 ny_0 hby_0 hsy_0 hs r h => hsR212 hGe bp0 y ay_0 ny_0 hby_0 hsy_0 hs r h) ((mput ([] : List ((List UInt8) × Int)) ([97, 110, 100] : List UInt8) 4)) (some b25) hm36 hs34.pk1 _ hr38) ?_ ?_
 ·rintro r40 _ F2 w42 _ rfl hs43 le44 ⟨ar40_0_0, nr40_0_0, ar40_1_2, nr40_1_2, rfl, rfl, hbr40_0_0, hsr40_0_0, hbr40_1_2, hsr40_1_2⟩
  have h46 := sk_r h39
  refine St1 (kExpr r40.2 ar40_1_2 nr40_1_2) hs43 (fun w47 hs48 => ?_)
  refine Nt ?_
  refine Rt ?_
  obtain rfl := some_inj h46
  exact ⟨rfl, (.agg (kExpr r40.2 ar40_1_2 nr40_1_2)), res_of (l := [.cell 2 33]) (by kernel_rfl) (vs := [(.agg (kExpr r40.2 ar40_1_2 nr40_1_2))]) ⟨b21, 0, rfl, run_loadVar' (t := 33) (g := true) (s := 3) (by kernel_rfl) hs48.at1 rfl (by decide), trivial⟩, .inl ⟨_, F2, _, _, rfl, rfl, hs48.dr1, (le35.trans le44), ⟨ar40_0_0, nr40_0_0, ar40_1_2, nr40_1_2, rfl, rfl, hbr40_0_0, hsr40_0_0, hbr40_1_2, hsr40_1_2⟩⟩⟩
 ·rintro b49 F3 w50 rfl hs51 le52
  have h53 := sk_l h39
  refine thenQ_pan ?_
  obtain rfl := some_inj h53
  exact RePi hs51.dr0 (le35.trans le52)
end Go.Proofs.YtaihlcdkcampbaaGreatDoor
namespace Go.Proofs.YtaihlcdkcampbaaGreatDoor
open Go.Proofs
def rules_parser_deny_S (N : Nat) (sR212 : rules_parser → Option (rules_bad ⊕ (rules_parser × Expr))) (sR226 : rules_parser → Option (rules_bad ⊕ (rules_parser × Expr))) (x0 : rules_parser) : Option (rules_bad ⊕ (rules_parser × Expr)) :=
 ((rules_parser_accept N x0 ([110, 111, 116] : List UInt8)).bind fun r24 => (bif r24.2 then ((sR212 r24.1).bind fun r34 => sk r34 (fun b55 => some (.inl b55)) (fun r37 => some (.inr (r37.1, ({ Op := 3, Value := 0, Kids := [r37.2] } : Expr))))) else ((sR226 r24.1).bind fun r61 => sk r61 (fun b73 => some (.inl b73)) (fun r64 => some (.inr (r64.1, r64.2))))))
theorem cS_rules_parser_deny (N : Nat) (sR212 : rules_parser → Option (rules_bad ⊕ (rules_parser × Expr))) (hsR212 : Self212 sR212) (sR226 : rules_parser → Option (rules_bad ⊕ (rules_parser × Expr))) (hsR226 : Self226 sR226) {wb w0 : World} {Fb F0 : Mem} {Lf : Own} (hG : Glob F0) (bp0 : Nat) (x0 : rules_parser) (a0_0 : Option Addr) (n0_0 : Nat) (hb0_0 : LC x0.l_.length n0_0) (hs0_0 : SlA trules_token F0 a0_0 x0.l_) (hs0 : HS wb Fb w0 F0 ((sb bp0 (krules_parser x0 a0_0 n0_0) 100) :: Lf)) (r : (rules_bad ⊕ (rules_parser × Expr))) (h : rules_parser_deny_S N sR212 sR226 x0 = some r) :
  Calls Tryz.prog 212 ([(pt bp0 0)] : List Value).toArray w0 (BRetP wb Fb F0 Lf r (fun b => (.iface 158 (.agg (krules_bad b)))) fun a F' v L' => ∃ (aq0_0 : Option Addr) (nq0_0 : Nat) (aq1_2 : Option Addr) (nq1_2 : Nat), v = (.agg (kExpr a.2 aq1_2 nq1_2)) ∧ L' = (sb bp0 (krules_parser a.1 aq0_0 nq0_0) 100) :: Lf ∧ LC a.1.l_.length nq0_0 ∧ SlA trules_token F' aq0_0 a.1.l_ ∧ LC a.2.Kids.length nq1_2 ∧ SlA tExpr F' aq1_2 a.2.Kids) := by
 refine Go 11 Tryz.func212 ?_
 refine Sq (Rg [0] ?_)
 refine Al' 33 #[(vi 0), (vi 0), (.slice none ([] : List Expr).length 0)] hs0 (fun b21 w22 hs23 => ?_)
 refine Nss ?_
 refine Sq (Rg [0, 1] ?_)
 refine Vs 1 ?_
 obtain ⟨r24, hr25, h26⟩ := bind_some h
 refine CB co_rules_parser_accept (c_rules_parser_accept N bp0 (x0) a0_0 n0_0 hb0_0 hs0_0 (([110, 111, 116] : List UInt8)) hs23.pk1 _ hr25) ?_
 rintro _ F1 w27 _ hs28 le29 ⟨ar24_0_0, nr24_0_0, rfl, rfl, hbr24_0_0, hsr24_0_0⟩
 refine Nt ?_
 refine Cd h26 (fun hb31 h32 => ?_) (fun hb31 h33 => ?_)
 ·refine Sq (Rg [0, 1, 2, 3, 4] ?_)
  refine Vs 1 ?_
  obtain ⟨r34, hr35, h36⟩ := bind_some h32
  refine CP co_rules_parser_deny (hsR212 (hG.mono le29) bp0 (r24.1) ar24_0_0 nr24_0_0 hbr24_0_0 hsr24_0_0 hs28 _ hr35) ?_ ?_
  ·rintro r37 _ F2 w39 _ rfl hs40 le41 ⟨ar37_0_0, nr37_0_0, ar37_1_2, nr37_1_2, rfl, rfl, hbr37_0_0, hsr37_0_0, hbr37_1_2, hsr37_1_2⟩
   have h43 := sk_r h36
   refine Bs 33 [(vi r37.2.Op), (vi r37.2.Value), (.slice ar37_1_2 r37.2.Kids.length nr37_1_2)] hs40 (fun b44 w45 hs46 => ?_)
   have hr48 : RowR tExpr 33 F2 (some ⟨b44, 0, none⟩) 1 [r37.2] (some b44, .cells ([(vi r37.2.Op), (vi r37.2.Value), (.slice ar37_1_2 r37.2.Kids.length nr37_1_2)] : List Value).toArray 33 (0, 0)) := RowR.lit ⟨(tExpr_mk ⟨ar37_1_2, nr37_1_2, rfl, hbr37_1_2, hsr37_1_2⟩), rfl⟩ (by simp)
   refine Vs 1 ?_
   refine St2 #[(vi 3), (vi 0), (.slice (some ⟨b44, 0, none⟩) [r37.2].length 1)] hs46 (fun w49 hs50 => ?_)
   refine Nt ?_
   refine Rt ?_
   refine thenQ_ret ?_
   have hb54 := RowR.bound hr48
   obtain ⟨F3, hs51, le52, hs53⟩ := hs50.fr0 hr48
   obtain rfl := some_inj h43
   exact ⟨rfl, (.agg #[(vi 3), (vi 0), (.slice (some ⟨b44, 0, none⟩) [r37.2].length 1)]), res_of (l := [.cell 2 33]) (by kernel_rfl) (vs := [(.agg #[(vi 3), (vi 0), (.slice (some ⟨b44, 0, none⟩) [r37.2].length 1)])]) ⟨b21, 0, rfl, run_loadVar' (t := 33) (g := true) (s := 3) (by kernel_rfl) hs51.at1 rfl (by decide), trivial⟩, .inl ⟨_, F3, _, _, rfl, rfl, hs51.dr1, ((le29.trans le41).trans le52), ⟨ar37_0_0, nr37_0_0, (some ⟨b44, 0, none⟩), 1, rfl, rfl, hbr37_0_0, (SlA.mono hsr37_0_0 le52), hb54, hs53⟩⟩⟩
  ·rintro b55 F4 w56 rfl hs57 le58
   have h59 := sk_l h36
   refine thenQ_pan ?_
   refine thenQ_pan ?_
   obtain rfl := some_inj h59
   exact RePi hs57.dr0 (le29.trans le58)
 ·refine Sc ?_
  refine thenQ_nrm ?_
  refine Sq (Rg [0, 1, 2] ?_)
  refine Vs 1 ?_
  obtain ⟨r61, hr62, h63⟩ := bind_some h33
  refine CP co_rules_parser_test (hsR226 (hG.mono le29) bp0 (r24.1) ar24_0_0 nr24_0_0 hbr24_0_0 hsr24_0_0 hs28 _ hr62) ?_ ?_
  ·rintro r64 _ F5 w66 _ rfl hs67 le68 ⟨ar64_0_0, nr64_0_0, ar64_1_2, nr64_1_2, rfl, rfl, hbr64_0_0, hsr64_0_0, hbr64_1_2, hsr64_1_2⟩
   have h70 := sk_r h63
   refine St1 (kExpr r64.2 ar64_1_2 nr64_1_2) hs67 (fun w71 hs72 => ?_)
   refine Nt ?_
   refine Rt ?_
   obtain rfl := some_inj h70
   exact ⟨rfl, (.agg (kExpr r64.2 ar64_1_2 nr64_1_2)), res_of (l := [.cell 2 33]) (by kernel_rfl) (vs := [(.agg (kExpr r64.2 ar64_1_2 nr64_1_2))]) ⟨b21, 0, rfl, run_loadVar' (t := 33) (g := true) (s := 3) (by kernel_rfl) hs72.at1 rfl (by decide), trivial⟩, .inl ⟨_, F5, _, _, rfl, rfl, hs72.dr1, (le29.trans le68), ⟨ar64_0_0, nr64_0_0, ar64_1_2, nr64_1_2, rfl, rfl, hbr64_0_0, hsr64_0_0, hbr64_1_2, hsr64_1_2⟩⟩⟩
  ·rintro b73 F6 w74 rfl hs75 le76
   have h77 := sk_l h63
   refine thenQ_pan ?_
   obtain rfl := some_inj h77
   exact RePi hs75.dr0 (le29.trans le76)
end Go.Proofs.YtaihlcdkcampbaaGreatDoor
namespace Go.Proofs.YtaihlcdkcampbaaGreatDoor
theorem accept_not {N : Nat} {p q : rules_parser} {t : List UInt8} (h : rules_parser_accept N p t = some (q, false)) : q = p := by
 unfold rules_parser_accept at h
 cases hp : rules_parser_peek N p t with
 | none => rw [hp] at h; cases h
 | some b =>
  rw [hp] at h
  cases b with
  | false => simp at h; exact h.symm
  | true =>
   simp only [Option.bind_some, Bool.not_true, cond_false] at h
   cases hs : sub p.l_ 1 (p.l_.length : Int) with
   | none => rw [hs] at h; cases h
   | some l => rw [hs] at h; simp at h
theorem peek_text {N : Nat} {p : rules_parser} {t : List UInt8} (h : rules_parser_peek N p t = some true) : ∃ x, idx p.l_ 0 = some x ∧ x.text_ = t := by
 unfold rules_parser_peek at h
 cases hi : idx p.l_ 0 with
 | none => rw [hi] at h; cases h
 | some x =>
  rw [hi] at h
  refine ⟨x, rfl, ?_⟩
  simp only [Option.bind_some] at h
  cases h2 : (x.kind_ == 2) <;> cases h3 : (x.kind_ == 3) <;> rw [h2] at h <;> try rw [h3] at h
  all_goals simp at h
  all_goals exact h
theorem peek_other {N : Nat} {p : rules_parser} {s t : List UInt8} (h : rules_parser_peek N p s = some true) (hne : s ≠ t) : rules_parser_peek N p t = some false := by
 obtain ⟨x, hx, hs⟩ := peek_text h
 unfold rules_parser_peek at h ⊢
 rw [hx] at h ⊢
 simp only [Option.bind_some] at h ⊢
 have hne' : (x.text_ == t) = false := by rw [hs]; simpa using hne
 rw [hne']
 cases h2 : (x.kind_ == 2) <;> cases h3 : (x.kind_ == 3) <;> simp
theorem accept_other {N : Nat} {p q : rules_parser} {s t : List UInt8} (h : rules_parser_accept N p s = some (q, true)) (hne : s ≠ t) : rules_parser_accept N p t = some (p, false) := by
 unfold rules_parser_accept at h ⊢
 cases hp : rules_parser_peek N p s with
 | none => rw [hp] at h; cases h
 | some b =>
  rw [hp] at h
  cases b with
  | false => simp at h
  | true => rw [peek_other hp hne]; rfl
theorem rules_test_swap {N : Nat} {p : rules_parser} {α : Type} {X6 X7 Z : rules_parser × Bool → Option α} {r : α}
  (h : ((rules_parser_accept N p ([61] : List UInt8)).bind fun a => (bif a.2 then X6 a else ((rules_parser_accept N a.1 ([60] : List UInt8)).bind fun b => (bif b.2 then X7 b else Z b)))) = some r) :
  ((rules_parser_accept N p ([60] : List UInt8)).bind fun a => (bif a.2 then X7 a else ((rules_parser_accept N a.1 ([61] : List UInt8)).bind fun b => (bif b.2 then X6 b else Z b)))) = some r := by
 cases ha : rules_parser_accept N p [61] with
 | none => rw [ha] at h; cases h
 | some a =>
  obtain ⟨q, b⟩ := a
  rw [ha] at h
  simp only [Option.bind_some] at h
  cases b with
  | true =>
   rw [accept_other ha (by decide)]
   simp only [cond_true] at h
   simp only [Option.bind_some, cond_false, ha, cond_true]; exact h
  | false =>
   obtain rfl := accept_not ha
   simp only [cond_false] at h
   cases hb : rules_parser_accept N q [60] with
   | none => rw [hb] at h; cases h
   | some b =>
    obtain ⟨q2, c⟩ := b
    rw [hb] at h
    simp only [Option.bind_some] at h ⊢
    cases c with
    | true => simpa using h
    | false =>
     obtain rfl := accept_not hb
     simp only [cond_false, ha, Option.bind_some] at h ⊢
     exact h
end Go.Proofs.YtaihlcdkcampbaaGreatDoor
namespace Go.Proofs.YtaihlcdkcampbaaGreatDoor
open Go.Proofs
def rules_parser_test_S (N : Nat) (sR233 : rules_parser → Option (rules_bad ⊕ (rules_parser × Expr))) (x0 : rules_parser) : Option (rules_bad ⊕ (rules_parser × Expr)) :=
 ((sR233 x0).bind fun r24 => sk r24 (fun b291 => some (.inl b291)) (fun r27 => ((rules_parser_accept N r27.1 ([61] : List UInt8)).bind fun r51 => (bif r51.2 then (((sR233 r51.1).bind fun r73 => sk r73 (fun b90 => some (.inl b90)) (fun r76 => some (.inr (6, [r27.2, r76.2], r76.1.l_, r76.1.open_)))).bind fun j67 => sk j67 (fun b101 => some (.inl b101)) (fun J72 => some (.inr (({ l_ := J72.2.2.1, open_ := J72.2.2.2 } : rules_parser), ({ Op := J72.1, Value := 0, Kids := J72.2.1 } : Expr))))) else ((rules_parser_accept N r51.1 ([60] : List UInt8)).bind fun r109 => (bif r109.2 then (((sR233 r109.1).bind fun r131 => sk r131 (fun b148 => some (.inl b148)) (fun r134 => some (.inr (7, [r27.2, r134.2], r134.1.l_, r134.1.open_)))).bind fun j125 => sk j125 (fun b159 => some (.inl b159)) (fun J130 => some (.inr (({ l_ := J130.2.2.1, open_ := J130.2.2.2 } : rules_parser), ({ Op := J130.1, Value := 0, Kids := J130.2.1 } : Expr))))) else some (.inr (r109.1, r27.2))))))))
theorem cS_rules_parser_test (N : Nat) (sR233 : rules_parser → Option (rules_bad ⊕ (rules_parser × Expr))) (hsR233 : Self233 sR233) {wb w0 : World} {Fb F0 : Mem} {Lf : Own} (hG : Glob F0) (bp0 : Nat) (x0 : rules_parser) (a0_0 : Option Addr) (n0_0 : Nat) (hb0_0 : LC x0.l_.length n0_0) (hs0_0 : SlA trules_token F0 a0_0 x0.l_) (hs0 : HS wb Fb w0 F0 ((sb bp0 (krules_parser x0 a0_0 n0_0) 100) :: Lf)) (r : (rules_bad ⊕ (rules_parser × Expr))) (h : rules_parser_test_S N sR233 x0 = some r) :
  Calls Tryz.prog 226 ([(pt bp0 0)] : List Value).toArray w0 (BRetP wb Fb F0 Lf r (fun b => (.iface 158 (.agg (krules_bad b)))) fun a F' v L' => ∃ (aq0_0 : Option Addr) (nq0_0 : Nat) (aq1_2 : Option Addr) (nq1_2 : Nat), v = (.agg (kExpr a.2 aq1_2 nq1_2)) ∧ L' = (sb bp0 (krules_parser a.1 aq0_0 nq0_0) 100) :: Lf ∧ LC a.1.l_.length nq0_0 ∧ SlA trules_token F' aq0_0 a.1.l_ ∧ LC a.2.Kids.length nq1_2 ∧ SlA tExpr F' aq1_2 a.2.Kids) := by
 refine Go 26 Tryz.func226 ?_
 refine Sq (Rg [0] ?_)
 refine Al' 33 #[(vi 0), (vi 0), (.slice none ([] : List Expr).length 0)] hs0 (fun b21 w22 hs23 => ?_)
 refine Nss (Rg [0, 1, 2, 3] ?_)
 refine Vs 1 ?_
 obtain ⟨r24, hr25, h26⟩ := bind_some h
 refine CP co_rules_parser_sum (hsR233 hG bp0 (x0) a0_0 n0_0 hb0_0 hs0_0 hs23.pk1 _ hr25) ?_ ?_
 ·rintro r27 _ F1 w29 _ rfl hs30 le31 ⟨ar27_0_0, nr27_0_0, ar27_1_2, nr27_1_2, rfl, rfl, hbr27_0_0, hsr27_0_0, hbr27_1_2, hsr27_1_2⟩
  have h33 := sk_r h26
  refine Al' 33 #[(vi 0), (vi 0), (.slice none ([] : List Expr).length 0)] hs30 (fun b34 w35 hs36 => ?_)
  refine St0 (kExpr r27.2 ar27_1_2 nr27_1_2) hs36 (fun w37 hs38 => ?_)
  refine Nss ?_
  refine Sq (Rg [0, 1, 2, 3, 4] ?_)
  refine RWP.litMap (dst := (some 8)) (ty := 198) (g := none) (by kernel_rfl) rfl (t := 198) hs38 (fun b39 w40 (hs41 : HS wb Fb w40 F1 ((some b39, (.map #[] 0)) :: (sb b34 (kExpr r27.2 ar27_1_2 nr27_1_2) 33) :: (sb bp0 (krules_parser r27.1 ar27_0_0 nr27_0_0) 100) :: (sb b21 #[(vi 0), (vi 0), (.slice none ([] : List Expr).length 0)] 33) :: Lf)) => ?_)
  refine RWP.litIns (d := .string) (k := 9) (vt := 3) (ty := 0) (g := none) (mt := 198) (m := (.tmp 8)) (x := (.const (.string ⟨([61] : List UInt8).toArray⟩))) (y := (.const (vi 6))) (b := b39) (q := 0) (kv := (.string ⟨(([61] : List UInt8)).toArray⟩)) (v := (vi 6)) (by kernel_rfl) rfl rfl rfl rfl (by kernel_rfl) (by kernel_rfl) trivial (by kernel_rfl) hs41 rfl rfl (fun w42 (hs43 : HS wb Fb w42 F1 ((some b39, (.map #[⟨(.string ⟨(([61] : List UInt8)).toArray⟩), (vi 6), 0⟩] 1)) :: (sb b34 (kExpr r27.2 ar27_1_2 nr27_1_2) 33) :: (sb bp0 (krules_parser r27.1 ar27_0_0 nr27_0_0) 100) :: (sb b21 #[(vi 0), (vi 0), (.slice none ([] : List Expr).length 0)] 33) :: Lf)) => ?_)
  refine RWP.litIns (d := .string) (k := 9) (vt := 3) (ty := 0) (g := none) (mt := 198) (m := (.tmp 8)) (x := (.const (.string ⟨([60] : List UInt8).toArray⟩))) (y := (.const (vi 7))) (b := b39) (q := 0) (kv := (.string ⟨(([60] : List UInt8)).toArray⟩)) (v := (vi 7)) (by kernel_rfl) rfl rfl rfl rfl (by kernel_rfl) (by kernel_rfl) trivial (by kernel_rfl) hs43 rfl rfl (fun w44 (hs45 : HS wb Fb w44 F1 ((some b39, (.map #[⟨(.string ⟨(([61] : List UInt8)).toArray⟩), (vi 6), 0⟩, ⟨(.string ⟨(([60] : List UInt8)).toArray⟩), (vi 7), 1⟩] 2)) :: (sb b34 (kExpr r27.2 ar27_1_2 nr27_1_2) 33) :: (sb bp0 (krules_parser r27.1 ar27_0_0 nr27_0_0) 100) :: (sb b21 #[(vi 0), (vi 0), (.slice none ([] : List Expr).length 0)] 33) :: Lf)) => ?_)
  refine Vs 1 ?_
  refine RWP.litRange (k := 9) (vt := 3) (dst := (some 10)) (ty := 0) (g := none) (by kernel_rfl) rfl (mt := 198) (x := (.tmp 9)) (b := b39) (q := 0) rfl (by kernel_rfl) hs45 rfl (fun b46 w47 (hs48 : HS wb Fb w47 F1 ((some b46, (.mapIter (some b39) 2 #[] 2)) :: (some b39, (.map #[⟨(.string ⟨(([61] : List UInt8)).toArray⟩), (vi 6), 0⟩, ⟨(.string ⟨(([60] : List UInt8)).toArray⟩), (vi 7), 1⟩] 2)) :: (sb b34 (kExpr r27.2 ar27_1_2 nr27_1_2) 33) :: (sb bp0 (krules_parser r27.1 ar27_0_0 nr27_0_0) 100) :: (sb b21 #[(vi 0), (vi 0), (.slice none ([] : List Expr).length 0)] 33) :: Lf)) => ?_)
  refine Nt ?_
  refine Bk ?_
  refine CWP.unroll (by kernel_rfl) 4 ?_
  refine URL.step ?_
  refine Sq (Rg [0, 1] ?_)
  refine RWP.litNext2  (e := ⟨(.string ⟨(([61] : List UInt8)).toArray⟩), (vi 6), 0⟩) (e2 := ⟨(.string ⟨(([60] : List UInt8)).toArray⟩), (vi 7), 1⟩) (dst := (some 11)) (ty := 0) (g := none) (by kernel_rfl) rfl (x := (.tmp 10)) (r := b46) (ki := 0) (km := 1) rfl hs48 rfl rfl (by kernel_rfl) (by kernel_rfl) ?_ ?_
  ·rintro w49 (hs50 : HS wb Fb w49 F1 ((some b46, (.mapIter (some b39) 2 #[0] 2)) :: (some b39, (.map #[⟨(.string ⟨(([61] : List UInt8)).toArray⟩), (vi 6), 0⟩, ⟨(.string ⟨(([60] : List UInt8)).toArray⟩), (vi 7), 1⟩] 2)) :: (sb b34 (kExpr r27.2 ar27_1_2 nr27_1_2) 33) :: (sb bp0 (krules_parser r27.1 ar27_0_0 nr27_0_0) 100) :: (sb b21 #[(vi 0), (vi 0), (.slice none ([] : List Expr).length 0)] 33) :: Lf))
   refine Vs 1 ?_
   refine Nss ?_
   refine C1 (rfl : true = true) ?_
   refine Sc ?_
   refine thenQ_nrm ?_
   refine Bk ?_
   refine Sq (Rg [0, 1, 2, 3, 4] ?_)
   refine V 13 0 (run_litEntry (x := (.tmp 10)) (en := ⟨(.string ⟨(([61] : List UInt8)).toArray⟩), (vi 6), 0⟩) rfl (hs50.ownAt (k := 0) rfl) (hs50.ownAt (k := 1) rfl) rfl rfl) ?_
   refine Vs 4 ?_
   refine Nss (Rg [0, 1, 2] ?_)
   refine Vs 2 ?_
   obtain ⟨r51, hr52, h53⟩ := bind_some h33
   refine CB co_rules_parser_accept (c_rules_parser_accept N bp0 (r27.1) ar27_0_0 nr27_0_0 hbr27_0_0 hsr27_0_0 (([61] : List UInt8)) hs50.pk4.pk3.pk3.pk3.pk4 _ hr52) ?_
   rintro _ F2 w54 _ hs55 le56 ⟨ar51_0_0, nr51_0_0, rfl, rfl, hbr51_0_0, hsr51_0_0⟩
   refine Nt ?_
   refine Cd h53 (fun hb58 h59 => ?_) (fun hb58 h60 => ?_)
   ·refine Sq ?_
    obtain ⟨j67, hj70, h71⟩ := bind_some h59
    refine RDP 6 7 [(some b46, (.mapIter (some b39) 2 #[0] 2)), (some b39, (.map #[⟨(.string ⟨(([61] : List UInt8)).toArray⟩), (vi 6), 0⟩, ⟨(.string ⟨(([60] : List UInt8)).toArray⟩), (vi 7), 1⟩] 2)), (sb b34 (kExpr r27.2 ar27_1_2 nr27_1_2) 33)] [(sb b21 #[(vi 0), (vi 0), (.slice none ([] : List Expr).length 0)] 33)] hs55 (fun c d w => d = [] ∧ ∃ (b : rules_bad) (Fp : Mem), j67 = .inl b ∧ c = [{ v := (.iface 158 (.agg (krules_bad b))), recovered := false }] ∧ HS wb Fb w Fp Lf ∧ Mem.le F2 Fp) (fun f w => ∃ (J72 : (Int × List Expr × List rules_token × Int)), j67 = .inr J72 ∧ ∃ (F3 : Mem) (aj67_1 : Option Addr) (nj67_1 : Nat) (ej67_1 : Option Nat × Obj) (aj67_2 : Option Addr) (nj67_2 : Nat), HS wb Fb w F3 (ej67_1 :: (sb bp0 #[(.slice aj67_2 J72.2.2.1.length nj67_2), (vi J72.2.2.2)] 100) :: (sb b21 #[(vi J72.1), (vi 0), (.slice aj67_1 J72.2.1.length nj67_1)] 33) :: Lf) ∧ Mem.le F2 F3 ∧ FI f [] [(2, (pt b21 0))] ∧ RowR tExpr 33 F3 aj67_1 nj67_1 J72.2.1 ej67_1 ∧ LC J72.2.2.1.length nj67_2 ∧ SlA trules_token F3 aj67_2 J72.2.2.1) (fun wd61 hw62 => ?_) ?_ ?_
    ·refine Dv [0] ?_
     refine Dl 1 (fun _ hq => (hq.1.2 2 _ _ rfl)) ?_
     refine Dv [2] ?_
     refine D1 3 ?_
     obtain ⟨r73, hr74, h75⟩ := bind_some hj70
     refine DCP co_rules_parser_sum (hsR233 (hG.mono (le31.trans le56)) bp0 (r51.1) ar51_0_0 nr51_0_0 hbr51_0_0 hsr51_0_0 hw62 _ hr74) ?_ ?_
     ·rintro r76 _ F4 w78 _ rfl hs79 le80 ⟨ar76_0_0, nr76_0_0, ar76_1_2, nr76_1_2, rfl, rfl, hbr76_0_0, hsr76_0_0, hbr76_1_2, hsr76_1_2⟩
      have h82 := sk_r h75
      refine ⟨dz_of hs79 le80 (by simp) (fun _ => by simp), ?_⟩
      refine D1 4 ?_
      refine DBs 33 [(vi r27.2.Op), (vi r27.2.Value), (.slice ar27_1_2 r27.2.Kids.length nr27_1_2), (vi r76.2.Op), (vi r76.2.Value), (.slice ar76_1_2 r76.2.Kids.length nr76_1_2)] hs79 le80 (fun b83 w84 hs85 => ?_)
      have hr87 : RowR tExpr 33 F4 (some ⟨b83, 0, none⟩) 2 [r27.2, r76.2] (some b83, .cells ([(vi r27.2.Op), (vi r27.2.Value), (.slice ar27_1_2 r27.2.Kids.length nr27_1_2), (vi r76.2.Op), (vi r76.2.Value), (.slice ar76_1_2 r76.2.Kids.length nr76_1_2)] : List Value).toArray 33 (0, 0)) := RowR.lit ⟨(tExpr_mk ⟨ar27_1_2, nr27_1_2, rfl, hbr27_1_2, (SlA.mono hsr27_1_2 (le56.trans le80))⟩), ⟨(tExpr_mk ⟨ar76_1_2, nr76_1_2, rfl, hbr76_1_2, hsr76_1_2⟩), rfl⟩⟩ (by simp)
      refine Dv [5] ?_
      refine D1 6 ?_
      refine DSt5 #[(vi 6), (vi 0), (.slice (some ⟨b83, 0, none⟩) [r27.2, r76.2].length 2)] hs85 le80 (fun w88 hs89 => ?_)
      obtain rfl := some_inj h82
      exact DWP.done (by kernel_rfl) ⟨_, rfl, F4, (some ⟨b83, 0, none⟩), 2, (some b83, .cells ([(vi r27.2.Op), (vi r27.2.Value), (.slice ar27_1_2 r27.2.Kids.length nr27_1_2), (vi r76.2.Op), (vi r76.2.Value), (.slice ar76_1_2 r76.2.Kids.length nr76_1_2)] : List Value).toArray 33 (0, 0)), ar76_0_0, nr76_0_0, hs89.dr2.dr2.dr2, le80, fI, hr87, hbr76_0_0, hsr76_0_0⟩
     ·rintro b90 F5 w91 rfl hs92 le93
      have h94 := sk_l h75
      obtain rfl := some_inj h94
      exact ⟨rfl, _, _, rfl, rfl, hs92.dr0.dr0.dr0.dr0, le93⟩
    ·rintro f w63 ⟨J72, rfl, F3, aj67_1, nj67_1, ej67_1, aj67_2, nj67_2, hs64, le65, ⟨_, rfl⟩, hrj67_1, hbj67_2, hsj67_2⟩
     have h96 := sk_r h71
     refine thenQ_nrm ?_
     refine Rt ?_
     refine blockQ_ret ?_
     refine thenQ_ret ?_
     refine blockQ_ret ?_
     refine thenQ_ret ?_
     have hb100 := RowR.bound hrj67_1
     obtain ⟨F6, hs97, le98, hs99⟩ := hs64.fr0 hrj67_1
     obtain rfl := some_inj h96
     exact ⟨rfl, (.agg #[(vi J72.1), (vi 0), (.slice aj67_1 J72.2.1.length nj67_1)]), res_of (l := [.cell 2 33]) (by kernel_rfl) (vs := [(.agg #[(vi J72.1), (vi 0), (.slice aj67_1 J72.2.1.length nj67_1)])]) ⟨b21, 0, rfl, run_loadVar' (t := 33) (g := true) (s := 3) (by kernel_rfl) hs97.at1 rfl (by decide), trivial⟩, .inl ⟨_, F6, _, _, rfl, rfl, hs97.dr1, (((le31.trans le56).trans le65).trans le98), ⟨aj67_2, nj67_2, aj67_1, nj67_1, rfl, rfl, hbj67_2, (SlA.mono hsj67_2 le98), hb100, hs99⟩⟩⟩
    ·rintro c f w102 ⟨hd105, b101, F7, rfl, rfl, hs103, le104⟩
     have h106 := sk_l h71
     refine thenQ_pan ?_
     refine blockQ_pan ?_
     refine thenQ_pan ?_
     refine blockQ_pan ?_
     refine thenQ_pan ?_
     obtain rfl := some_inj h106
     exact ⟨hd105, .inr ⟨_, F7, rfl, rfl, hs103, ((le31.trans le56).trans le104)⟩⟩
   ·refine Sc ?_
    refine blockQ_nrm ?_
    refine thenQ_nrm ?_
    refine URL.step ?_
    refine Sq (Rg [0, 1] ?_)
    refine RWP.litNext1  (e := ⟨(.string ⟨(([60] : List UInt8)).toArray⟩), (vi 7), 1⟩) (dst := (some 11)) (ty := 0) (g := none) (by kernel_rfl) rfl (x := (.tmp 10)) (r := b46) (ki := 1) (km := 2) rfl hs55 rfl rfl (by kernel_rfl) (by kernel_rfl) ?_
    ·rintro w107 (hs108 : HS wb Fb w107 F2 ((sb bp0 (krules_parser r51.1 ar51_0_0 nr51_0_0) 100) :: (some b46, (.mapIter (some b39) 2 #[0, 1] 2)) :: (some b39, (.map #[⟨(.string ⟨(([61] : List UInt8)).toArray⟩), (vi 6), 0⟩, ⟨(.string ⟨(([60] : List UInt8)).toArray⟩), (vi 7), 1⟩] 2)) :: (sb b34 (kExpr r27.2 ar27_1_2 nr27_1_2) 33) :: (sb b21 #[(vi 0), (vi 0), (.slice none ([] : List Expr).length 0)] 33) :: Lf))
     refine Vs 1 ?_
     refine Nss ?_
     refine C1 (rfl : true = true) ?_
     refine Sc ?_
     refine thenQ_nrm ?_
     refine Bk ?_
     refine Sq (Rg [0, 1, 2, 3, 4] ?_)
     refine V 13 0 (run_litEntry (x := (.tmp 10)) (en := ⟨(.string ⟨(([60] : List UInt8)).toArray⟩), (vi 7), 1⟩) rfl (hs108.ownAt (k := 1) rfl) (hs108.ownAt (k := 2) rfl) rfl rfl) ?_
     refine Vs 4 ?_
     refine Nss (Rg [0, 1, 2] ?_)
     refine Vs 2 ?_
     obtain ⟨r109, hr110, h111⟩ := bind_some h60
     refine CB co_rules_parser_accept (c_rules_parser_accept N bp0 (r51.1) ar51_0_0 nr51_0_0 hbr51_0_0 hsr51_0_0 (([60] : List UInt8)) hs108 _ hr110) ?_
     rintro _ F8 w112 _ hs113 le114 ⟨ar109_0_0, nr109_0_0, rfl, rfl, hbr109_0_0, hsr109_0_0⟩
     refine Nt ?_
     refine Cd h111 (fun hb116 h117 => ?_) (fun hb116 h118 => ?_)
     ·refine Sq ?_
      obtain ⟨j125, hj128, h129⟩ := bind_some h117
      refine RDP 6 7 [(some b46, (.mapIter (some b39) 2 #[0, 1] 2)), (some b39, (.map #[⟨(.string ⟨(([61] : List UInt8)).toArray⟩), (vi 6), 0⟩, ⟨(.string ⟨(([60] : List UInt8)).toArray⟩), (vi 7), 1⟩] 2)), (sb b34 (kExpr r27.2 ar27_1_2 nr27_1_2) 33)] [(sb b21 #[(vi 0), (vi 0), (.slice none ([] : List Expr).length 0)] 33)] hs113 (fun c d w => d = [] ∧ ∃ (b : rules_bad) (Fp : Mem), j125 = .inl b ∧ c = [{ v := (.iface 158 (.agg (krules_bad b))), recovered := false }] ∧ HS wb Fb w Fp Lf ∧ Mem.le F8 Fp) (fun f w => ∃ (J130 : (Int × List Expr × List rules_token × Int)), j125 = .inr J130 ∧ ∃ (F9 : Mem) (aj125_1 : Option Addr) (nj125_1 : Nat) (ej125_1 : Option Nat × Obj) (aj125_2 : Option Addr) (nj125_2 : Nat), HS wb Fb w F9 (ej125_1 :: (sb bp0 #[(.slice aj125_2 J130.2.2.1.length nj125_2), (vi J130.2.2.2)] 100) :: (sb b21 #[(vi J130.1), (vi 0), (.slice aj125_1 J130.2.1.length nj125_1)] 33) :: Lf) ∧ Mem.le F8 F9 ∧ FI f [] [(2, (pt b21 0))] ∧ RowR tExpr 33 F9 aj125_1 nj125_1 J130.2.1 ej125_1 ∧ LC J130.2.2.1.length nj125_2 ∧ SlA trules_token F9 aj125_2 J130.2.2.1) (fun wd119 hw120 => ?_) ?_ ?_
      ·refine Dv [0] ?_
       refine Dl 1 (fun _ hq => (hq.1.2 2 _ _ rfl)) ?_
       refine Dv [2] ?_
       refine D1 3 ?_
       obtain ⟨r131, hr132, h133⟩ := bind_some hj128
       refine DCP co_rules_parser_sum (hsR233 (hG.mono ((le31.trans le56).trans le114)) bp0 (r109.1) ar109_0_0 nr109_0_0 hbr109_0_0 hsr109_0_0 hw120 _ hr132) ?_ ?_
       ·rintro r134 _ F10 w136 _ rfl hs137 le138 ⟨ar134_0_0, nr134_0_0, ar134_1_2, nr134_1_2, rfl, rfl, hbr134_0_0, hsr134_0_0, hbr134_1_2, hsr134_1_2⟩
        have h140 := sk_r h133
        refine ⟨dz_of hs137 le138 (by simp) (fun _ => by simp), ?_⟩
        refine D1 4 ?_
        refine DBs 33 [(vi r27.2.Op), (vi r27.2.Value), (.slice ar27_1_2 r27.2.Kids.length nr27_1_2), (vi r134.2.Op), (vi r134.2.Value), (.slice ar134_1_2 r134.2.Kids.length nr134_1_2)] hs137 le138 (fun b141 w142 hs143 => ?_)
        have hr145 : RowR tExpr 33 F10 (some ⟨b141, 0, none⟩) 2 [r27.2, r134.2] (some b141, .cells ([(vi r27.2.Op), (vi r27.2.Value), (.slice ar27_1_2 r27.2.Kids.length nr27_1_2), (vi r134.2.Op), (vi r134.2.Value), (.slice ar134_1_2 r134.2.Kids.length nr134_1_2)] : List Value).toArray 33 (0, 0)) := RowR.lit ⟨(tExpr_mk ⟨ar27_1_2, nr27_1_2, rfl, hbr27_1_2, (SlA.mono hsr27_1_2 ((le56.trans le114).trans le138))⟩), ⟨(tExpr_mk ⟨ar134_1_2, nr134_1_2, rfl, hbr134_1_2, hsr134_1_2⟩), rfl⟩⟩ (by simp)
        refine Dv [5] ?_
        refine D1 6 ?_
        refine DSt5 #[(vi 7), (vi 0), (.slice (some ⟨b141, 0, none⟩) [r27.2, r134.2].length 2)] hs143 le138 (fun w146 hs147 => ?_)
        obtain rfl := some_inj h140
        exact DWP.done (by kernel_rfl) ⟨_, rfl, F10, (some ⟨b141, 0, none⟩), 2, (some b141, .cells ([(vi r27.2.Op), (vi r27.2.Value), (.slice ar27_1_2 r27.2.Kids.length nr27_1_2), (vi r134.2.Op), (vi r134.2.Value), (.slice ar134_1_2 r134.2.Kids.length nr134_1_2)] : List Value).toArray 33 (0, 0)), ar134_0_0, nr134_0_0, hs147.dr2.dr2.dr2, le138, fI, hr145, hbr134_0_0, hsr134_0_0⟩
       ·rintro b148 F11 w149 rfl hs150 le151
        have h152 := sk_l h133
        obtain rfl := some_inj h152
        exact ⟨rfl, _, _, rfl, rfl, hs150.dr0.dr0.dr0.dr0, le151⟩
      ·rintro f w121 ⟨J130, rfl, F9, aj125_1, nj125_1, ej125_1, aj125_2, nj125_2, hs122, le123, ⟨_, rfl⟩, hrj125_1, hbj125_2, hsj125_2⟩
       have h154 := sk_r h129
       refine thenQ_nrm ?_
       refine Rt ?_
       refine blockQ_ret ?_
       refine thenQ_ret ?_
       refine blockQ_ret ?_
       refine thenQ_ret ?_
       have hb158 := RowR.bound hrj125_1
       obtain ⟨F12, hs155, le156, hs157⟩ := hs122.fr0 hrj125_1
       obtain rfl := some_inj h154
       exact ⟨rfl, (.agg #[(vi J130.1), (vi 0), (.slice aj125_1 J130.2.1.length nj125_1)]), res_of (l := [.cell 2 33]) (by kernel_rfl) (vs := [(.agg #[(vi J130.1), (vi 0), (.slice aj125_1 J130.2.1.length nj125_1)])]) ⟨b21, 0, rfl, run_loadVar' (t := 33) (g := true) (s := 3) (by kernel_rfl) hs155.at1 rfl (by decide), trivial⟩, .inl ⟨_, F12, _, _, rfl, rfl, hs155.dr1, ((((le31.trans le56).trans le114).trans le123).trans le156), ⟨aj125_2, nj125_2, aj125_1, nj125_1, rfl, rfl, hbj125_2, (SlA.mono hsj125_2 le156), hb158, hs157⟩⟩⟩
      ·rintro c f w160 ⟨hd163, b159, F13, rfl, rfl, hs161, le162⟩
       have h164 := sk_l h129
       refine thenQ_pan ?_
       refine blockQ_pan ?_
       refine thenQ_pan ?_
       refine blockQ_pan ?_
       refine thenQ_pan ?_
       obtain rfl := some_inj h164
       exact ⟨hd163, .inr ⟨_, F13, rfl, rfl, hs161, (((le31.trans le56).trans le114).trans le162)⟩⟩
     ·refine Sc ?_
      refine blockQ_nrm ?_
      refine thenQ_nrm ?_
      refine URL.step ?_
      refine Sq (Rg [0, 1] ?_)
      refine RWP.litNext0  (dst := (some 11)) (ty := 0) (g := none) (by kernel_rfl) rfl (x := (.tmp 10)) (r := b46) (ki := 1) (km := 2) rfl hs113 rfl rfl (by kernel_rfl) (by kernel_rfl) ?_
      ·rintro w165 (hs166 : HS wb Fb w165 F8 ((sb bp0 (krules_parser r109.1 ar109_0_0 nr109_0_0) 100) :: (some b46, (.mapIter (some b39) 2 #[0, 1] 2)) :: (some b39, (.map #[⟨(.string ⟨(([61] : List UInt8)).toArray⟩), (vi 6), 0⟩, ⟨(.string ⟨(([60] : List UInt8)).toArray⟩), (vi 7), 1⟩] 2)) :: (sb b34 (kExpr r27.2 ar27_1_2 nr27_1_2) 33) :: (sb b21 #[(vi 0), (vi 0), (.slice none ([] : List Expr).length 0)] 33) :: Lf))
       refine Vs 1 ?_
       refine Nss ?_
       refine C0 (rfl : false = false) ?_
       refine Ex ?_
       refine thenQ_ex ?_
       refine thenQ_ex ?_
       refine blockQ_hit rfl ?_
       refine thenQ_nrm ?_
       refine Sq (Rg [0, 1] ?_)
       refine Ld hs166.at3 ?_
       refine St4 (kExpr r27.2 ar27_1_2 nr27_1_2) hs166 (fun w167 hs168 => ?_)
       refine Nt ?_
       refine Rt ?_
       obtain rfl := some_inj h118
       exact ⟨rfl, (.agg (kExpr r27.2 ar27_1_2 nr27_1_2)), res_of (l := [.cell 2 33]) (by kernel_rfl) (vs := [(.agg (kExpr r27.2 ar27_1_2 nr27_1_2))]) ⟨b21, 0, rfl, run_loadVar' (t := 33) (g := true) (s := 3) (by kernel_rfl) hs168.at4 rfl (by decide), trivial⟩, .inl ⟨_, F8, _, _, rfl, rfl, hs168.dr1.dr1.dr1.dr1, ((le31.trans le56).trans le114), ⟨ar109_0_0, nr109_0_0, ar27_1_2, nr27_1_2, rfl, rfl, hbr109_0_0, hsr109_0_0, hbr27_1_2, (SlA.mono hsr27_1_2 (le56.trans le114))⟩⟩⟩
  ·rintro w169 (hs170 : HS wb Fb w169 F1 ((some b46, (.mapIter (some b39) 2 #[1] 2)) :: (some b39, (.map #[⟨(.string ⟨(([61] : List UInt8)).toArray⟩), (vi 6), 0⟩, ⟨(.string ⟨(([60] : List UInt8)).toArray⟩), (vi 7), 1⟩] 2)) :: (sb b34 (kExpr r27.2 ar27_1_2 nr27_1_2) 33) :: (sb bp0 (krules_parser r27.1 ar27_0_0 nr27_0_0) 100) :: (sb b21 #[(vi 0), (vi 0), (.slice none ([] : List Expr).length 0)] 33) :: Lf))
   have h171 := rules_test_swap h33
   refine Vs 1 ?_
   refine Nss ?_
   refine C1 (rfl : true = true) ?_
   refine Sc ?_
   refine thenQ_nrm ?_
   refine Bk ?_
   refine Sq (Rg [0, 1, 2, 3, 4] ?_)
   refine V 13 0 (run_litEntry (x := (.tmp 10)) (en := ⟨(.string ⟨(([60] : List UInt8)).toArray⟩), (vi 7), 1⟩) rfl (hs170.ownAt (k := 0) rfl) (hs170.ownAt (k := 1) rfl) rfl rfl) ?_
   refine Vs 4 ?_
   refine Nss (Rg [0, 1, 2] ?_)
   refine Vs 2 ?_
   have hs172 := hs170.pk4.pk3.pk3.pk3.pk4
   obtain ⟨r173, hr174, h175⟩ := bind_some h171
   refine CB co_rules_parser_accept (c_rules_parser_accept N bp0 (r27.1) ar27_0_0 nr27_0_0 hbr27_0_0 hsr27_0_0 (([60] : List UInt8)) hs172 _ hr174) ?_
   rintro _ F14 w176 _ hs177 le178 ⟨ar173_0_0, nr173_0_0, rfl, rfl, hbr173_0_0, hsr173_0_0⟩
   refine Nt ?_
   refine Cd h175 (fun hb180 h181 => ?_) (fun hb180 h182 => ?_)
   ·refine Sq ?_
    obtain ⟨j189, hj192, h193⟩ := bind_some h181
    refine RDP 6 7 [(some b46, (.mapIter (some b39) 2 #[1] 2)), (some b39, (.map #[⟨(.string ⟨(([61] : List UInt8)).toArray⟩), (vi 6), 0⟩, ⟨(.string ⟨(([60] : List UInt8)).toArray⟩), (vi 7), 1⟩] 2)), (sb b34 (kExpr r27.2 ar27_1_2 nr27_1_2) 33)] [(sb b21 #[(vi 0), (vi 0), (.slice none ([] : List Expr).length 0)] 33)] hs177 (fun c d w => d = [] ∧ ∃ (b : rules_bad) (Fp : Mem), j189 = .inl b ∧ c = [{ v := (.iface 158 (.agg (krules_bad b))), recovered := false }] ∧ HS wb Fb w Fp Lf ∧ Mem.le F14 Fp) (fun f w => ∃ (J194 : (Int × List Expr × List rules_token × Int)), j189 = .inr J194 ∧ ∃ (F15 : Mem) (aj189_1 : Option Addr) (nj189_1 : Nat) (ej189_1 : Option Nat × Obj) (aj189_2 : Option Addr) (nj189_2 : Nat), HS wb Fb w F15 (ej189_1 :: (sb bp0 #[(.slice aj189_2 J194.2.2.1.length nj189_2), (vi J194.2.2.2)] 100) :: (sb b21 #[(vi J194.1), (vi 0), (.slice aj189_1 J194.2.1.length nj189_1)] 33) :: Lf) ∧ Mem.le F14 F15 ∧ FI f [] [(2, (pt b21 0))] ∧ RowR tExpr 33 F15 aj189_1 nj189_1 J194.2.1 ej189_1 ∧ LC J194.2.2.1.length nj189_2 ∧ SlA trules_token F15 aj189_2 J194.2.2.1) (fun wd183 hw184 => ?_) ?_ ?_
    ·refine Dv [0] ?_
     refine Dl 1 (fun _ hq => (hq.1.2 2 _ _ rfl)) ?_
     refine Dv [2] ?_
     refine D1 3 ?_
     obtain ⟨r195, hr196, h197⟩ := bind_some hj192
     refine DCP co_rules_parser_sum (hsR233 (hG.mono (le31.trans le178)) bp0 (r173.1) ar173_0_0 nr173_0_0 hbr173_0_0 hsr173_0_0 hw184 _ hr196) ?_ ?_
     ·rintro r198 _ F16 w200 _ rfl hs201 le202 ⟨ar198_0_0, nr198_0_0, ar198_1_2, nr198_1_2, rfl, rfl, hbr198_0_0, hsr198_0_0, hbr198_1_2, hsr198_1_2⟩
      have h204 := sk_r h197
      refine ⟨dz_of hs201 le202 (by simp) (fun _ => by simp), ?_⟩
      refine D1 4 ?_
      refine DBs 33 [(vi r27.2.Op), (vi r27.2.Value), (.slice ar27_1_2 r27.2.Kids.length nr27_1_2), (vi r198.2.Op), (vi r198.2.Value), (.slice ar198_1_2 r198.2.Kids.length nr198_1_2)] hs201 le202 (fun b205 w206 hs207 => ?_)
      have hr209 : RowR tExpr 33 F16 (some ⟨b205, 0, none⟩) 2 [r27.2, r198.2] (some b205, .cells ([(vi r27.2.Op), (vi r27.2.Value), (.slice ar27_1_2 r27.2.Kids.length nr27_1_2), (vi r198.2.Op), (vi r198.2.Value), (.slice ar198_1_2 r198.2.Kids.length nr198_1_2)] : List Value).toArray 33 (0, 0)) := RowR.lit ⟨(tExpr_mk ⟨ar27_1_2, nr27_1_2, rfl, hbr27_1_2, (SlA.mono hsr27_1_2 (le178.trans le202))⟩), ⟨(tExpr_mk ⟨ar198_1_2, nr198_1_2, rfl, hbr198_1_2, hsr198_1_2⟩), rfl⟩⟩ (by simp)
      refine Dv [5] ?_
      refine D1 6 ?_
      refine DSt5 #[(vi 7), (vi 0), (.slice (some ⟨b205, 0, none⟩) [r27.2, r198.2].length 2)] hs207 le202 (fun w210 hs211 => ?_)
      obtain rfl := some_inj h204
      exact DWP.done (by kernel_rfl) ⟨_, rfl, F16, (some ⟨b205, 0, none⟩), 2, (some b205, .cells ([(vi r27.2.Op), (vi r27.2.Value), (.slice ar27_1_2 r27.2.Kids.length nr27_1_2), (vi r198.2.Op), (vi r198.2.Value), (.slice ar198_1_2 r198.2.Kids.length nr198_1_2)] : List Value).toArray 33 (0, 0)), ar198_0_0, nr198_0_0, hs211.dr2.dr2.dr2, le202, fI, hr209, hbr198_0_0, hsr198_0_0⟩
     ·rintro b212 F17 w213 rfl hs214 le215
      have h216 := sk_l h197
      obtain rfl := some_inj h216
      exact ⟨rfl, _, _, rfl, rfl, hs214.dr0.dr0.dr0.dr0, le215⟩
    ·rintro f w185 ⟨J194, rfl, F15, aj189_1, nj189_1, ej189_1, aj189_2, nj189_2, hs186, le187, ⟨_, rfl⟩, hrj189_1, hbj189_2, hsj189_2⟩
     have h218 := sk_r h193
     refine thenQ_nrm ?_
     refine Rt ?_
     refine blockQ_ret ?_
     refine thenQ_ret ?_
     refine blockQ_ret ?_
     refine thenQ_ret ?_
     have hb222 := RowR.bound hrj189_1
     obtain ⟨F18, hs219, le220, hs221⟩ := hs186.fr0 hrj189_1
     obtain rfl := some_inj h218
     exact ⟨rfl, (.agg #[(vi J194.1), (vi 0), (.slice aj189_1 J194.2.1.length nj189_1)]), res_of (l := [.cell 2 33]) (by kernel_rfl) (vs := [(.agg #[(vi J194.1), (vi 0), (.slice aj189_1 J194.2.1.length nj189_1)])]) ⟨b21, 0, rfl, run_loadVar' (t := 33) (g := true) (s := 3) (by kernel_rfl) hs219.at1 rfl (by decide), trivial⟩, .inl ⟨_, F18, _, _, rfl, rfl, hs219.dr1, (((le31.trans le178).trans le187).trans le220), ⟨aj189_2, nj189_2, aj189_1, nj189_1, rfl, rfl, hbj189_2, (SlA.mono hsj189_2 le220), hb222, hs221⟩⟩⟩
    ·rintro c f w224 ⟨hd227, b223, F19, rfl, rfl, hs225, le226⟩
     have h228 := sk_l h193
     refine thenQ_pan ?_
     refine blockQ_pan ?_
     refine thenQ_pan ?_
     refine blockQ_pan ?_
     refine thenQ_pan ?_
     obtain rfl := some_inj h228
     exact ⟨hd227, .inr ⟨_, F19, rfl, rfl, hs225, ((le31.trans le178).trans le226)⟩⟩
   ·refine Sc ?_
    refine blockQ_nrm ?_
    refine thenQ_nrm ?_
    refine URL.step ?_
    refine Sq (Rg [0, 1] ?_)
    refine RWP.litNext1  (e := ⟨(.string ⟨(([61] : List UInt8)).toArray⟩), (vi 6), 0⟩) (dst := (some 11)) (ty := 0) (g := none) (by kernel_rfl) rfl (x := (.tmp 10)) (r := b46) (ki := 1) (km := 2) rfl hs177 rfl rfl (by kernel_rfl) (by kernel_rfl) ?_
    ·rintro w229 (hs230 : HS wb Fb w229 F14 ((sb bp0 (krules_parser r173.1 ar173_0_0 nr173_0_0) 100) :: (some b46, (.mapIter (some b39) 2 #[1, 0] 2)) :: (some b39, (.map #[⟨(.string ⟨(([61] : List UInt8)).toArray⟩), (vi 6), 0⟩, ⟨(.string ⟨(([60] : List UInt8)).toArray⟩), (vi 7), 1⟩] 2)) :: (sb b34 (kExpr r27.2 ar27_1_2 nr27_1_2) 33) :: (sb b21 #[(vi 0), (vi 0), (.slice none ([] : List Expr).length 0)] 33) :: Lf))
     refine Vs 1 ?_
     refine Nss ?_
     refine C1 (rfl : true = true) ?_
     refine Sc ?_
     refine thenQ_nrm ?_
     refine Bk ?_
     refine Sq (Rg [0, 1, 2, 3, 4] ?_)
     refine V 13 0 (run_litEntry (x := (.tmp 10)) (en := ⟨(.string ⟨(([61] : List UInt8)).toArray⟩), (vi 6), 0⟩) rfl (hs230.ownAt (k := 1) rfl) (hs230.ownAt (k := 2) rfl) rfl rfl) ?_
     refine Vs 4 ?_
     refine Nss (Rg [0, 1, 2] ?_)
     refine Vs 2 ?_
     obtain ⟨r231, hr232, h233⟩ := bind_some h182
     refine CB co_rules_parser_accept (c_rules_parser_accept N bp0 (r173.1) ar173_0_0 nr173_0_0 hbr173_0_0 hsr173_0_0 (([61] : List UInt8)) hs230 _ hr232) ?_
     rintro _ F20 w234 _ hs235 le236 ⟨ar231_0_0, nr231_0_0, rfl, rfl, hbr231_0_0, hsr231_0_0⟩
     refine Nt ?_
     refine Cd h233 (fun hb238 h239 => ?_) (fun hb238 h240 => ?_)
     ·refine Sq ?_
      obtain ⟨j247, hj250, h251⟩ := bind_some h239
      refine RDP 6 7 [(some b46, (.mapIter (some b39) 2 #[1, 0] 2)), (some b39, (.map #[⟨(.string ⟨(([61] : List UInt8)).toArray⟩), (vi 6), 0⟩, ⟨(.string ⟨(([60] : List UInt8)).toArray⟩), (vi 7), 1⟩] 2)), (sb b34 (kExpr r27.2 ar27_1_2 nr27_1_2) 33)] [(sb b21 #[(vi 0), (vi 0), (.slice none ([] : List Expr).length 0)] 33)] hs235 (fun c d w => d = [] ∧ ∃ (b : rules_bad) (Fp : Mem), j247 = .inl b ∧ c = [{ v := (.iface 158 (.agg (krules_bad b))), recovered := false }] ∧ HS wb Fb w Fp Lf ∧ Mem.le F20 Fp) (fun f w => ∃ (J252 : (Int × List Expr × List rules_token × Int)), j247 = .inr J252 ∧ ∃ (F21 : Mem) (aj247_1 : Option Addr) (nj247_1 : Nat) (ej247_1 : Option Nat × Obj) (aj247_2 : Option Addr) (nj247_2 : Nat), HS wb Fb w F21 (ej247_1 :: (sb bp0 #[(.slice aj247_2 J252.2.2.1.length nj247_2), (vi J252.2.2.2)] 100) :: (sb b21 #[(vi J252.1), (vi 0), (.slice aj247_1 J252.2.1.length nj247_1)] 33) :: Lf) ∧ Mem.le F20 F21 ∧ FI f [] [(2, (pt b21 0))] ∧ RowR tExpr 33 F21 aj247_1 nj247_1 J252.2.1 ej247_1 ∧ LC J252.2.2.1.length nj247_2 ∧ SlA trules_token F21 aj247_2 J252.2.2.1) (fun wd241 hw242 => ?_) ?_ ?_
      ·refine Dv [0] ?_
       refine Dl 1 (fun _ hq => (hq.1.2 2 _ _ rfl)) ?_
       refine Dv [2] ?_
       refine D1 3 ?_
       obtain ⟨r253, hr254, h255⟩ := bind_some hj250
       refine DCP co_rules_parser_sum (hsR233 (hG.mono ((le31.trans le178).trans le236)) bp0 (r231.1) ar231_0_0 nr231_0_0 hbr231_0_0 hsr231_0_0 hw242 _ hr254) ?_ ?_
       ·rintro r256 _ F22 w258 _ rfl hs259 le260 ⟨ar256_0_0, nr256_0_0, ar256_1_2, nr256_1_2, rfl, rfl, hbr256_0_0, hsr256_0_0, hbr256_1_2, hsr256_1_2⟩
        have h262 := sk_r h255
        refine ⟨dz_of hs259 le260 (by simp) (fun _ => by simp), ?_⟩
        refine D1 4 ?_
        refine DBs 33 [(vi r27.2.Op), (vi r27.2.Value), (.slice ar27_1_2 r27.2.Kids.length nr27_1_2), (vi r256.2.Op), (vi r256.2.Value), (.slice ar256_1_2 r256.2.Kids.length nr256_1_2)] hs259 le260 (fun b263 w264 hs265 => ?_)
        have hr267 : RowR tExpr 33 F22 (some ⟨b263, 0, none⟩) 2 [r27.2, r256.2] (some b263, .cells ([(vi r27.2.Op), (vi r27.2.Value), (.slice ar27_1_2 r27.2.Kids.length nr27_1_2), (vi r256.2.Op), (vi r256.2.Value), (.slice ar256_1_2 r256.2.Kids.length nr256_1_2)] : List Value).toArray 33 (0, 0)) := RowR.lit ⟨(tExpr_mk ⟨ar27_1_2, nr27_1_2, rfl, hbr27_1_2, (SlA.mono hsr27_1_2 ((le178.trans le236).trans le260))⟩), ⟨(tExpr_mk ⟨ar256_1_2, nr256_1_2, rfl, hbr256_1_2, hsr256_1_2⟩), rfl⟩⟩ (by simp)
        refine Dv [5] ?_
        refine D1 6 ?_
        refine DSt5 #[(vi 6), (vi 0), (.slice (some ⟨b263, 0, none⟩) [r27.2, r256.2].length 2)] hs265 le260 (fun w268 hs269 => ?_)
        obtain rfl := some_inj h262
        exact DWP.done (by kernel_rfl) ⟨_, rfl, F22, (some ⟨b263, 0, none⟩), 2, (some b263, .cells ([(vi r27.2.Op), (vi r27.2.Value), (.slice ar27_1_2 r27.2.Kids.length nr27_1_2), (vi r256.2.Op), (vi r256.2.Value), (.slice ar256_1_2 r256.2.Kids.length nr256_1_2)] : List Value).toArray 33 (0, 0)), ar256_0_0, nr256_0_0, hs269.dr2.dr2.dr2, le260, fI, hr267, hbr256_0_0, hsr256_0_0⟩
       ·rintro b270 F23 w271 rfl hs272 le273
        have h274 := sk_l h255
        obtain rfl := some_inj h274
        exact ⟨rfl, _, _, rfl, rfl, hs272.dr0.dr0.dr0.dr0, le273⟩
      ·rintro f w243 ⟨J252, rfl, F21, aj247_1, nj247_1, ej247_1, aj247_2, nj247_2, hs244, le245, ⟨_, rfl⟩, hrj247_1, hbj247_2, hsj247_2⟩
       have h276 := sk_r h251
       refine thenQ_nrm ?_
       refine Rt ?_
       refine blockQ_ret ?_
       refine thenQ_ret ?_
       refine blockQ_ret ?_
       refine thenQ_ret ?_
       have hb280 := RowR.bound hrj247_1
       obtain ⟨F24, hs277, le278, hs279⟩ := hs244.fr0 hrj247_1
       obtain rfl := some_inj h276
       exact ⟨rfl, (.agg #[(vi J252.1), (vi 0), (.slice aj247_1 J252.2.1.length nj247_1)]), res_of (l := [.cell 2 33]) (by kernel_rfl) (vs := [(.agg #[(vi J252.1), (vi 0), (.slice aj247_1 J252.2.1.length nj247_1)])]) ⟨b21, 0, rfl, run_loadVar' (t := 33) (g := true) (s := 3) (by kernel_rfl) hs277.at1 rfl (by decide), trivial⟩, .inl ⟨_, F24, _, _, rfl, rfl, hs277.dr1, ((((le31.trans le178).trans le236).trans le245).trans le278), ⟨aj247_2, nj247_2, aj247_1, nj247_1, rfl, rfl, hbj247_2, (SlA.mono hsj247_2 le278), hb280, hs279⟩⟩⟩
      ·rintro c f w282 ⟨hd285, b281, F25, rfl, rfl, hs283, le284⟩
       have h286 := sk_l h251
       refine thenQ_pan ?_
       refine blockQ_pan ?_
       refine thenQ_pan ?_
       refine blockQ_pan ?_
       refine thenQ_pan ?_
       obtain rfl := some_inj h286
       exact ⟨hd285, .inr ⟨_, F25, rfl, rfl, hs283, (((le31.trans le178).trans le236).trans le284)⟩⟩
     ·refine Sc ?_
      refine blockQ_nrm ?_
      refine thenQ_nrm ?_
      refine URL.step ?_
      refine Sq (Rg [0, 1] ?_)
      refine RWP.litNext0  (dst := (some 11)) (ty := 0) (g := none) (by kernel_rfl) rfl (x := (.tmp 10)) (r := b46) (ki := 1) (km := 2) rfl hs235 rfl rfl (by kernel_rfl) (by kernel_rfl) ?_
      ·rintro w287 (hs288 : HS wb Fb w287 F20 ((sb bp0 (krules_parser r231.1 ar231_0_0 nr231_0_0) 100) :: (some b46, (.mapIter (some b39) 2 #[1, 0] 2)) :: (some b39, (.map #[⟨(.string ⟨(([61] : List UInt8)).toArray⟩), (vi 6), 0⟩, ⟨(.string ⟨(([60] : List UInt8)).toArray⟩), (vi 7), 1⟩] 2)) :: (sb b34 (kExpr r27.2 ar27_1_2 nr27_1_2) 33) :: (sb b21 #[(vi 0), (vi 0), (.slice none ([] : List Expr).length 0)] 33) :: Lf))
       refine Vs 1 ?_
       refine Nss ?_
       refine C0 (rfl : false = false) ?_
       refine Ex ?_
       refine thenQ_ex ?_
       refine thenQ_ex ?_
       refine blockQ_hit rfl ?_
       refine thenQ_nrm ?_
       refine Sq (Rg [0, 1] ?_)
       refine Ld hs288.at3 ?_
       refine St4 (kExpr r27.2 ar27_1_2 nr27_1_2) hs288 (fun w289 hs290 => ?_)
       refine Nt ?_
       refine Rt ?_
       obtain rfl := some_inj h240
       exact ⟨rfl, (.agg (kExpr r27.2 ar27_1_2 nr27_1_2)), res_of (l := [.cell 2 33]) (by kernel_rfl) (vs := [(.agg (kExpr r27.2 ar27_1_2 nr27_1_2))]) ⟨b21, 0, rfl, run_loadVar' (t := 33) (g := true) (s := 3) (by kernel_rfl) hs290.at4 rfl (by decide), trivial⟩, .inl ⟨_, F20, _, _, rfl, rfl, hs290.dr1.dr1.dr1.dr1, ((le31.trans le178).trans le236), ⟨ar231_0_0, nr231_0_0, ar27_1_2, nr27_1_2, rfl, rfl, hbr231_0_0, hsr231_0_0, hbr27_1_2, (SlA.mono hsr27_1_2 (le178.trans le236))⟩⟩⟩
 ·rintro b291 F26 w292 rfl hs293 le294
  have h295 := sk_l h26
  refine thenQ_pan ?_
  obtain rfl := some_inj h295
  exact RePi hs293.dr0 le294
end Go.Proofs.YtaihlcdkcampbaaGreatDoor
