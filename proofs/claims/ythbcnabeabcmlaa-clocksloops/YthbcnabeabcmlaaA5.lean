/- ClocksLoops: for every input the law returns true, and each argument reads afterwards as it read before. No condition. -/
import Derived.Test.YthbcnabeabcmlaaA4
set_option linter.unusedVariables false
set_option linter.unusedSimpArgs false
set_option linter.unusedSectionVars false
namespace Go.Proofs.Ythbcnabeabcmlaa
open Go.Proofs
def clocks_offered (N : Nat) (x0 : System) (x1 : (List Tie)) (x2 : Bool) : Option Int :=
 ((clocks_Check N x0).bind fun r4 => (bif (r4 != 0) then some r4 else ((slices_ContainsFunc_api_Tie_api_Tie N x1 (fun y0 => clocks_offered_1 N y0 x0)).bind fun r18 => (bif r18 then some 3 else ((bif (!x2) then some true else ((slices_ContainsFunc_api_Tie_api_Tie N x1 (fun y0 => clocks_offered_2 N y0 x0)).bind fun r42 => some r42)).bind fun j32 => (bif j32 then some 1 else ((clocks_loopOf N x0).bind fun r53 => (bif (!r53.isEmpty) then some 31 else (bif (decide ((W64 ((x0.Ties.length : Int) + (x1.length : Int))) > 400)) then some 2 else some 0)))))))))
theorem co_clocks_offered : CallOk Try.prog 86 := fun _ _ => by kernel_rfl
set_option maxHeartbeats 4000000 in
set_option maxRecDepth 100000 in
theorem c_clocks_offered (N : Nat) (w0 : World) (F0 : Mem) (hF : ∀ b o, F0 b = some o → w0.heap[b]? = some o) (x0 : System) (a0_0 : Option Addr) (n0_0 : Nat) (hb0_0 : LC x0.Tracks.length n0_0) (hs0_0 : SlA tTrack F0 a0_0 x0.Tracks) (a0_1 : Option Addr) (n0_1 : Nat) (hb0_1 : LC x0.Ties.length n0_1) (hs0_1 : SlA tTie F0 a0_1 x0.Ties) (x1 : (List Tie)) (a1_0 : Option Addr) (n1_0 : Nat) (hb1_0 : LC x1.length n1_0) (hs1_0 : SlA tTie F0 a1_0 x1) (x2 : Bool) (r : Int) (h : clocks_offered N x0 x1 x2 = some r) :
  Calls Try.prog 86 ([(.agg (kSystem x0 a0_0 n0_0 a0_1 n0_1)), (.slice a1_0 x1.length n1_0), (.bool x2)] : List Value).toArray w0 (FRet w0 F0 fun F' v => v = (vi r)) := by
 have hs0 := HS.start hF
 refine calls_of (n := 36) (c := bodyOf Try.f86) Try.func86 (by kernel_rfl) (by kernel_rfl) (by kernel_rfl) ?_
 refine Sq (Rg [0, 1] ?_)
 refine Bx 3 0 0 25 (kSystem x0 a0_0 n0_0 a0_1 n0_1) hs0 (fun b1 w2 (hs3 : HS w0 F0 w2 F0 [(sb b1 (kSystem x0 a0_0 n0_0 a0_1 n0_1) 25)]) => ?_)
 refine V 6 30 (mc (vi 0) (vi 0)) ?_
 refine Nss ?_
 refine Sq (Rg [0, 1, 2] ?_)
 refine V 8 25 (ld 25 3 b1 0 true 3 (.agg (kSystem x0 a0_0 n0_0 a0_1 n0_1)) (hs3.ownAt (k := 0) rfl)) ?_
 obtain ⟨r4, hr5, h6⟩ := bind_some h
 refine Cl 9 30 17 #[(.tmp 8)] #[25] co_clocks_Check hs3 (c_clocks_Check N w2 F0 hs3.pers (x0) a0_0 n0_0 hb0_0 hs0_0 a0_1 n0_1 hb0_1 hs0_1 _ hr5) ?_
 intro v7 F1 w8 hs9 le10 hp11
 obtain rfl := hp11
 refine V 7 30 (ma 9 (vi r4)) ?_
 refine Nss (Rg [0, 1] ?_)
 refine V 10 30 (mv 7 (vi r4)) ?_
 refine V 11 4 (run_neq (t := 30) (t' := 30) (x := (.tmp 10)) (y := (.const (vi 0))) (k := .i64) (a := r4) (b := 0) rfl rfl) ?_
 refine Nt ?_
 refine CWP.cond (t := (r4 != 0)) (by kernel_rfl) rfl (fun hb12 => ?_) (fun hb12 => ?_)
 ·have h13 := cond_t h6 hb12
  refine Sq (Rg [0, 1] ?_)
  refine V 12 30 (mv 7 (vi r4)) ?_
  refine V 6 30 (ma 12 (vi r4)) ?_
  refine Nt ?_
  refine CWP.ret (by kernel_rfl) ?_
  refine thenQ_ret ?_
  have hfin := some_inj h13
  subst hfin
  exact ⟨rfl, (vi r4), res_of (l := [.tmp 6]) (by kernel_rfl) (vs := [(vi r4)]) ⟨rfl, trivial⟩, (vi r4), F1, rfl, hs9.clear, rfl⟩
 ·have h14 := cond_f h6 hb12
  refine Sc ?_
  refine thenQ_nrm ?_
  refine Sq ?_
  refine Sq (Rg [0, 1, 2] ?_)
  refine V 13 23 (mv 1 (.slice a1_0 x1.length n1_0)) ?_
  refine V 14 91 (run_makeFunc (fn := .func 125) (first := #[]) (cap := #[(.tmp 3)]) (fl := []) (cl := [(.pointer (some ⟨b1, 0, none⟩))]) rfl (rfl)) ?_
  obtain ⟨F2, hs15, le16, hF17⟩ : ∃ Fq, HS w0 F0 w8 Fq [] ∧ Mem.le F1 Fq ∧ Fq b1 = some (oc (kSystem x0 a0_0 n0_0 a0_1 n0_1) 25) := HS.freezeC hs9 (k := 0) rfl
  obtain ⟨r18, hr19, h20⟩ := bind_some h14
  refine Cl 15 4 68 #[(.tmp 13), (.tmp 14)] #[23, 91] co_slices_ContainsFunc_api_Tie_api_Tie hs15 (c_slices_ContainsFunc_api_Tie_api_Tie N w8 F2 hs15.pers (x1) a1_0 n1_0 hb1_0 (SlA.mono hs1_0 (le10.trans le16)) 125 [] [(.pointer (some ⟨b1, 0, none⟩))] (fun y0 => clocks_offered_1 N y0 x0) co_clocks_offered_1 (fun w1 F1 y0 r le1 pe1 hr1 => c_clocks_offered_1 N w1 F1 pe1  y0 b1 x0 a0_0 n0_0 hb0_0 (SlA.mono (SlA.mono hs0_0 (le10.trans le16)) le1) a0_1 n0_1 hb0_1 (SlA.mono (SlA.mono hs0_1 (le10.trans le16)) le1) (le1 _ _ hF17) r hr1) _ hr19) ?_
  intro v21 F3 w22 hs23 le24 hp25
  obtain rfl := hp25
  refine Nt ?_
  refine CWP.cond (t := r18) (by kernel_rfl) rfl (fun hb26 => ?_) (fun hb26 => ?_)
  ·have h27 := cond_t h20 hb26
   refine Sq (Rg [0] ?_)
   refine V 6 30 (mc (vi 3) (vi 3)) ?_
   refine Nt ?_
   refine CWP.ret (by kernel_rfl) ?_
   refine thenQ_ret ?_
   have hfin := some_inj h27
   subst hfin
   exact ⟨rfl, (vi 3), res_of (l := [.tmp 6]) (by kernel_rfl) (vs := [(vi 3)]) ⟨rfl, trivial⟩, (vi 3), F3, rfl, hs23.clear, rfl⟩
  ·have h28 := cond_f h20 hb26
   refine Sc ?_
   refine thenQ_nrm ?_
   refine Sq ?_
   refine Bk ?_
   refine Sq (Rg [0, 1, 2, 3, 4, 5, 6, 7] ?_)
   obtain ⟨j32, hj37, h38⟩ := bind_some h28
   refine RWP.cut (fun f w => ∃ (F4 : Mem), HS w0 F0 w F4 [] ∧ Mem.le F3 F4 ∧ f.d = [] ∧ f 1 = (.slice a1_0 x1.length n1_0) ∧ f 3 = (.pointer (some ⟨b1, 0, none⟩)) ∧ f 16 = (.bool j32)) ?_ ?_
   ·refine V 17 4 (mv 2 (.bool x2)) ?_
    refine V 18 4 (run_not (t := 4) (x := (.tmp 17)) (a := x2) rfl) ?_
    refine V 19 4 (mv 18 (.bool (!x2))) ?_
    refine RWP.split (!x2) (fun hb39 => ?_) (fun hb39 => ?_)
    ·have h40 := cond_t hj37 hb39
     refine Sk [20, 21, 22] 2 false 19 hb39 ?_
     refine V 23 4 (p1 19 (.const (.bool true)) (.tmp 22) (.bool true) hb39) ?_
     refine V 16 4 (ma 23 (.bool true)) ?_
     obtain rfl := some_inj h40
     exact RWP.nil ⟨rfl, F3, hs23, (Mem.le.refl _), rfl, rfl, rfl, rfl⟩
    ·have h41 := cond_f hj37 hb39
     refine Vg 20 23 2 false 19 hb39 (mv 1 (.slice a1_0 x1.length n1_0)) ?_
     refine Vg 21 91 2 false 19 hb39 (run_makeFunc (fn := .func 126) (first := #[]) (cap := #[(.tmp 3)]) (fl := []) (cl := [(.pointer (some ⟨b1, 0, none⟩))]) rfl (rfl)) ?_
     obtain ⟨r42, hr43, h44⟩ := bind_some h41
     refine RWP.call (dst := (some 22)) (ty := 4) (g := (some (2, false))) (by kernel_rfl) (gd_y (d := 19) (by kernel_rfl) rfl hb39) (f0 := (.func 68)) (aos := #[(.tmp 20), (.tmp 21)]) (ats := #[23, 91]) (fid := 68) (first := #[]) (cap := #[]) (args := [(.slice a1_0 x1.length n1_0), (.func (.func 126) #[] #[(.pointer (some ⟨b1, 0, none⟩))])]) rfl co_slices_ContainsFunc_api_Tie_api_Tie (rfl) hs23 (c_slices_ContainsFunc_api_Tie_api_Tie N w22 F3 hs23.pers (x1) a1_0 n1_0 hb1_0 (SlA.mono hs1_0 ((le10.trans le16).trans le24)) 126 [] [(.pointer (some ⟨b1, 0, none⟩))] (fun y0 => clocks_offered_2 N y0 x0) co_clocks_offered_2 (fun w1 F1 y0 r le1 pe1 hr1 => c_clocks_offered_2 N w1 F1 pe1  y0 b1 x0 a0_0 n0_0 hb0_0 (SlA.mono (SlA.mono hs0_0 ((le10.trans le16).trans le24)) le1) a0_1 n0_1 hb0_1 (SlA.mono (SlA.mono hs0_1 ((le10.trans le16).trans le24)) le1) (le1 _ _ (le24 _ _ hF17)) r hr1) _ hr43) ?_
     intro v45 F5 w46 hs47 le48 hp49
     obtain rfl := hp49
     refine V 23 4 (p0 19 (.const (.bool true)) (.tmp 22) (.bool r42) hb39) ?_
     refine V 16 4 (ma 23 (.bool r42)) ?_
     obtain rfl := some_inj h44
     exact RWP.nil ⟨rfl, F5, hs47, le48, rfl, rfl, rfl, rfl⟩
   ·rintro f w29 ⟨F4, hs30, le31, e33, e34, e35, e36⟩
    refine thenQ_nrm ?_
    refine CWP.cond (t := j32) (by kernel_rfl) e36 (fun hb50 => ?_) (fun hb50 => ?_)
    ·have h51 := cond_t h38 hb50
     refine Sq (Rg [0] ?_)
     refine V 6 30 (mc (vi 1) (vi 1)) ?_
     refine Nt ?_
     refine CWP.ret (by kernel_rfl) ?_
     refine blockQ_ret ?_
     refine thenQ_ret ?_
     have hfin := some_inj h51
     subst hfin
     exact ⟨e33, (vi 1), res_of (l := [.tmp 6]) (by kernel_rfl) (vs := [(vi 1)]) ⟨rfl, trivial⟩, (vi 1), F4, rfl, hs30.clear, rfl⟩
    ·have h52 := cond_f h38 hb50
     refine Sq (Rg [0, 1, 2, 3] ?_)
     refine V 25 25 (ld 25 3 b1 0 true 3 (.agg (kSystem x0 a0_0 n0_0 a0_1 n0_1)) (hs30.pers _ _ ((le24.trans le31) _ _ hF17)) e35) ?_
     obtain ⟨r53, hr54, h55⟩ := bind_some h52
     refine Cl 26 57 103 #[(.tmp 25)] #[25] co_clocks_loopOf hs30 (c_clocks_loopOf N w29 F4 hs30.pers (x0) a0_0 n0_0 hb0_0 (SlA.mono hs0_0 (((le10.trans le16).trans le24).trans le31)) a0_1 n0_1 hb0_1 (SlA.mono hs0_1 (((le10.trans le16).trans le24).trans le31)) _ hr54) ?_
     intro v56 F6 w57 hs58 le59 hp60
     obtain ⟨ar53_0_0, nr53_0_0, rfl, hbr53_0_0, hsr53_0_0, nf61, fr62⟩ := hp60
     refine V 27 4 (run_nenil' (e := 103) (t := 57) (t' := 57) (x := (.tmp 26)) (y := (.const (.slice none 0 0))) hsr53_0_0 nf61 rfl rfl (by kernel_rfl)) ?_
     refine V 24 4 (ma 27 (.bool (!r53.isEmpty))) ?_
     refine Nt ?_
     refine CWP.cond (t := (!r53.isEmpty)) (by kernel_rfl) rfl (fun hb63 => ?_) (fun hb63 => ?_)
     ·have h64 := cond_t h55 hb63
      refine Sq (Rg [0] ?_)
      refine V 6 30 (mc (vi 31) (vi 31)) ?_
      refine Nt ?_
      refine CWP.ret (by kernel_rfl) ?_
      refine blockQ_ret ?_
      refine thenQ_ret ?_
      have hfin := some_inj h64
      subst hfin
      exact ⟨e33, (vi 31), res_of (l := [.tmp 6]) (by kernel_rfl) (vs := [(vi 31)]) ⟨rfl, trivial⟩, (vi 31), F6, rfl, hs58.clear, rfl⟩
     ·have h65 := cond_f h55 hb63
      refine Sq (Rg [0, 1, 2, 3, 4, 5, 6, 7] ?_)
      refine V 29 0 (fa 25 3 1 1 1 b1 0 1 e35) ?_
      refine V 30 23 (ld 23 29 b1 1 false 1 (.slice a0_1 x0.Ties.length n0_1) (hs58.pers _ _ (((le24.trans le31).trans le59) _ _ hF17))) ?_
      refine V 31 3 (ln 30 23 a0_1 x0.Ties.length n0_1 46 4 32) ?_
      refine V 32 23 (mv 1 (.slice a1_0 x1.length n1_0) e34) ?_
      refine V 33 3 (ln 32 23 a1_0 x1.length n1_0 46 4 32) ?_
      refine V 34 3 (run_add (t := 3) (t' := 3) (x := (.tmp 31)) (y := (.tmp 33)) (k := .i64) (a := (x0.Ties.length : Int)) (b := (x1.length : Int)) rfl rfl) ?_
      refine V 35 4 (run_gtr (t := 3) (t' := 3) (x := (.tmp 34)) (y := (.const (vi 400))) (k := .i64) (a := (W64 ((x0.Ties.length : Int) + (x1.length : Int)))) (b := 400) rfl rfl) ?_
      refine V 28 4 (ma 35 (.bool (decide ((W64 ((x0.Ties.length : Int) + (x1.length : Int))) > 400)))) ?_
      refine Nt ?_
      refine CWP.cond (t := (decide ((W64 ((x0.Ties.length : Int) + (x1.length : Int))) > 400))) (by kernel_rfl) rfl (fun hb66 => ?_) (fun hb66 => ?_)
      ·have h67 := cond_t h65 hb66
       refine Sq (Rg [0] ?_)
       refine V 6 30 (mc (vi 2) (vi 2)) ?_
       refine Nt ?_
       refine CWP.ret (by kernel_rfl) ?_
       refine blockQ_ret ?_
       refine thenQ_ret ?_
       have hfin := some_inj h67
       subst hfin
       exact ⟨e33, (vi 2), res_of (l := [.tmp 6]) (by kernel_rfl) (vs := [(vi 2)]) ⟨rfl, trivial⟩, (vi 2), F6, rfl, hs58.clear, rfl⟩
      ·have h68 := cond_f h65 hb66
       refine Sc ?_
       refine blockQ_nrm ?_
       refine thenQ_nrm ?_
       refine Sq (Rg [0] ?_)
       refine V 6 30 (mc (vi 0) (vi 0)) ?_
       refine Nt ?_
       refine CWP.ret (by kernel_rfl) ?_
       have hfin := some_inj h68
       subst hfin
       exact ⟨e33, (vi 0), res_of (l := [.tmp 6]) (by kernel_rfl) (vs := [(vi 0)]) ⟨rfl, trivial⟩, (vi 0), F6, rfl, hs58.clear, rfl⟩
end Go.Proofs.Ythbcnabeabcmlaa
namespace Go.Proofs.Ythbcnabeabcmlaa
open Go.Proofs
theorem co_clocks_added : CallOk Try.prog 87 := fun _ _ => by kernel_rfl
set_option maxRecDepth 100000 in
theorem c_clocks_added (w0 : World) (F0 : Mem) (hF : ∀ b o, F0 b = some o → w0.heap[b]? = some o) (x0 : System) (a0_0 : Option Addr) (n0_0 : Nat) (_ : LC x0.Tracks.length n0_0) (_ : SlA tTrack F0 a0_0 x0.Tracks) (a0_1 : Option Addr) (n0_1 : Nat) (_ : LC x0.Ties.length n0_1) (_ : SlA tTie F0 a0_1 x0.Ties) (x1 : List Tie) (a1_0 : Option Addr) (n1_0 : Nat) (_ : LC x1.length n1_0) (_ : SlA tTie F0 a1_0 x1) :
    Calls Try.prog 87 ([(.agg (kSystem x0 a0_0 n0_0 a0_1 n0_1)), (.slice a1_0 x1.length n1_0)] : List Value).toArray w0 (FRetO w0 F0 fun _ v L' => ∃ (b0 b1 : Nat), v = .func (.func 127) #[] #[.pointer (some ⟨b0, 0, none⟩), .pointer (some ⟨b1, 0, none⟩)] ∧ L' = [(some b1, .cells #[(.slice a1_0 x1.length n1_0)] 23 (0, 0)), (some b0, .cells (kSystem x0 a0_0 n0_0 a0_1 n0_1) 25 (0, 0))]) := by
  have hs0 := HS.start hF
  refine calls_of (n := 6) (c := bodyOf Try.f87) Try.func87 (by kernel_rfl) (by kernel_rfl) (by kernel_rfl) ?_
  refine CWP.seq (by kernel_rfl) ?_
  refine CWP.region (l := [0, 1, 2]) (by kernel_rfl) (by kernel_rfl) (by kernel_rfl) ?_
  refine RWP.box (dst := (some 2)) (ty := 0) (g := none) (by kernel_rfl) rfl (x := (.tmp 0)) (t := 25) (v := (.agg (kSystem x0 a0_0 n0_0 a0_1 n0_1))) rfl (C := (kSystem x0 a0_0 n0_0 a0_1 n0_1)) rfl hs0 (fun b0 w1 hs1 => ?_)
  refine RWP.box (dst := (some 3)) (ty := 0) (g := none) (by kernel_rfl) rfl (x := (.tmp 1)) (t := 23) (v := (.slice a1_0 x1.length n1_0)) rfl (C := #[(.slice a1_0 x1.length n1_0)]) rfl hs1 (fun b1 w2 hs2 => ?_)
  refine RWP.val (dst := (some 4)) (ty := 120) (g := none) (by kernel_rfl) rfl (run_assign (x := (.const .nilFunc)) (v := .nilFunc) rfl) ?_
  refine RWP.nil ?_
  refine thenQ_nrm ?_
  refine CWP.seq (by kernel_rfl) ?_
  refine CWP.region (l := [0, 1]) (by kernel_rfl) (by kernel_rfl) (by kernel_rfl) ?_
  refine RWP.val (dst := some 5) (ty := 119) (g := none) (by kernel_rfl) rfl (run_makeFunc (fn := .func 127) (first := #[]) (cap := #[.tmp 2, .tmp 3]) (fl := []) (cl := [.pointer (some ⟨b0, 0, none⟩), .pointer (some ⟨b1, 0, none⟩)]) rfl rfl) ?_
  refine RWP.val (dst := (some 4)) (ty := 120) (g := none) (by kernel_rfl) rfl (run_assign (x := (.tmp 5)) (v := .func (.func 127) #[] #[.pointer (some ⟨b0, 0, none⟩), .pointer (some ⟨b1, 0, none⟩)]) rfl) ?_
  refine RWP.nil ?_
  refine thenQ_nrm ?_
  refine CWP.ret (by kernel_rfl) ?_
  exact ⟨rfl, _, res_of (l := [.tmp 4]) (by kernel_rfl) (vs := [.func (.func 127) #[] #[.pointer (some ⟨b0, 0, none⟩), .pointer (some ⟨b1, 0, none⟩)]]) ⟨rfl, trivial⟩, _, F0, _, rfl, hs2, b0, b1, rfl, rfl⟩
end Go.Proofs.Ythbcnabeabcmlaa
namespace Go.Proofs.Ythbcnabeabcmlaa
open Go.Proofs
def clocks_Accept_L0 (N : Nat) (x0 : System) (x1 : (List Tie)) (r4 : Int) : (List Bool) → (Bool × (List Bound)) → Option (List Bool) := fun s33 ⟨y55, y56⟩ =>
 ((apnd s33 [y55]).bind fun r68 => some r68)
def clocks_Accept (N : Nat) (x0 : System) (x1 : (List Tie)) : Option ((List Bool) × Int) :=
 ((clocks_offered N x0 x1 true).bind fun r4 => (bif (r4 != 0) then some (([] : List Bool), r4) else ((clocks_added_1 N (fun st x => ((clocks_Accept_L0 N x0 x1 r4) st x).map fun t => (true, t)) x0 x1 ([] : List Bool)).bind fun r41 => some (r41, 0))))
theorem co_clocks_Accept : CallOk Try.prog 42 := fun _ _ => by kernel_rfl
set_option maxHeartbeats 4000000 in
set_option maxRecDepth 100000 in
theorem c_clocks_Accept (N : Nat) (w0 : World) (F0 : Mem) (hF : ∀ b o, F0 b = some o → w0.heap[b]? = some o) (x0 : System) (a0_0 : Option Addr) (n0_0 : Nat) (hb0_0 : LC x0.Tracks.length n0_0) (hs0_0 : SlA tTrack F0 a0_0 x0.Tracks) (a0_1 : Option Addr) (n0_1 : Nat) (hb0_1 : LC x0.Ties.length n0_1) (hs0_1 : SlA tTie F0 a0_1 x0.Ties) (x1 : (List Tie)) (a1_0 : Option Addr) (n1_0 : Nat) (hb1_0 : LC x1.length n1_0) (hs1_0 : SlA tTie F0 a1_0 x1) (r : ((List Bool) × Int)) (h : clocks_Accept N x0 x1 = some r) :
  Calls Try.prog 42 ([(.agg (kSystem x0 a0_0 n0_0 a0_1 n0_1)), (.slice a1_0 x1.length n1_0)] : List Value).toArray w0 (FRet w0 F0 fun F' v => ∃ (aq0_0 : Option Addr) (nq0_0 : Nat), v = (.tuple #[(.slice aq0_0 r.1.length nq0_0), (vi r.2)]) ∧ LC r.1.length nq0_0 ∧ SlA tBool F' aq0_0 r.1) := by
 have hs0 := HS.start hF
 refine calls_ofM (n := 25) (c := bodyOf Try.f42) Try.func42 (by kernel_rfl) (by kernel_rfl) (by kernel_rfl) ?_
 refine Sq (Rg [0, 1, 2] ?_)
 refine Bx 2 0 0 25 (kSystem x0 a0_0 n0_0 a0_1 n0_1) hs0 (fun b1 w2 (hs3 : HS w0 F0 w2 F0 [(sb b1 (kSystem x0 a0_0 n0_0 a0_1 n0_1) 25)]) => ?_)
 refine V 4 64 (mc (.slice none 0 0) (.slice none ([] : List Bool).length 0)) ?_
 refine V 5 30 (mc (vi 0) (vi 0)) ?_
 refine Nss ?_
 refine Sq (Rg [0, 1, 2, 3] ?_)
 refine V 9 25 (ld 25 2 b1 0 true 3 (.agg (kSystem x0 a0_0 n0_0 a0_1 n0_1)) (hs3.ownAt (k := 0) rfl)) ?_
 refine V 10 23 (mv 1 (.slice a1_0 x1.length n1_0)) ?_
 obtain ⟨r4, hr5, h6⟩ := bind_some h
 refine Cl 11 30 86 #[(.tmp 9), (.tmp 10), (.const (.bool true))] #[25, 23, 4] co_clocks_offered hs3 (c_clocks_offered N w2 F0 hs3.pers (x0) a0_0 n0_0 hb0_0 hs0_0 a0_1 n0_1 hb0_1 hs0_1 (x1) a1_0 n1_0 hb1_0 hs1_0 (true) _ hr5) ?_
 intro v7 F1 w8 hs9 le10 hp11
 obtain rfl := hp11
 refine V 6 30 (ma 11 (vi r4)) ?_
 refine Nss (Rg [0, 1] ?_)
 refine V 12 30 (mv 6 (vi r4)) ?_
 refine V 13 4 (run_neq (t := 30) (t' := 30) (x := (.tmp 12)) (y := (.const (vi 0))) (k := .i64) (a := r4) (b := 0) rfl rfl) ?_
 refine Nt ?_
 refine CWP.cond (t := (r4 != 0)) (by kernel_rfl) rfl (fun hb12 => ?_) (fun hb12 => ?_)
 ·have h13 := cond_t h6 hb12
  refine Sq (Rg [0, 1, 2] ?_)
  refine V 14 30 (mv 6 (vi r4)) ?_
  refine V 4 64 (mc (.slice none 0 0) (.slice none ([] : List Bool).length 0)) ?_
  refine V 5 30 (ma 14 (vi r4)) ?_
  refine Nt ?_
  refine CWP.ret (by kernel_rfl) ?_
  refine thenQ_ret ?_
  have hfin := some_inj h13
  subst hfin
  exact .inl ⟨rfl, (.tuple #[(.slice none ([] : List Bool).length 0), (vi r4)]), res_of (l := [.tmp 4, .tmp 5]) (by kernel_rfl) (vs := [(.slice none ([] : List Bool).length 0), (vi r4)]) ⟨rfl, ⟨rfl, trivial⟩⟩, (.tuple #[(.slice none ([] : List Bool).length 0), (vi r4)]), F1, rfl, hs9.clear, ⟨none, 0, rfl, LC.nil, (.inl rfl)⟩⟩
 ·have h14 := cond_f h6 hb12
  refine Sc ?_
  refine thenQ_nrm ?_
  refine Sq (Rg [0] ?_)
  refine RWP.alloc (dst := (some 7)) (ty := 0) (g := none) (by kernel_rfl) rfl (t := 64) (z := (.slice none ([] : List Bool).length 0)) (by kernel_rfl) (C := #[(.slice none ([] : List Bool).length 0)]) rfl hs9 (fun b15 w16 (hs17 : HS w0 F0 w16 F1 [(sb b15 #[(.slice none ([] : List Bool).length 0)] 64), (sb b1 (kSystem x0 a0_0 n0_0 a0_1 n0_1) 25)]) => ?_)
  refine Nss ?_
  refine Sq (Rg [0, 1, 2] ?_)
  refine V 15 25 (ld 25 2 b1 0 true 3 (.agg (kSystem x0 a0_0 n0_0 a0_1 n0_1)) (hs17.ownAt (k := 1) rfl)) ?_
  refine V 16 23 (mv 1 (.slice a1_0 x1.length n1_0)) ?_
  refine RWP.callO (dst := (some 17)) (ty := 120) (g := none) (by kernel_rfl) rfl (f0 := (.func 87)) (aos := #[(.tmp 15), (.tmp 16)]) (ats := #[25, 23]) (fid := 87) (first := #[]) (cap := #[]) (args := [(.agg (kSystem x0 a0_0 n0_0 a0_1 n0_1)), (.slice a1_0 x1.length n1_0)]) rfl co_clocks_added (rfl) hs17 (c_clocks_added w16 F1 hs17.pers (x0) a0_0 n0_0 hb0_0 (SlA.mono hs0_0 le10) a0_1 n0_1 hb0_1 (SlA.mono hs0_1 le10) (x1) a1_0 n1_0 hb1_0 (SlA.mono hs1_0 le10)) ?_
  rintro _ F2 w20 _ hs21 le22 ⟨b18, b19, rfl, rfl⟩
  have hs23 : HS w0 F0 w20 F2 [(sb b19 #[(.slice a1_0 x1.length n1_0)] 23), (sb b18 (kSystem x0 a0_0 n0_0 a0_1 n0_1) 25), (sb b15 #[(.slice none ([] : List Bool).length 0)] 64), (sb b1 (kSystem x0 a0_0 n0_0 a0_1 n0_1) 25)] := hs21
  refine Nt ?_
  refine Bk ?_
  obtain ⟨F3, hs24, le25, hF26⟩ : ∃ Fq, HS w0 F0 w20 Fq [(sb b18 (kSystem x0 a0_0 n0_0 a0_1 n0_1) 25), (sb b15 #[(.slice none ([] : List Bool).length 0)] 64), (sb b1 (kSystem x0 a0_0 n0_0 a0_1 n0_1) 25)] ∧ Mem.le F2 Fq ∧ Fq b19 = some (oc #[(.slice a1_0 x1.length n1_0)] 23) := HS.freezeC hs23 (k := 0) rfl
  have hs27 : HS w0 F0 w20 F3 [(sb b18 (kSystem x0 a0_0 n0_0 a0_1 n0_1) 25), (sb b15 #[(.slice none ([] : List Bool).length 0)] 64)] := hs24.drop 2
  have hs28 : HS w0 F0 w20 F3 [(none, .cells #[] 0 (0, 0)), (sb b18 (kSystem x0 a0_0 n0_0 a0_1 n0_1) 25), (sb b15 #[(.slice none ([] : List Bool).length 0)] 64)] := hs27.dummy _
  have hs30 : HS w0 F0 w20 F3 [(sb b15 #[(.slice none ([] : List Bool).length 0)] 64), (none, .cells #[] 0 (0, 0)), (sb b18 (kSystem x0 a0_0 n0_0 a0_1 n0_1) 25)] := hs28.pick (k := 2) rfl
  have hs31 : HS w0 F0 w20 F3 [(none, .cells #[] 0 (0, 0)), (sb b15 #[(.slice none ([] : List Bool).length 0)] 64), (sb b18 (kSystem x0 a0_0 n0_0 a0_1 n0_1) 25)] := hs30.pick (k := 1) rfl
  have hs32 : HS w0 F0 w20 F3 [(sb b18 (kSystem x0 a0_0 n0_0 a0_1 n0_1) 25), (none, .cells #[] 0 (0, 0)), (sb b15 #[(.slice none ([] : List Bool).length 0)] 64)] := hs31.pick (k := 2) rfl
  obtain ⟨r41, hr42, h43⟩ := bind_some h14
  refine CWP.rangeFunc (enc := enc155) (ok := ok155) (px := px155) (m := fun {_} y s => clocks_added_1 N y x0 x1 s) (L := [(none, .cells #[] 0 (0, 0)), (sb b15 #[(.slice none ([] : List Bool).length 0)] 64)]) (B := [(sb b18 (kSystem x0 a0_0 n0_0 a0_1 n0_1) 25)]) (ps := [18, 19]) (by kernel_rfl) (gf := 127) (cap := [(.pointer (some ⟨b18, 0, none⟩)), (.pointer (some ⟨b19, 0, none⟩))]) rfl co_clocks_added_1 rfl (by kernel_rfl) (by kernel_rfl) (by rintro ⟨_, _, _, _⟩; rfl) hs32 (c_clocks_added_1 N F3 x0 a0_0 n0_0 hb0_0 (SlA.mono hs0_0 ((le10.trans le22).trans le25)) a0_1 n0_1 hb0_1 (SlA.mono hs0_1 ((le10.trans le22).trans le25)) b18 x1 a1_0 n1_0 hb1_0 (SlA.mono hs1_0 ((le10.trans le22).trans le25)) b19 hF26) (fun st x => ((clocks_Accept_L0 N x0 x1 r4) st x).map fun t => (true, t)) (fun (s33 : (List Bool)) (F4 : Mem) (Lq : Own) => ∃ (as33_0 : Option Addr) (ns33_0 : Nat) (es33_0 : Option Nat × Obj), Lq = [es33_0, (sb b15 #[(.slice as33_0 s33.length ns33_0)] 64)] ∧ RowR tBool 4 F4 as33_0 ns33_0 s33 es33_0) ?_ (s := ([] : List Bool)) (r := r41) ?_ hr42 (fun _ _ _ h => (map_true h).1) ?_ ?_
  ·rintro s F F' L ⟨as33_0, ns33_0, es33_0, rfl, hrs33_0⟩ hl
   exact ⟨as33_0, ns33_0, es33_0, rfl, (hrs33_0.mono hl)⟩
  ·exact ⟨none, 0, (none, .cells #[] 0 (0, 0)), rfl, (RowR.nil tBool 4 F3 _)⟩
  ·rintro l44 s33 ⟨y55, y56, ay56_0, ny56_0⟩ w47 F4 _ Rf49 ⟨_, q50⟩ le51 ⟨hby56_0, hsy56_0⟩ ⟨as33_0, ns33_0, es33_0, rfl, hrs33_0⟩ hs53 hy54
   have h57 := (map_true hy54).2
   have hs58 : HS w0 F0 w47 F4 (es33_0 :: (sb b15 #[(.slice as33_0 s33.length ns33_0)] 64) :: Rf49) := hs53
   refine Rg [0] ?_
   refine V 8 4 (ma 18 (.bool y55)) ?_
   refine RWP.nil ?_
   refine ⟨rfl, F4, [es33_0, (sb b15 #[(.slice as33_0 s33.length ns33_0)] 64)], hs58, fun w59 Rf60 hs61 => ?_⟩
   have hs62 : HS w0 F0 w59 F4 (es33_0 :: (sb b15 #[(.slice as33_0 s33.length ns33_0)] 64) :: Rf60) := hs61
   refine Bk ?_
   refine Rg [0, 1, 2, 3, 4] ?_
   refine V 20 64 (ld 64 7 b15 0 false 1 (.slice as33_0 s33.length ns33_0) (hs62.ownAt (k := 1) rfl)) ?_
   refine V 21 4 (mv 8 (.bool y55)) ?_
   refine RWP.buildSlice (dst := (some 22)) (ty := 64) (g := none) (by kernel_rfl) rfl (t := 64) (len := 1) (parts := #[(0, (.tmp 21))]) (vs := [(0, (.bool y55))]) (rfl) (E := 4) (cs := [(.bool y55)]) (by kernel_rfl) hs62 (fun b63 w64 (hs65 : HS w0 F0 w64 F4 ((some b63, .cells ([(.bool y55)] : List Value).toArray 4 (0, 0)) :: es33_0 :: (sb b15 #[(.slice as33_0 s33.length ns33_0)] 64) :: Rf60)) => ?_)
   have hr67 : RowR tBool 4 F4 (some ⟨b63, 0, none⟩) 1 [y55] (some b63, .cells ([(.bool y55)] : List Value).toArray 4 (0, 0)) := RowR.lit ⟨rfl, rfl⟩ (by simp)
   obtain ⟨r68, hap69, h70⟩ := bind_some h57
   refine RWP.append (dst := (some 23)) (ty := 64) (g := none) (by kernel_rfl) rfl (x := (.tmp 20)) (y := (.tmp 22)) (t := 64) (t2 := 64) (by_ := 1) (z := (.bool false)) (a2 := (some ⟨b63, 0, none⟩)) (c2 := 1) (m := [y55]) (T := tBool) (E := 4) (a := as33_0) (cap := ns33_0) (l := s33) rfl rfl (by kernel_rfl) (by decide) (by kernel_rfl) (by kernel_rfl) rfl oBool hs65 (k := 1) rfl hrs33_0 (RowR.rd hs65 (k := 0) rfl hr67) (r := r68) hap69 (fun a71 n72 e73 w74 (hs75 : HS w0 F0 w74 F4 ((some b63, .cells ([(.bool y55)] : List Value).toArray 4 (0, 0)) :: e73 :: (sb b15 #[(.slice as33_0 s33.length ns33_0)] 64) :: Rf60)) hr76 => ?_)
   refine RWP.store (ty := 0) (g := none) (by kernel_rfl) rfl (x := (.tmp 7)) (y := (.tmp 23)) (t := 64) (gg := false) (s := 1) (v := (.slice a71 r68.length n72)) (b := b15) (o := 0) (C := #[(.slice as33_0 s33.length ns33_0)]) rfl rfl (by kernel_rfl) hs75 (k := 2) rfl rfl rfl rfl (C' := #[(.slice a71 r68.length n72)]) rfl (fun w77 (hs78 : HS w0 F0 w77 F4 ((some b63, .cells ([(.bool y55)] : List Value).toArray 4 (0, 0)) :: e73 :: (sb b15 #[(.slice a71 r68.length n72)] 64) :: Rf60)) => ?_)
   refine RWP.nil ?_
   refine blockQ_nrm ?_
   have hs79 : HS w0 F0 w77 F4 (e73 :: (sb b15 #[(.slice a71 r68.length n72)] 64) :: Rf60) := hs78.drop 0
   obtain rfl := some_inj h70
   exact ⟨rfl, F4, [e73, (sb b15 #[(.slice a71 r68.length n72)] 64)], hs79, (Mem.le.refl _), ⟨a71, n72, e73, rfl, hr76⟩⟩
  ·rintro D81 w82 F5 _ hs83 le84 ⟨as37_0, ns37_0, es37_0, rfl, hrs37_0⟩
   have hs85 : HS w0 F0 w82 F5 [(some D81, (.deferred (some []))), es37_0, (sb b15 #[(.slice as37_0 r41.length ns37_0)] 64)] := hs83
   refine blockQ_nrm ?_
   refine thenQ_nrm ?_
   refine Sq (Rg [0, 1, 2] ?_)
   refine V 24 64 (ld 64 7 b15 0 false 1 (.slice as37_0 r41.length ns37_0) (hs85.ownAt (k := 2) rfl)) ?_
   refine V 4 64 (ma 24 (.slice as37_0 r41.length ns37_0)) ?_
   refine V 5 30 (mc (vi 0) (vi 0)) ?_
   refine Nt ?_
   refine CWP.ret (by kernel_rfl) ?_
   have hb89 := RowR.bound hrs37_0
   obtain ⟨F6, hs86, le87, hs88⟩ : ∃ Fq, HS w0 F0 w82 Fq [(some D81, (.deferred (some []))), (sb b15 #[(.slice as37_0 r41.length ns37_0)] 64)] ∧ Mem.le F5 Fq ∧ SlA tBool Fq as37_0 r41 := HS.freezeRow hs85 (k := 1) rfl hrs37_0
   have hs90 := hs86.put (k := 0) rfl (.deferred none)
   have hs91 : HS w0 F0 (putB w82 D81 (.deferred none)) F6 [(sb b15 #[(.slice as37_0 r41.length ns37_0)] 64)] := hs90.drop 0
   have hfin := some_inj h43
   subst hfin
   exact .inr ⟨D81, rfl, hs86.ownAt (k := 0) rfl, (.tuple #[(.slice as37_0 r41.length ns37_0), (vi 0)]), res_of (l := [.tmp 4, .tmp 5]) (by kernel_rfl) (vs := [(.slice as37_0 r41.length ns37_0), (vi 0)]) ⟨rfl, ⟨rfl, trivial⟩⟩, (.tuple #[(.slice as37_0 r41.length ns37_0), (vi 0)]), F6, rfl, hs91.clear, ⟨as37_0, ns37_0, rfl, hb89, hs88⟩⟩
end Go.Proofs.Ythbcnabeabcmlaa
namespace Go.Proofs.Ythbcnabeabcmlaa
open Go.Proofs
def law03_pair (N : Nat) (x0 : Bool) : Option System :=
 ((bif x0 then some [({ A := ({ Log := 0, Line := 0 } : Ref), B := ({ Log := 1, Line := 0 } : Ref) } : Tie)] else some ([] : List Tie)).bind fun j35 => some ({ Tracks := [({ Clock := ({ Slip := 10, Drift := 0, Jumps := ([] : List Int) } : Clock), Times := [100, 160] } : Track), ({ Clock := ({ Slip := 3, Drift := 0, Jumps := ([] : List Int) } : Clock), Times := [95, 158] } : Track)], Ties := j35, Window := 2 } : System))
theorem co_law03_pair : CallOk Try.prog 64 := fun _ _ => by kernel_rfl
set_option maxHeartbeats 4000000 in
set_option maxRecDepth 100000 in
theorem c_law03_pair (N : Nat) (w0 : World) (F0 : Mem) (hF : ∀ b o, F0 b = some o → w0.heap[b]? = some o) (x0 : Bool) (r : System) (h : law03_pair N x0 = some r) :
  Calls Try.prog 64 ([(.bool x0)] : List Value).toArray w0 (FRet w0 F0 fun F' v => ∃ (aq0_0 : Option Addr) (nq0_0 : Nat) (aq0_1 : Option Addr) (nq0_1 : Nat), v = (.agg (kSystem r aq0_0 nq0_0 aq0_1 nq0_1)) ∧ LC r.Tracks.length nq0_0 ∧ SlA tTrack F' aq0_0 r.Tracks ∧ LC r.Ties.length nq0_1 ∧ SlA tTie F' aq0_1 r.Ties) := by
 have hs0 := HS.start hF
 refine calls_of (n := 19) (c := bodyOf Try.f64) Try.func64 (by kernel_rfl) (by kernel_rfl) (by kernel_rfl) ?_
 refine Sq (Rg [0] ?_)
 refine Al 2 0 25 #[(.slice none ([] : List Track).length 0), (.slice none ([] : List Tie).length 0), (vi 0)] hs0 (fun b1 w2 (hs3 : HS w0 F0 w2 F0 [(sb b1 #[(.slice none ([] : List Track).length 0), (.slice none ([] : List Tie).length 0), (vi 0)] 25)]) => ?_)
 refine Nss (Rg [0, 1, 2, 3, 4, 5, 6, 7, 8, 9] ?_)
 refine V 4 52 (run_build2 (t := 52) (parts := #[(0, (.const (vi 10)))]) (vs := [(0, (vi 10))]) (rfl) (cs := [(vi 10), (vi 0), (.slice none ([] : List Int).length 0)]) (by kernel_rfl)) ?_
 refine RWP.buildSlice (dst := (some 5)) (ty := 50) (g := none) (by kernel_rfl) rfl (t := 50) (len := 2) (parts := #[(0, (.const (vi 100))), (1, (.const (vi 160)))]) (vs := [(0, (vi 100)), (1, (vi 160))]) (rfl) (E := 3) (cs := [(vi 100), (vi 160)]) (by kernel_rfl) hs3 (fun b4 w5 (hs6 : HS w0 F0 w5 F0 [(some b4, .cells ([(vi 100), (vi 160)] : List Value).toArray 3 (0, 0)), (sb b1 #[(.slice none ([] : List Track).length 0), (.slice none ([] : List Tie).length 0), (vi 0)] 25)]) => ?_)
 have hr8 : RowR tInt 3 F0 (some ⟨b4, 0, none⟩) 2 [100, 160] (some b4, .cells ([(vi 100), (vi 160)] : List Value).toArray 3 (0, 0)) := RowR.lit ⟨rfl, ⟨rfl, rfl⟩⟩ (by simp)
 refine V 6 54 (run_build2 (t := 54) (parts := #[(0, (.tmp 4)), (1, (.tmp 5))]) (vs := [(0, (.agg #[(vi 10), (vi 0), (.slice none ([] : List Int).length 0)])), (1, (.slice (some ⟨b4, 0, none⟩) [100, 160].length 2))]) (rfl) (cs := [(vi 10), (vi 0), (.slice none ([] : List Int).length 0), (.slice (some ⟨b4, 0, none⟩) [100, 160].length 2)]) (by kernel_rfl)) ?_
 refine V 7 52 (run_build2 (t := 52) (parts := #[(0, (.const (vi 3)))]) (vs := [(0, (vi 3))]) (rfl) (cs := [(vi 3), (vi 0), (.slice none ([] : List Int).length 0)]) (by kernel_rfl)) ?_
 refine RWP.buildSlice (dst := (some 8)) (ty := 50) (g := none) (by kernel_rfl) rfl (t := 50) (len := 2) (parts := #[(0, (.const (vi 95))), (1, (.const (vi 158)))]) (vs := [(0, (vi 95)), (1, (vi 158))]) (rfl) (E := 3) (cs := [(vi 95), (vi 158)]) (by kernel_rfl) hs6 (fun b9 w10 (hs11 : HS w0 F0 w10 F0 [(some b9, .cells ([(vi 95), (vi 158)] : List Value).toArray 3 (0, 0)), (some b4, .cells ([(vi 100), (vi 160)] : List Value).toArray 3 (0, 0)), (sb b1 #[(.slice none ([] : List Track).length 0), (.slice none ([] : List Tie).length 0), (vi 0)] 25)]) => ?_)
 have hr13 : RowR tInt 3 F0 (some ⟨b9, 0, none⟩) 2 [95, 158] (some b9, .cells ([(vi 95), (vi 158)] : List Value).toArray 3 (0, 0)) := RowR.lit ⟨rfl, ⟨rfl, rfl⟩⟩ (by simp)
 refine V 9 54 (run_build2 (t := 54) (parts := #[(0, (.tmp 7)), (1, (.tmp 8))]) (vs := [(0, (.agg #[(vi 3), (vi 0), (.slice none ([] : List Int).length 0)])), (1, (.slice (some ⟨b9, 0, none⟩) [95, 158].length 2))]) (rfl) (cs := [(vi 3), (vi 0), (.slice none ([] : List Int).length 0), (.slice (some ⟨b9, 0, none⟩) [95, 158].length 2)]) (by kernel_rfl)) ?_
 have hb17 := RowR.bound hr8
 obtain ⟨F1, hs14, le15, hs16⟩ : ∃ Fq, HS w0 F0 w10 Fq [(some b9, .cells ([(vi 95), (vi 158)] : List Value).toArray 3 (0, 0)), (sb b1 #[(.slice none ([] : List Track).length 0), (.slice none ([] : List Tie).length 0), (vi 0)] 25)] ∧ Mem.le F0 Fq ∧ SlA tInt Fq (some ⟨b4, 0, none⟩) [100, 160] := HS.freezeRow hs11 (k := 1) rfl hr8
 have hb21 := RowR.bound (hr13.mono le15)
 obtain ⟨F2, hs18, le19, hs20⟩ : ∃ Fq, HS w0 F0 w10 Fq [(sb b1 #[(.slice none ([] : List Track).length 0), (.slice none ([] : List Tie).length 0), (vi 0)] 25)] ∧ Mem.le F1 Fq ∧ SlA tInt Fq (some ⟨b9, 0, none⟩) [95, 158] := HS.freezeRow hs14 (k := 0) rfl (hr13.mono le15)
 refine RWP.buildSlice (dst := (some 10)) (ty := 22) (g := none) (by kernel_rfl) rfl (t := 22) (len := 2) (parts := #[(0, (.tmp 6)), (1, (.tmp 9))]) (vs := [(0, (.agg #[(vi 10), (vi 0), (.slice none ([] : List Int).length 0), (.slice (some ⟨b4, 0, none⟩) [100, 160].length 2)])), (1, (.agg #[(vi 3), (vi 0), (.slice none ([] : List Int).length 0), (.slice (some ⟨b9, 0, none⟩) [95, 158].length 2)]))]) (rfl) (E := 54) (cs := [(vi 10), (vi 0), (.slice none ([] : List Int).length 0), (.slice (some ⟨b4, 0, none⟩) [100, 160].length 2), (vi 3), (vi 0), (.slice none ([] : List Int).length 0), (.slice (some ⟨b9, 0, none⟩) [95, 158].length 2)]) (by kernel_rfl) hs18 (fun b22 w23 (hs24 : HS w0 F0 w23 F2 [(some b22, .cells ([(vi 10), (vi 0), (.slice none ([] : List Int).length 0), (.slice (some ⟨b4, 0, none⟩) [100, 160].length 2), (vi 3), (vi 0), (.slice none ([] : List Int).length 0), (.slice (some ⟨b9, 0, none⟩) [95, 158].length 2)] : List Value).toArray 54 (0, 0)), (sb b1 #[(.slice none ([] : List Track).length 0), (.slice none ([] : List Tie).length 0), (vi 0)] 25)]) => ?_)
 have hr26 : RowR tTrack 54 F2 (some ⟨b22, 0, none⟩) 2 [({ Clock := ({ Slip := 10, Drift := 0, Jumps := ([] : List Int) } : Clock), Times := [100, 160] } : Track), ({ Clock := ({ Slip := 3, Drift := 0, Jumps := ([] : List Int) } : Clock), Times := [95, 158] } : Track)] (some b22, .cells ([(vi 10), (vi 0), (.slice none ([] : List Int).length 0), (.slice (some ⟨b4, 0, none⟩) [100, 160].length 2), (vi 3), (vi 0), (.slice none ([] : List Int).length 0), (.slice (some ⟨b9, 0, none⟩) [95, 158].length 2)] : List Value).toArray 54 (0, 0)) := RowR.lit ⟨⟨none, 0, (some ⟨b4, 0, none⟩), 2, rfl, LC.nil, (.inl rfl), hb17, (SlA.mono hs16 le19)⟩, ⟨⟨none, 0, (some ⟨b9, 0, none⟩), 2, rfl, LC.nil, (.inl rfl), hb21, hs20⟩, rfl⟩⟩ (by simp)
 refine V 11 25 (run_build2 (t := 25) (parts := #[(0, (.tmp 10)), (2, (.const (vi 2)))]) (vs := [(0, (.slice (some ⟨b22, 0, none⟩) [({ Clock := ({ Slip := 10, Drift := 0, Jumps := ([] : List Int) } : Clock), Times := [100, 160] } : Track), ({ Clock := ({ Slip := 3, Drift := 0, Jumps := ([] : List Int) } : Clock), Times := [95, 158] } : Track)].length 2)), (2, (vi 2))]) (rfl) (cs := [(.slice (some ⟨b22, 0, none⟩) [({ Clock := ({ Slip := 10, Drift := 0, Jumps := ([] : List Int) } : Clock), Times := [100, 160] } : Track), ({ Clock := ({ Slip := 3, Drift := 0, Jumps := ([] : List Int) } : Clock), Times := [95, 158] } : Track)].length 2), (.slice none ([] : List Tie).length 0), (vi 2)]) (by kernel_rfl)) ?_
 refine Al 3 0 25 #[(.slice none ([] : List Track).length 0), (.slice none ([] : List Tie).length 0), (vi 0)] hs24 (fun b27 w28 (hs29 : HS w0 F0 w28 F2 [(sb b27 #[(.slice none ([] : List Track).length 0), (.slice none ([] : List Tie).length 0), (vi 0)] 25), (some b22, .cells ([(vi 10), (vi 0), (.slice none ([] : List Int).length 0), (.slice (some ⟨b4, 0, none⟩) [100, 160].length 2), (vi 3), (vi 0), (.slice none ([] : List Int).length 0), (.slice (some ⟨b9, 0, none⟩) [95, 158].length 2)] : List Value).toArray 54 (0, 0)), (sb b1 #[(.slice none ([] : List Track).length 0), (.slice none ([] : List Tie).length 0), (vi 0)] 25)]) => ?_)
 refine RWP.store (ty := 0) (g := none) (by kernel_rfl) rfl (x := (.tmp 3)) (y := (.tmp 11)) (t := 25) (gg := true) (s := 3) (v := (.agg #[(.slice (some ⟨b22, 0, none⟩) [({ Clock := ({ Slip := 10, Drift := 0, Jumps := ([] : List Int) } : Clock), Times := [100, 160] } : Track), ({ Clock := ({ Slip := 3, Drift := 0, Jumps := ([] : List Int) } : Clock), Times := [95, 158] } : Track)].length 2), (.slice none ([] : List Tie).length 0), (vi 2)])) (b := b27) (o := 0) (C := #[(.slice none ([] : List Track).length 0), (.slice none ([] : List Tie).length 0), (vi 0)]) rfl rfl (by kernel_rfl) hs29 (k := 0) rfl rfl rfl rfl (C' := #[(.slice (some ⟨b22, 0, none⟩) [({ Clock := ({ Slip := 10, Drift := 0, Jumps := ([] : List Int) } : Clock), Times := [100, 160] } : Track), ({ Clock := ({ Slip := 3, Drift := 0, Jumps := ([] : List Int) } : Clock), Times := [95, 158] } : Track)].length 2), (.slice none ([] : List Tie).length 0), (vi 2)]) rfl (fun w30 (hs31 : HS w0 F0 w30 F2 [(sb b27 #[(.slice (some ⟨b22, 0, none⟩) [({ Clock := ({ Slip := 10, Drift := 0, Jumps := ([] : List Int) } : Clock), Times := [100, 160] } : Track), ({ Clock := ({ Slip := 3, Drift := 0, Jumps := ([] : List Int) } : Clock), Times := [95, 158] } : Track)].length 2), (.slice none ([] : List Tie).length 0), (vi 2)] 25), (some b22, .cells ([(vi 10), (vi 0), (.slice none ([] : List Int).length 0), (.slice (some ⟨b4, 0, none⟩) [100, 160].length 2), (vi 3), (vi 0), (.slice none ([] : List Int).length 0), (.slice (some ⟨b9, 0, none⟩) [95, 158].length 2)] : List Value).toArray 54 (0, 0)), (sb b1 #[(.slice none ([] : List Track).length 0), (.slice none ([] : List Tie).length 0), (vi 0)] 25)]) => ?_)
 refine Nss ?_
 refine Sq (Rg [0] ?_)
 refine V 12 4 (mv 0 (.bool x0)) ?_
 refine Nt ?_
 obtain ⟨j35, hj39, h40⟩ := bind_some h
 refine CWP.cut (fun f w => ∃ (F3 : Mem) (aj35_0 : Option Addr) (nj35_0 : Nat), HS w0 F0 w F3 [(sb b27 #[(.slice (some ⟨b22, 0, none⟩) [({ Clock := ({ Slip := 10, Drift := 0, Jumps := ([] : List Int) } : Clock), Times := [100, 160] } : Track), ({ Clock := ({ Slip := 3, Drift := 0, Jumps := ([] : List Int) } : Clock), Times := [95, 158] } : Track)].length 2), (.slice aj35_0 j35.length nj35_0), (vi 2)] 25), (some b22, .cells ([(vi 10), (vi 0), (.slice none ([] : List Int).length 0), (.slice (some ⟨b4, 0, none⟩) [100, 160].length 2), (vi 3), (vi 0), (.slice none ([] : List Int).length 0), (.slice (some ⟨b9, 0, none⟩) [95, 158].length 2)] : List Value).toArray 54 (0, 0)), (sb b1 #[(.slice none ([] : List Track).length 0), (.slice none ([] : List Tie).length 0), (vi 0)] 25)] ∧ Mem.le F2 F3 ∧ f.d = [] ∧ f 2 = (.pointer (some ⟨b1, 0, none⟩)) ∧ f 3 = (.pointer (some ⟨b27, 0, none⟩)) ∧ LC j35.length nj35_0 ∧ SlA tTie F3 aj35_0 j35) ?_ ?_
 ·refine CWP.cond (t := x0) (by kernel_rfl) rfl (fun hb41 => ?_) (fun hb41 => ?_)
  ·have h42 := cond_t hj39 hb41
   refine Rg [0, 1, 2, 3, 4, 5] ?_
   refine V 13 27 (run_build2 (t := 27) (parts := #[(0, (.const (vi 0))), (1, (.const (vi 0)))]) (vs := [(0, (vi 0)), (1, (vi 0))]) (rfl) (cs := [(vi 0), (vi 0)]) (by kernel_rfl)) ?_
   refine V 14 27 (run_build2 (t := 27) (parts := #[(0, (.const (vi 1))), (1, (.const (vi 0)))]) (vs := [(0, (vi 1)), (1, (vi 0))]) (rfl) (cs := [(vi 1), (vi 0)]) (by kernel_rfl)) ?_
   refine V 15 46 (run_build2 (t := 46) (parts := #[(0, (.tmp 13)), (1, (.tmp 14))]) (vs := [(0, (.agg #[(vi 0), (vi 0)])), (1, (.agg #[(vi 1), (vi 0)]))]) (rfl) (cs := [(vi 0), (vi 0), (vi 1), (vi 0)]) (by kernel_rfl)) ?_
   refine RWP.buildSlice (dst := (some 16)) (ty := 23) (g := none) (by kernel_rfl) rfl (t := 23) (len := 1) (parts := #[(0, (.tmp 15))]) (vs := [(0, (.agg #[(vi 0), (vi 0), (vi 1), (vi 0)]))]) (rfl) (E := 46) (cs := [(vi 0), (vi 0), (vi 1), (vi 0)]) (by kernel_rfl) hs31 (fun b43 w44 (hs45 : HS w0 F0 w44 F2 [(some b43, .cells ([(vi 0), (vi 0), (vi 1), (vi 0)] : List Value).toArray 46 (0, 0)), (sb b27 #[(.slice (some ⟨b22, 0, none⟩) [({ Clock := ({ Slip := 10, Drift := 0, Jumps := ([] : List Int) } : Clock), Times := [100, 160] } : Track), ({ Clock := ({ Slip := 3, Drift := 0, Jumps := ([] : List Int) } : Clock), Times := [95, 158] } : Track)].length 2), (.slice none ([] : List Tie).length 0), (vi 2)] 25), (some b22, .cells ([(vi 10), (vi 0), (.slice none ([] : List Int).length 0), (.slice (some ⟨b4, 0, none⟩) [100, 160].length 2), (vi 3), (vi 0), (.slice none ([] : List Int).length 0), (.slice (some ⟨b9, 0, none⟩) [95, 158].length 2)] : List Value).toArray 54 (0, 0)), (sb b1 #[(.slice none ([] : List Track).length 0), (.slice none ([] : List Tie).length 0), (vi 0)] 25)]) => ?_)
   have hr47 : RowR tTie 46 F2 (some ⟨b43, 0, none⟩) 1 [({ A := ({ Log := 0, Line := 0 } : Ref), B := ({ Log := 1, Line := 0 } : Ref) } : Tie)] (some b43, .cells ([(vi 0), (vi 0), (vi 1), (vi 0)] : List Value).toArray 46 (0, 0)) := RowR.lit ⟨rfl, rfl⟩ (by simp)
   refine V 17 0 (fa 25 3 1 1 1 b27 0 1) ?_
   refine RWP.store (ty := 0) (g := none) (by kernel_rfl) rfl (x := (.tmp 17)) (y := (.tmp 16)) (t := 23) (gg := false) (s := 1) (v := (.slice (some ⟨b43, 0, none⟩) [({ A := ({ Log := 0, Line := 0 } : Ref), B := ({ Log := 1, Line := 0 } : Ref) } : Tie)].length 1)) (b := b27) (o := 1) (C := #[(.slice (some ⟨b22, 0, none⟩) [({ Clock := ({ Slip := 10, Drift := 0, Jumps := ([] : List Int) } : Clock), Times := [100, 160] } : Track), ({ Clock := ({ Slip := 3, Drift := 0, Jumps := ([] : List Int) } : Clock), Times := [95, 158] } : Track)].length 2), (.slice none ([] : List Tie).length 0), (vi 2)]) rfl rfl (by kernel_rfl) hs45 (k := 1) rfl rfl rfl rfl (C' := #[(.slice (some ⟨b22, 0, none⟩) [({ Clock := ({ Slip := 10, Drift := 0, Jumps := ([] : List Int) } : Clock), Times := [100, 160] } : Track), ({ Clock := ({ Slip := 3, Drift := 0, Jumps := ([] : List Int) } : Clock), Times := [95, 158] } : Track)].length 2), (.slice (some ⟨b43, 0, none⟩) [({ A := ({ Log := 0, Line := 0 } : Ref), B := ({ Log := 1, Line := 0 } : Ref) } : Tie)].length 1), (vi 2)]) rfl (fun w48 (hs49 : HS w0 F0 w48 F2 [(some b43, .cells ([(vi 0), (vi 0), (vi 1), (vi 0)] : List Value).toArray 46 (0, 0)), (sb b27 #[(.slice (some ⟨b22, 0, none⟩) [({ Clock := ({ Slip := 10, Drift := 0, Jumps := ([] : List Int) } : Clock), Times := [100, 160] } : Track), ({ Clock := ({ Slip := 3, Drift := 0, Jumps := ([] : List Int) } : Clock), Times := [95, 158] } : Track)].length 2), (.slice (some ⟨b43, 0, none⟩) [({ A := ({ Log := 0, Line := 0 } : Ref), B := ({ Log := 1, Line := 0 } : Ref) } : Tie)].length 1), (vi 2)] 25), (some b22, .cells ([(vi 10), (vi 0), (.slice none ([] : List Int).length 0), (.slice (some ⟨b4, 0, none⟩) [100, 160].length 2), (vi 3), (vi 0), (.slice none ([] : List Int).length 0), (.slice (some ⟨b9, 0, none⟩) [95, 158].length 2)] : List Value).toArray 54 (0, 0)), (sb b1 #[(.slice none ([] : List Track).length 0), (.slice none ([] : List Tie).length 0), (vi 0)] 25)]) => ?_)
   refine RWP.nil ?_
   obtain rfl := some_inj h42
   have hb53 := RowR.bound hr47
   obtain ⟨F4, hs50, le51, hs52⟩ : ∃ Fq, HS w0 F0 w48 Fq [(sb b27 #[(.slice (some ⟨b22, 0, none⟩) [({ Clock := ({ Slip := 10, Drift := 0, Jumps := ([] : List Int) } : Clock), Times := [100, 160] } : Track), ({ Clock := ({ Slip := 3, Drift := 0, Jumps := ([] : List Int) } : Clock), Times := [95, 158] } : Track)].length 2), (.slice (some ⟨b43, 0, none⟩) [({ A := ({ Log := 0, Line := 0 } : Ref), B := ({ Log := 1, Line := 0 } : Ref) } : Tie)].length 1), (vi 2)] 25), (some b22, .cells ([(vi 10), (vi 0), (.slice none ([] : List Int).length 0), (.slice (some ⟨b4, 0, none⟩) [100, 160].length 2), (vi 3), (vi 0), (.slice none ([] : List Int).length 0), (.slice (some ⟨b9, 0, none⟩) [95, 158].length 2)] : List Value).toArray 54 (0, 0)), (sb b1 #[(.slice none ([] : List Track).length 0), (.slice none ([] : List Tie).length 0), (vi 0)] 25)] ∧ Mem.le F2 Fq ∧ SlA tTie Fq (some ⟨b43, 0, none⟩) [({ A := ({ Log := 0, Line := 0 } : Ref), B := ({ Log := 1, Line := 0 } : Ref) } : Tie)] := HS.freezeRow hs49 (k := 0) rfl hr47
   exact .inl ⟨rfl, F4, (some ⟨b43, 0, none⟩), 1, hs50, le51, rfl, rfl, rfl, hb53, hs52⟩
  ·have h54 := cond_f hj39 hb41
   refine Sc ?_
   obtain rfl := some_inj h54
   exact .inl ⟨rfl, F2, none, 0, hs31, (Mem.le.refl _), rfl, rfl, rfl, LC.nil, (.inl rfl)⟩
 ·rintro f w32 ⟨F3, aj35_0, nj35_0, hs33, le34, e36, e37, e38, hbj35_0, hsj35_0⟩
  refine thenQ_nrm ?_
  refine Sq (Rg [0, 1] ?_)
  refine V 18 25 (ld 25 3 b27 0 true 3 (.agg #[(.slice (some ⟨b22, 0, none⟩) [({ Clock := ({ Slip := 10, Drift := 0, Jumps := ([] : List Int) } : Clock), Times := [100, 160] } : Track), ({ Clock := ({ Slip := 3, Drift := 0, Jumps := ([] : List Int) } : Clock), Times := [95, 158] } : Track)].length 2), (.slice aj35_0 j35.length nj35_0), (vi 2)]) (hs33.ownAt (k := 0) rfl) e38) ?_
  refine RWP.store (ty := 0) (g := none) (by kernel_rfl) rfl (x := (.tmp 2)) (y := (.tmp 18)) (t := 25) (gg := true) (s := 3) (v := (.agg #[(.slice (some ⟨b22, 0, none⟩) [({ Clock := ({ Slip := 10, Drift := 0, Jumps := ([] : List Int) } : Clock), Times := [100, 160] } : Track), ({ Clock := ({ Slip := 3, Drift := 0, Jumps := ([] : List Int) } : Clock), Times := [95, 158] } : Track)].length 2), (.slice aj35_0 j35.length nj35_0), (vi 2)])) (b := b1) (o := 0) (C := #[(.slice none ([] : List Track).length 0), (.slice none ([] : List Tie).length 0), (vi 0)]) e37 rfl (by kernel_rfl) hs33 (k := 2) rfl rfl rfl rfl (C' := #[(.slice (some ⟨b22, 0, none⟩) [({ Clock := ({ Slip := 10, Drift := 0, Jumps := ([] : List Int) } : Clock), Times := [100, 160] } : Track), ({ Clock := ({ Slip := 3, Drift := 0, Jumps := ([] : List Int) } : Clock), Times := [95, 158] } : Track)].length 2), (.slice aj35_0 j35.length nj35_0), (vi 2)]) rfl (fun w55 (hs56 : HS w0 F0 w55 F3 [(sb b27 #[(.slice (some ⟨b22, 0, none⟩) [({ Clock := ({ Slip := 10, Drift := 0, Jumps := ([] : List Int) } : Clock), Times := [100, 160] } : Track), ({ Clock := ({ Slip := 3, Drift := 0, Jumps := ([] : List Int) } : Clock), Times := [95, 158] } : Track)].length 2), (.slice aj35_0 j35.length nj35_0), (vi 2)] 25), (some b22, .cells ([(vi 10), (vi 0), (.slice none ([] : List Int).length 0), (.slice (some ⟨b4, 0, none⟩) [100, 160].length 2), (vi 3), (vi 0), (.slice none ([] : List Int).length 0), (.slice (some ⟨b9, 0, none⟩) [95, 158].length 2)] : List Value).toArray 54 (0, 0)), (sb b1 #[(.slice (some ⟨b22, 0, none⟩) [({ Clock := ({ Slip := 10, Drift := 0, Jumps := ([] : List Int) } : Clock), Times := [100, 160] } : Track), ({ Clock := ({ Slip := 3, Drift := 0, Jumps := ([] : List Int) } : Clock), Times := [95, 158] } : Track)].length 2), (.slice aj35_0 j35.length nj35_0), (vi 2)] 25)]) => ?_)
  refine Nt ?_
  refine CWP.ret (by kernel_rfl) ?_
  have hb60 := RowR.bound (hr26.mono le34)
  obtain ⟨F5, hs57, le58, hs59⟩ : ∃ Fq, HS w0 F0 w55 Fq [(sb b27 #[(.slice (some ⟨b22, 0, none⟩) [({ Clock := ({ Slip := 10, Drift := 0, Jumps := ([] : List Int) } : Clock), Times := [100, 160] } : Track), ({ Clock := ({ Slip := 3, Drift := 0, Jumps := ([] : List Int) } : Clock), Times := [95, 158] } : Track)].length 2), (.slice aj35_0 j35.length nj35_0), (vi 2)] 25), (sb b1 #[(.slice (some ⟨b22, 0, none⟩) [({ Clock := ({ Slip := 10, Drift := 0, Jumps := ([] : List Int) } : Clock), Times := [100, 160] } : Track), ({ Clock := ({ Slip := 3, Drift := 0, Jumps := ([] : List Int) } : Clock), Times := [95, 158] } : Track)].length 2), (.slice aj35_0 j35.length nj35_0), (vi 2)] 25)] ∧ Mem.le F3 Fq ∧ SlA tTrack Fq (some ⟨b22, 0, none⟩) [({ Clock := ({ Slip := 10, Drift := 0, Jumps := ([] : List Int) } : Clock), Times := [100, 160] } : Track), ({ Clock := ({ Slip := 3, Drift := 0, Jumps := ([] : List Int) } : Clock), Times := [95, 158] } : Track)] := HS.freezeRow hs56 (k := 1) rfl (hr26.mono le34)
  have hfin := some_inj h40
  subst hfin
  exact ⟨e36, (.agg #[(.slice (some ⟨b22, 0, none⟩) [({ Clock := ({ Slip := 10, Drift := 0, Jumps := ([] : List Int) } : Clock), Times := [100, 160] } : Track), ({ Clock := ({ Slip := 3, Drift := 0, Jumps := ([] : List Int) } : Clock), Times := [95, 158] } : Track)].length 2), (.slice aj35_0 j35.length nj35_0), (vi 2)]), res_of (l := [.cell 2 25]) (by kernel_rfl) (vs := [(.agg #[(.slice (some ⟨b22, 0, none⟩) [({ Clock := ({ Slip := 10, Drift := 0, Jumps := ([] : List Int) } : Clock), Times := [100, 160] } : Track), ({ Clock := ({ Slip := 3, Drift := 0, Jumps := ([] : List Int) } : Clock), Times := [95, 158] } : Track)].length 2), (.slice aj35_0 j35.length nj35_0), (vi 2)])]) ⟨b1, 0, e37, run_loadVar' (t := 25) (g := true) (s := 3) (by kernel_rfl) (hs57.ownAt (k := 1) rfl) rfl (by decide), trivial⟩, (.agg #[(.slice (some ⟨b22, 0, none⟩) [({ Clock := ({ Slip := 10, Drift := 0, Jumps := ([] : List Int) } : Clock), Times := [100, 160] } : Track), ({ Clock := ({ Slip := 3, Drift := 0, Jumps := ([] : List Int) } : Clock), Times := [95, 158] } : Track)].length 2), (.slice aj35_0 j35.length nj35_0), (vi 2)]), F5, rfl, hs57.clear, ⟨(some ⟨b22, 0, none⟩), 2, aj35_0, nj35_0, rfl, hb60, hs59, hbj35_0, (SlA.mono hsj35_0 le58)⟩⟩
end Go.Proofs.Ythbcnabeabcmlaa
namespace Go.Proofs.Ythbcnabeabcmlaa
open Go.Proofs
def law03_awake (N : Nat)  : Option Bool :=
 ((law03_pair N true).bind fun r1 => ((clocks_Times N r1).bind fun r9 => ((law03_pair N true).bind fun r17 => ((clocks_Offset N r17 ({ Log := 0, Line := 0 } : Ref)).bind fun r25 => ((law03_pair N false).bind fun r38 => ((clocks_Accept N r38 ([({ A := ({ Log := 0, Line := 0 } : Ref), B := ({ Log := 1, Line := 1 } : Ref) } : Tie), ({ A := ({ Log := 0, Line := 0 } : Ref), B := ({ Log := 1, Line := 0 } : Ref) } : Tie)])).bind fun r55 => ((law03_pair N false).bind fun r63 => ((clocks_Before N r63 ({ Log := 1, Line := 0 } : Ref) ({ Log := 0, Line := 1 } : Ref)).bind fun r71 => ((bif (r9.2 != 0) then some true else (bif ((r9.1.length : Int) != 2) then some true else ((idx r9.1 0).bind fun x99 => (bif ((x99.length : Int) != 2) then some true else ((idx r9.1 0).bind fun x116 => ((idx x116 0).bind fun x122 => (bif (!((x122.Lo == 90) && ((x122.Hi == 100) && true))) then some true else ((idx r9.1 0).bind fun x139 => ((idx x139 1).bind fun x145 => some (!((x145.Lo == 150) && ((x145.Hi == 161) && true)))))))))))).bind fun j82 => (bif j82 then some false else ((bif (r25.2 == 0) then (bif ((r25.1.Lo == 0) && ((r25.1.Hi == 10) && true)) then (bif (r55.2 == 0) then (bif ((r55.1.length : Int) == 2) then ((idx r55.1 0).bind fun x178 => (bif (!x178) then ((idx r55.1 1).bind fun x194 => (bif x194 then (bif r71.1 then some (r71.2 == 0) else some false) else some false)) else some false)) else some false) else some false) else some false) else some false).bind fun j165 => some j165)))))))))))
theorem co_law03_awake : CallOk Try.prog 15 := fun _ _ => by kernel_rfl
set_option maxHeartbeats 4000000 in
set_option maxRecDepth 100000 in
theorem c_law03_awake (N : Nat) (w0 : World) (F0 : Mem) (hF : ∀ b o, F0 b = some o → w0.heap[b]? = some o)  (r : Bool) (h : law03_awake N  = some r) :
  Calls Try.prog 15 ([] : List Value).toArray w0 (FRet w0 F0 fun F' v => v = (.bool r)) := by
 have hs0 := HS.start hF
 refine calls_of (n := 105) (c := bodyOf Try.f15) Try.func15 (by kernel_rfl) (by kernel_rfl) (by kernel_rfl) ?_
 refine Sq (Rg [0] ?_)
 refine V 0 4 (mc (.bool false) (.bool false)) ?_
 refine Nss (Rg [0, 1, 2, 3, 4, 5, 6] ?_)
 obtain ⟨r1, hr2, h3⟩ := bind_some h
 refine Cl 10 25 64 #[(.const (.bool true))] #[4] co_law03_pair hs0 (c_law03_pair N w0 F0 hs0.pers (true) _ hr2) ?_
 intro v4 F1 w5 hs6 le7 hp8
 obtain ⟨ar1_0_0, nr1_0_0, ar1_0_1, nr1_0_1, rfl, hbr1_0_0, hsr1_0_0, hbr1_0_1, hsr1_0_1⟩ := hp8
 obtain ⟨r9, hr10, h11⟩ := bind_some h3
 refine Cl 11 34 19 #[(.tmp 10)] #[25] co_clocks_Times hs6 (c_clocks_Times N w5 F1 hs6.pers (r1) ar1_0_0 nr1_0_0 hbr1_0_0 hsr1_0_0 ar1_0_1 nr1_0_1 hbr1_0_1 hsr1_0_1 _ hr10) ?_
 intro v12 F2 w13 hs14 le15 hp16
 obtain ⟨ar9_0_0, nr9_0_0, rfl, hbr9_0_0, hsr9_0_0⟩ := hp16
 refine V 9 34 (mv 11 (.tuple #[(.slice ar9_0_0 r9.1.length nr9_0_0), (vi r9.2)])) ?_
 refine V 12 33 (ex 9 0 (.slice ar9_0_0 r9.1.length nr9_0_0) (vs := #[(.slice ar9_0_0 r9.1.length nr9_0_0), (vi r9.2)])) ?_
 refine V 13 30 (ex 9 1 (vi r9.2) (vs := #[(.slice ar9_0_0 r9.1.length nr9_0_0), (vi r9.2)])) ?_
 refine V 1 33 (ma 12 (.slice ar9_0_0 r9.1.length nr9_0_0)) ?_
 refine V 2 30 (ma 13 (vi r9.2)) ?_
 refine Nss (Rg [0, 1, 2, 3, 4, 5, 6, 7, 8] ?_)
 obtain ⟨r17, hr18, h19⟩ := bind_some h11
 refine Cl 15 25 64 #[(.const (.bool true))] #[4] co_law03_pair hs14 (c_law03_pair N w13 F2 hs14.pers (true) _ hr18) ?_
 intro v20 F3 w21 hs22 le23 hp24
 obtain ⟨ar17_0_0, nr17_0_0, ar17_0_1, nr17_0_1, rfl, hbr17_0_0, hsr17_0_0, hbr17_0_1, hsr17_0_1⟩ := hp24
 refine V 16 27 (run_build2 (t := 27) (parts := #[]) (vs := []) (rfl) (cs := [(vi 0), (vi 0)]) (by kernel_rfl)) ?_
 obtain ⟨r25, hr26, h27⟩ := bind_some h19
 refine Cl 17 39 24 #[(.tmp 15), (.tmp 16)] #[25, 27] co_clocks_Offset hs22 (c_clocks_Offset N w21 F3 hs22.pers (r17) ar17_0_0 nr17_0_0 hbr17_0_0 hsr17_0_0 ar17_0_1 nr17_0_1 hbr17_0_1 hsr17_0_1 (({ Log := 0, Line := 0 } : Ref)) _ hr26) ?_
 intro v28 F4 w29 hs30 le31 hp32
 obtain rfl := hp32
 refine V 14 39 (mv 17 (.tuple #[(.agg (kSpan r25.1)), (vi r25.2)])) ?_
 refine V 18 38 (ex 14 0 (.agg (kSpan r25.1)) (vs := #[(.agg (kSpan r25.1)), (vi r25.2)])) ?_
 refine V 19 30 (ex 14 1 (vi r25.2) (vs := #[(.agg (kSpan r25.1)), (vi r25.2)])) ?_
 refine Al 3 0 38 #[(vi 0), (vi 0)] hs30 (fun b33 w34 (hs35 : HS w0 F0 w34 F4 [(sb b33 #[(vi 0), (vi 0)] 38)]) => ?_)
 refine RWP.store (ty := 0) (g := none) (by kernel_rfl) rfl (x := (.tmp 3)) (y := (.tmp 18)) (t := 38) (gg := true) (s := 2) (v := (.agg (kSpan r25.1))) (b := b33) (o := 0) (C := #[(vi 0), (vi 0)]) rfl rfl (by kernel_rfl) hs35 (k := 0) rfl rfl rfl rfl (C' := (kSpan r25.1)) rfl (fun w36 (hs37 : HS w0 F0 w36 F4 [(sb b33 (kSpan r25.1) 38)]) => ?_)
 refine V 4 30 (ma 19 (vi r25.2)) ?_
 refine Nss (Rg [0, 1, 2, 3, 4, 5, 6, 7, 8, 9, 10, 11, 12, 13] ?_)
 obtain ⟨r38, hr39, h40⟩ := bind_some h27
 refine Cl 21 25 64 #[(.const (.bool false))] #[4] co_law03_pair hs37 (c_law03_pair N w36 F4 hs37.pers (false) _ hr39) ?_
 intro v41 F5 w42 hs43 le44 hp45
 obtain ⟨ar38_0_0, nr38_0_0, ar38_0_1, nr38_0_1, rfl, hbr38_0_0, hsr38_0_0, hbr38_0_1, hsr38_0_1⟩ := hp45
 refine V 22 27 (run_build2 (t := 27) (parts := #[]) (vs := []) (rfl) (cs := [(vi 0), (vi 0)]) (by kernel_rfl)) ?_
 refine V 23 27 (run_build2 (t := 27) (parts := #[(0, (.const (vi 1))), (1, (.const (vi 1)))]) (vs := [(0, (vi 1)), (1, (vi 1))]) (rfl) (cs := [(vi 1), (vi 1)]) (by kernel_rfl)) ?_
 refine V 24 46 (run_build2 (t := 46) (parts := #[(0, (.tmp 22)), (1, (.tmp 23))]) (vs := [(0, (.agg #[(vi 0), (vi 0)])), (1, (.agg #[(vi 1), (vi 1)]))]) (rfl) (cs := [(vi 0), (vi 0), (vi 1), (vi 1)]) (by kernel_rfl)) ?_
 refine V 25 27 (run_build2 (t := 27) (parts := #[]) (vs := []) (rfl) (cs := [(vi 0), (vi 0)]) (by kernel_rfl)) ?_
 refine V 26 27 (run_build2 (t := 27) (parts := #[(0, (.const (vi 1)))]) (vs := [(0, (vi 1))]) (rfl) (cs := [(vi 1), (vi 0)]) (by kernel_rfl)) ?_
 refine V 27 46 (run_build2 (t := 46) (parts := #[(0, (.tmp 25)), (1, (.tmp 26))]) (vs := [(0, (.agg #[(vi 0), (vi 0)])), (1, (.agg #[(vi 1), (vi 0)]))]) (rfl) (cs := [(vi 0), (vi 0), (vi 1), (vi 0)]) (by kernel_rfl)) ?_
 refine RWP.buildSlice (dst := (some 28)) (ty := 23) (g := none) (by kernel_rfl) rfl (t := 23) (len := 2) (parts := #[(0, (.tmp 24)), (1, (.tmp 27))]) (vs := [(0, (.agg #[(vi 0), (vi 0), (vi 1), (vi 1)])), (1, (.agg #[(vi 0), (vi 0), (vi 1), (vi 0)]))]) (rfl) (E := 46) (cs := [(vi 0), (vi 0), (vi 1), (vi 1), (vi 0), (vi 0), (vi 1), (vi 0)]) (by kernel_rfl) hs43 (fun b46 w47 (hs48 : HS w0 F0 w47 F5 [(some b46, .cells ([(vi 0), (vi 0), (vi 1), (vi 1), (vi 0), (vi 0), (vi 1), (vi 0)] : List Value).toArray 46 (0, 0)), (sb b33 (kSpan r25.1) 38)]) => ?_)
 have hr50 : RowR tTie 46 F5 (some ⟨b46, 0, none⟩) 2 [({ A := ({ Log := 0, Line := 0 } : Ref), B := ({ Log := 1, Line := 1 } : Ref) } : Tie), ({ A := ({ Log := 0, Line := 0 } : Ref), B := ({ Log := 1, Line := 0 } : Ref) } : Tie)] (some b46, .cells ([(vi 0), (vi 0), (vi 1), (vi 1), (vi 0), (vi 0), (vi 1), (vi 0)] : List Value).toArray 46 (0, 0)) := RowR.lit ⟨rfl, ⟨rfl, rfl⟩⟩ (by simp)
 have hb54 := RowR.bound hr50
 obtain ⟨F6, hs51, le52, hs53⟩ : ∃ Fq, HS w0 F0 w47 Fq [(sb b33 (kSpan r25.1) 38)] ∧ Mem.le F5 Fq ∧ SlA tTie Fq (some ⟨b46, 0, none⟩) [({ A := ({ Log := 0, Line := 0 } : Ref), B := ({ Log := 1, Line := 1 } : Ref) } : Tie), ({ A := ({ Log := 0, Line := 0 } : Ref), B := ({ Log := 1, Line := 0 } : Ref) } : Tie)] := HS.freezeRow hs48 (k := 0) rfl hr50
 obtain ⟨r55, hr56, h57⟩ := bind_some h40
 refine Cl 29 65 42 #[(.tmp 21), (.tmp 28)] #[25, 23] co_clocks_Accept hs51 (c_clocks_Accept N w47 F6 hs51.pers (r38) ar38_0_0 nr38_0_0 hbr38_0_0 (SlA.mono hsr38_0_0 le52) ar38_0_1 nr38_0_1 hbr38_0_1 (SlA.mono hsr38_0_1 le52) ([({ A := ({ Log := 0, Line := 0 } : Ref), B := ({ Log := 1, Line := 1 } : Ref) } : Tie), ({ A := ({ Log := 0, Line := 0 } : Ref), B := ({ Log := 1, Line := 0 } : Ref) } : Tie)]) (some ⟨b46, 0, none⟩) 2 hb54 hs53 _ hr56) ?_
 intro v58 F7 w59 hs60 le61 hp62
 obtain ⟨ar55_0_0, nr55_0_0, rfl, hbr55_0_0, hsr55_0_0⟩ := hp62
 refine V 20 65 (mv 29 (.tuple #[(.slice ar55_0_0 r55.1.length nr55_0_0), (vi r55.2)])) ?_
 refine V 30 64 (ex 20 0 (.slice ar55_0_0 r55.1.length nr55_0_0) (vs := #[(.slice ar55_0_0 r55.1.length nr55_0_0), (vi r55.2)])) ?_
 refine V 31 30 (ex 20 1 (vi r55.2) (vs := #[(.slice ar55_0_0 r55.1.length nr55_0_0), (vi r55.2)])) ?_
 refine V 5 64 (ma 30 (.slice ar55_0_0 r55.1.length nr55_0_0)) ?_
 refine V 6 30 (ma 31 (vi r55.2)) ?_
 refine Nss (Rg [0, 1, 2, 3, 4, 5, 6, 7, 8] ?_)
 obtain ⟨r63, hr64, h65⟩ := bind_some h57
 refine Cl 33 25 64 #[(.const (.bool false))] #[4] co_law03_pair hs60 (c_law03_pair N w59 F7 hs60.pers (false) _ hr64) ?_
 intro v66 F8 w67 hs68 le69 hp70
 obtain ⟨ar63_0_0, nr63_0_0, ar63_0_1, nr63_0_1, rfl, hbr63_0_0, hsr63_0_0, hbr63_0_1, hsr63_0_1⟩ := hp70
 refine V 34 27 (run_build2 (t := 27) (parts := #[(0, (.const (vi 1)))]) (vs := [(0, (vi 1))]) (rfl) (cs := [(vi 1), (vi 0)]) (by kernel_rfl)) ?_
 refine V 35 27 (run_build2 (t := 27) (parts := #[(1, (.const (vi 1)))]) (vs := [(1, (vi 1))]) (rfl) (cs := [(vi 0), (vi 1)]) (by kernel_rfl)) ?_
 obtain ⟨r71, hr72, h73⟩ := bind_some h65
 refine Cl 36 43 30 #[(.tmp 33), (.tmp 34), (.tmp 35)] #[25, 27, 27] co_clocks_Before hs68 (c_clocks_Before N w67 F8 hs68.pers (r63) ar63_0_0 nr63_0_0 hbr63_0_0 hsr63_0_0 ar63_0_1 nr63_0_1 hbr63_0_1 hsr63_0_1 (({ Log := 1, Line := 0 } : Ref)) (({ Log := 0, Line := 1 } : Ref)) _ hr72) ?_
 intro v74 F9 w75 hs76 le77 hp78
 obtain rfl := hp78
 refine V 32 43 (mv 36 (.tuple #[(.bool r71.1), (vi r71.2)])) ?_
 refine V 37 4 (ex 32 0 (.bool r71.1) (vs := #[(.bool r71.1), (vi r71.2)])) ?_
 refine V 38 30 (ex 32 1 (vi r71.2) (vs := #[(.bool r71.1), (vi r71.2)])) ?_
 refine V 7 4 (ma 37 (.bool r71.1)) ?_
 refine V 8 30 (ma 38 (vi r71.2)) ?_
 refine Nss ?_
 refine Sq (Rg [0, 1, 2, 3, 4, 5, 6, 7, 8, 9, 10, 11, 12, 13, 14, 15, 16, 17, 18, 19, 20, 21, 22, 23, 24, 25, 26, 27, 28, 29, 30, 31] ?_)
 obtain ⟨j82, hj91, h92⟩ := bind_some h73
 refine RWP.cut (fun f w => ∃ (F10 : Mem), HS w0 F0 w F10 [(sb b33 (kSpan r25.1) 38)] ∧ Mem.le F9 F10 ∧ f.d = [] ∧ f 3 = (.pointer (some ⟨b33, 0, none⟩)) ∧ f 4 = (vi r25.2) ∧ f 5 = (.slice ar55_0_0 r55.1.length nr55_0_0) ∧ f 6 = (vi r55.2) ∧ f 7 = (.bool r71.1) ∧ f 8 = (vi r71.2) ∧ f 70 = (.bool j82)) ?_ ?_
 ·refine V 39 30 (mv 2 (vi r9.2)) ?_
  refine V 40 4 (run_neq (t := 30) (t' := 30) (x := (.tmp 39)) (y := (.const (vi 0))) (k := .i64) (a := r9.2) (b := 0) rfl rfl) ?_
  refine V 41 4 (mv 40 (.bool (r9.2 != 0))) ?_
  refine RWP.split (r9.2 != 0) (fun hb93 => ?_) (fun hb93 => ?_)
  ·have h94 := cond_t hj91 hb93
   refine Sk [42, 43, 44] 2 false 41 hb93 ?_
   refine V 45 4 (p1 41 (.const (.bool true)) (.tmp 44) (.bool true) hb93) ?_
   refine V 46 4 (mv 45 (.bool true)) ?_
   refine Sk [47, 48, 49, 50, 51] 7 false 46 rfl ?_
   refine V 52 4 (p1 46 (.const (.bool true)) (.tmp 51) (.bool true) rfl) ?_
   refine V 53 4 (mv 52 (.bool true)) ?_
   refine Sk [54, 55, 56, 57, 58, 59, 60] 14 false 53 rfl ?_
   refine V 61 4 (p1 53 (.const (.bool true)) (.tmp 60) (.bool true) rfl) ?_
   refine V 62 4 (mv 61 (.bool true)) ?_
   refine Sk [63, 64, 65, 66, 67, 68, 69] 23 false 62 rfl ?_
   refine V 70 4 (p1 62 (.const (.bool true)) (.tmp 69) (.bool true) rfl) ?_
   obtain rfl := some_inj h94
   exact RWP.nil ⟨rfl, F9, hs76, (Mem.le.refl _), rfl, rfl, rfl, rfl, rfl, rfl, rfl, rfl⟩
  ·have h95 := cond_f hj91 hb93
   refine Vg 42 33 2 false 41 hb93 (mv 1 (.slice ar9_0_0 r9.1.length nr9_0_0)) ?_
   refine Vg 43 3 2 false 41 hb93 (ln 42 33 ar9_0_0 r9.1.length nr9_0_0 36 1 24) ?_
   refine Vg 44 4 2 false 41 hb93 (run_neq (t := 3) (t' := 3) (x := (.tmp 43)) (y := (.const (vi 2))) (k := .i64) (a := (r9.1.length : Int)) (b := 2) rfl rfl) ?_
   refine V 45 4 (p0 41 (.const (.bool true)) (.tmp 44) (.bool ((r9.1.length : Int) != 2)) hb93) ?_
   refine V 46 4 (mv 45 (.bool ((r9.1.length : Int) != 2))) ?_
   refine RWP.split ((r9.1.length : Int) != 2) (fun hb96 => ?_) (fun hb96 => ?_)
   ·have h97 := cond_t h95 hb96
    refine Sk [47, 48, 49, 50, 51] 7 false 46 hb96 ?_
    refine V 52 4 (p1 46 (.const (.bool true)) (.tmp 51) (.bool true) hb96) ?_
    refine V 53 4 (mv 52 (.bool true)) ?_
    refine Sk [54, 55, 56, 57, 58, 59, 60] 14 false 53 rfl ?_
    refine V 61 4 (p1 53 (.const (.bool true)) (.tmp 60) (.bool true) rfl) ?_
    refine V 62 4 (mv 61 (.bool true)) ?_
    refine Sk [63, 64, 65, 66, 67, 68, 69] 23 false 62 rfl ?_
    refine V 70 4 (p1 62 (.const (.bool true)) (.tmp 69) (.bool true) rfl) ?_
    obtain rfl := some_inj h97
    exact RWP.nil ⟨rfl, F9, hs76, (Mem.le.refl _), rfl, rfl, rfl, rfl, rfl, rfl, rfl, rfl⟩
   ·have h98 := cond_f h95 hb96
    refine Vg 47 33 7 false 46 hb96 (mv 1 (.slice ar9_0_0 r9.1.length nr9_0_0)) ?_
    obtain ⟨x99, hx100, h102⟩ := bind_some h98
    obtain ⟨hi101, hx100'⟩ := idx_spec hx100
    obtain ⟨b103, o104, C105, E106, fz107, rfl, hF109, hE110⟩ := SlA.open (SlA.mono hsr9_0_0 ((((((le23.trans le31).trans le44).trans le52).trans le61).trans le69).trans le77)) hx100'
    obtain ⟨ae111_0, ne111_0, hc112, hbe111_0, hse111_0⟩ := hE110 _ _ hx100'
    refine Vg 48 0 7 false 46 hb96 (run_index (t := 33) (x := (.tmp 47)) (y := (.const (vi 0))) (b := b103) (o := o104) (E := 36) (s := 1) (by_ := 24) rfl rfl (by kernel_rfl) hi101) ?_
    refine Vg 49 36 7 false 46 hb96 (lx 36 48 0 1 false 1 (.slice ae111_0 x99.length ne111_0) (hs76.pers _ _ hF109) hc112) ?_
    refine Vg 50 3 7 false 46 hb96 (ln 49 36 ae111_0 x99.length ne111_0 38 2 16) ?_
    refine Vg 51 4 7 false 46 hb96 (run_neq (t := 3) (t' := 3) (x := (.tmp 50)) (y := (.const (vi 2))) (k := .i64) (a := (x99.length : Int)) (b := 2) rfl rfl) ?_
    refine V 52 4 (p0 46 (.const (.bool true)) (.tmp 51) (.bool ((x99.length : Int) != 2)) hb96) ?_
    refine V 53 4 (mv 52 (.bool ((x99.length : Int) != 2))) ?_
    refine RWP.split ((x99.length : Int) != 2) (fun hb113 => ?_) (fun hb113 => ?_)
    ·have h114 := cond_t h102 hb113
     refine Sk [54, 55, 56, 57, 58, 59, 60] 14 false 53 hb113 ?_
     refine V 61 4 (p1 53 (.const (.bool true)) (.tmp 60) (.bool true) hb113) ?_
     refine V 62 4 (mv 61 (.bool true)) ?_
     refine Sk [63, 64, 65, 66, 67, 68, 69] 23 false 62 rfl ?_
     refine V 70 4 (p1 62 (.const (.bool true)) (.tmp 69) (.bool true) rfl) ?_
     obtain rfl := some_inj h114
     exact RWP.nil ⟨rfl, F9, hs76, (Mem.le.refl _), rfl, rfl, rfl, rfl, rfl, rfl, rfl, rfl⟩
    ·have h115 := cond_f h102 hb113
     refine Vg 54 33 14 false 53 hb113 (mv 1 (.slice (some ⟨b103, o104, none⟩) r9.1.length nr9_0_0)) ?_
     obtain ⟨x116, hx117, h119⟩ := bind_some h115
     obtain ⟨hi118, hx117'⟩ := idx_spec hx117
     obtain ⟨ae120_0, ne120_0, hc121, hbe120_0, hse120_0⟩ := hE110 _ _ hx117'
     refine Vg 55 0 14 false 53 hb113 (run_index (t := 33) (x := (.tmp 54)) (y := (.const (vi 0))) (b := b103) (o := o104) (E := 36) (s := 1) (by_ := 24) rfl rfl (by kernel_rfl) hi118) ?_
     refine Vg 56 36 14 false 53 hb113 (lx 36 55 0 1 false 1 (.slice ae120_0 x116.length ne120_0) (hs76.pers _ _ hF109) hc121) ?_
     obtain ⟨x122, hx123, h125⟩ := bind_some h119
     obtain ⟨hi124, hx123'⟩ := idx_spec hx123
     obtain ⟨b126, o127, C128, E129, fz130, rfl, hF132, hE133⟩ := SlA.open hse120_0 hx123'
     have hc135 := hE133 _ _ hx123'
     refine Vg 57 0 14 false 53 hb113 (run_index (t := 36) (x := (.tmp 56)) (y := (.const (vi 0))) (b := b126) (o := o127) (E := 38) (s := 2) (by_ := 16) rfl rfl (by kernel_rfl) hi124) ?_
     refine Vg 58 38 14 false 53 hb113 (lx 38 57 0 2 true 2 (.agg (kSpan x122)) (hs76.pers _ _ hF132) hc135) ?_
     refine Vg 59 38 14 false 53 hb113 (run_build2 (t := 38) (parts := #[(0, (.const (vi 90))), (1, (.const (vi 100)))]) (vs := [(0, (vi 90)), (1, (vi 100))]) (rfl) (cs := [(vi 90), (vi 100)]) (by kernel_rfl)) ?_
     refine Vg 60 4 14 false 53 hb113 (run_nes (t := 38) (t' := 38) (x := (.tmp 58)) (y := (.tmp 59)) (xs := (kSpan x122)) (ys := #[(vi 90), (vi 100)]) (b := ((x122.Lo == 90) && ((x122.Hi == 100) && true))) rfl rfl (by kernel_rfl) (by kernel_rfl)) ?_
     refine V 61 4 (p0 53 (.const (.bool true)) (.tmp 60) (.bool (!((x122.Lo == 90) && ((x122.Hi == 100) && true)))) hb113) ?_
     refine V 62 4 (mv 61 (.bool (!((x122.Lo == 90) && ((x122.Hi == 100) && true))))) ?_
     refine RWP.split (!((x122.Lo == 90) && ((x122.Hi == 100) && true))) (fun hb136 => ?_) (fun hb136 => ?_)
     ·have h137 := cond_t h125 hb136
      refine Sk [63, 64, 65, 66, 67, 68, 69] 23 false 62 hb136 ?_
      refine V 70 4 (p1 62 (.const (.bool true)) (.tmp 69) (.bool true) hb136) ?_
      obtain rfl := some_inj h137
      exact RWP.nil ⟨rfl, F9, hs76, (Mem.le.refl _), rfl, rfl, rfl, rfl, rfl, rfl, rfl, rfl⟩
     ·have h138 := cond_f h125 hb136
      refine Vg 63 33 23 false 62 hb136 (mv 1 (.slice (some ⟨b103, o104, none⟩) r9.1.length nr9_0_0)) ?_
      obtain ⟨x139, hx140, h142⟩ := bind_some h138
      obtain ⟨hi141, hx140'⟩ := idx_spec hx140
      obtain ⟨ae143_0, ne143_0, hc144, hbe143_0, hse143_0⟩ := hE110 _ _ hx140'
      refine Vg 64 0 23 false 62 hb136 (run_index (t := 33) (x := (.tmp 63)) (y := (.const (vi 0))) (b := b103) (o := o104) (E := 36) (s := 1) (by_ := 24) rfl rfl (by kernel_rfl) hi141) ?_
      refine Vg 65 36 23 false 62 hb136 (lx 36 64 0 1 false 1 (.slice ae143_0 x139.length ne143_0) (hs76.pers _ _ hF109) hc144) ?_
      obtain ⟨x145, hx146, h148⟩ := bind_some h142
      obtain ⟨hi147, hx146'⟩ := idx_spec hx146
      obtain ⟨b149, o150, C151, E152, fz153, rfl, hF155, hE156⟩ := SlA.open hse143_0 hx146'
      have hc158 := hE156 _ _ hx146'
      refine Vg 66 0 23 false 62 hb136 (run_index (t := 36) (x := (.tmp 65)) (y := (.const (vi 1))) (b := b149) (o := o150) (E := 38) (s := 2) (by_ := 16) rfl rfl (by kernel_rfl) hi147) ?_
      refine Vg 67 38 23 false 62 hb136 (lx 38 66 0 2 true 2 (.agg (kSpan x145)) (hs76.pers _ _ hF155) hc158) ?_
      refine Vg 68 38 23 false 62 hb136 (run_build2 (t := 38) (parts := #[(0, (.const (vi 150))), (1, (.const (vi 161)))]) (vs := [(0, (vi 150)), (1, (vi 161))]) (rfl) (cs := [(vi 150), (vi 161)]) (by kernel_rfl)) ?_
      refine Vg 69 4 23 false 62 hb136 (run_nes (t := 38) (t' := 38) (x := (.tmp 67)) (y := (.tmp 68)) (xs := (kSpan x145)) (ys := #[(vi 150), (vi 161)]) (b := ((x145.Lo == 150) && ((x145.Hi == 161) && true))) rfl rfl (by kernel_rfl) (by kernel_rfl)) ?_
      refine V 70 4 (p0 62 (.const (.bool true)) (.tmp 69) (.bool (!((x145.Lo == 150) && ((x145.Hi == 161) && true)))) hb136) ?_
      obtain rfl := some_inj h148
      exact RWP.nil ⟨rfl, F9, hs76, (Mem.le.refl _), rfl, rfl, rfl, rfl, rfl, rfl, rfl, rfl⟩
 ·rintro f w79 ⟨F10, hs80, le81, e83, e84, e85, e86, e87, e88, e89, e90⟩
  refine thenQ_nrm ?_
  refine CWP.cond (t := j82) (by kernel_rfl) e90 (fun hb159 => ?_) (fun hb159 => ?_)
  ·have h160 := cond_t h92 hb159
   refine Sq (Rg [0] ?_)
   refine V 0 4 (mc (.bool false) (.bool false)) ?_
   refine Nt ?_
   refine CWP.ret (by kernel_rfl) ?_
   refine thenQ_ret ?_
   have hfin := some_inj h160
   subst hfin
   exact ⟨e83, (.bool false), res_of (l := [.tmp 0]) (by kernel_rfl) (vs := [(.bool false)]) ⟨rfl, trivial⟩, (.bool false), F10, rfl, hs80.clear, rfl⟩
  ·have h161 := cond_f h92 hb159
   refine Sc ?_
   refine thenQ_nrm ?_
   refine Sq (Rg [0, 1, 2, 3, 4, 5, 6, 7, 8, 9, 10, 11, 12, 13, 14, 15, 16, 17, 18, 19, 20, 21, 22, 23, 24, 25, 26, 27, 28, 29, 30, 31, 32, 33, 34] ?_)
   obtain ⟨j165, hj168, h169⟩ := bind_some h161
   refine RWP.cut (fun f w => ∃ (F11 : Mem), HS w0 F0 w F11 [] ∧ Mem.le F10 F11 ∧ f.d = [] ∧ f 0 = (.bool j165)) ?_ ?_
   ·refine V 71 30 (mv 4 (vi r25.2) e85) ?_
    refine V 72 4 (run_eql (t := 30) (t' := 30) (x := (.tmp 71)) (y := (.const (vi 0))) (k := .i64) (a := r25.2) (b := 0) rfl rfl) ?_
    refine V 73 4 (mv 72 (.bool (r25.2 == 0))) ?_
    refine RWP.split (r25.2 == 0) (fun hb170 => ?_) (fun hb170 => ?_)
    ·have h171 := cond_t hj168 hb170
     refine Vg 74 38 2 true 73 hb170 (ld 38 3 b33 0 true 2 (.agg (kSpan r25.1)) (hs80.ownAt (k := 0) rfl) e84) ?_
     refine Vg 75 38 2 true 73 hb170 (run_build2 (t := 38) (parts := #[(0, (.const (vi 0))), (1, (.const (vi 10)))]) (vs := [(0, (vi 0)), (1, (vi 10))]) (rfl) (cs := [(vi 0), (vi 10)]) (by kernel_rfl)) ?_
     refine Vg 76 4 2 true 73 hb170 (run_eqs (t := 38) (t' := 38) (x := (.tmp 74)) (y := (.tmp 75)) (xs := (kSpan r25.1)) (ys := #[(vi 0), (vi 10)]) (b := ((r25.1.Lo == 0) && ((r25.1.Hi == 10) && true))) rfl rfl (by kernel_rfl) (by kernel_rfl)) ?_
     refine V 77 4 (p1 73 (.tmp 76) (.const (.bool false)) (.bool ((r25.1.Lo == 0) && ((r25.1.Hi == 10) && true))) hb170) ?_
     refine V 78 4 (mv 77 (.bool ((r25.1.Lo == 0) && ((r25.1.Hi == 10) && true)))) ?_
     refine RWP.split ((r25.1.Lo == 0) && ((r25.1.Hi == 10) && true)) (fun hb172 => ?_) (fun hb172 => ?_)
     ·have h173 := cond_t h171 hb172
      refine Vg 79 30 7 true 78 hb172 (mv 6 (vi r55.2) e87) ?_
      refine Vg 80 4 7 true 78 hb172 (run_eql (t := 30) (t' := 30) (x := (.tmp 79)) (y := (.const (vi 0))) (k := .i64) (a := r55.2) (b := 0) rfl rfl) ?_
      refine V 81 4 (p1 78 (.tmp 80) (.const (.bool false)) (.bool (r55.2 == 0)) hb172) ?_
      refine V 82 4 (mv 81 (.bool (r55.2 == 0))) ?_
      refine RWP.split (r55.2 == 0) (fun hb174 => ?_) (fun hb174 => ?_)
      ·have h175 := cond_t h173 hb174
       refine Vg 83 64 11 true 82 hb174 (mv 5 (.slice ar55_0_0 r55.1.length nr55_0_0) e86) ?_
       refine Vg 84 3 11 true 82 hb174 (ln 83 64 ar55_0_0 r55.1.length nr55_0_0 4 1 1) ?_
       refine Vg 85 4 11 true 82 hb174 (run_eql (t := 3) (t' := 3) (x := (.tmp 84)) (y := (.const (vi 2))) (k := .i64) (a := (r55.1.length : Int)) (b := 2) rfl rfl) ?_
       refine V 86 4 (p1 82 (.tmp 85) (.const (.bool false)) (.bool ((r55.1.length : Int) == 2)) hb174) ?_
       refine V 87 4 (mv 86 (.bool ((r55.1.length : Int) == 2))) ?_
       refine RWP.split ((r55.1.length : Int) == 2) (fun hb176 => ?_) (fun hb176 => ?_)
       ·have h177 := cond_t h175 hb176
        refine Vg 88 64 16 true 87 hb176 (mv 5 (.slice ar55_0_0 r55.1.length nr55_0_0) e86) ?_
        obtain ⟨x178, hx179, h181⟩ := bind_some h177
        obtain ⟨hi180, hx179'⟩ := idx_spec hx179
        obtain ⟨b182, o183, C184, E185, fz186, rfl, hF188, hE189⟩ := SlA.open (SlA.mono hsr55_0_0 ((le69.trans le77).trans le81)) hx179'
        have hc191 := hE189 _ _ hx179'
        refine Vg 89 0 16 true 87 hb176 (run_index (t := 64) (x := (.tmp 88)) (y := (.const (vi 0))) (b := b182) (o := o183) (E := 4) (s := 1) (by_ := 1) rfl rfl (by kernel_rfl) hi180) ?_
        refine Vg 90 4 16 true 87 hb176 (lx 4 89 0 1 false 1 (.bool x178) (hs80.pers _ _ hF188) hc191) ?_
        refine Vg 91 4 16 true 87 hb176 (run_not (t := 4) (x := (.tmp 90)) (a := x178) rfl) ?_
        refine V 92 4 (p1 87 (.tmp 91) (.const (.bool false)) (.bool (!x178)) hb176) ?_
        refine V 93 4 (mv 92 (.bool (!x178))) ?_
        refine RWP.split (!x178) (fun hb192 => ?_) (fun hb192 => ?_)
        ·have h193 := cond_t h181 hb192
         refine Vg 94 64 22 true 93 hb192 (mv 5 (.slice (some ⟨b182, o183, none⟩) r55.1.length nr55_0_0) e86) ?_
         obtain ⟨x194, hx195, h197⟩ := bind_some h193
         obtain ⟨hi196, hx195'⟩ := idx_spec hx195
         have hc199 := hE189 _ _ hx195'
         refine Vg 95 0 22 true 93 hb192 (run_index (t := 64) (x := (.tmp 94)) (y := (.const (vi 1))) (b := b182) (o := o183) (E := 4) (s := 1) (by_ := 1) rfl rfl (by kernel_rfl) hi196) ?_
         refine Vg 96 4 22 true 93 hb192 (lx 4 95 0 1 false 1 (.bool x194) (hs80.pers _ _ hF188) hc199) ?_
         refine V 97 4 (p1 93 (.tmp 96) (.const (.bool false)) (.bool x194) hb192) ?_
         refine V 98 4 (mv 97 (.bool x194)) ?_
         refine RWP.split x194 (fun hb200 => ?_) (fun hb200 => ?_)
         ·have h201 := cond_t h197 hb200
          refine Vg 99 4 27 true 98 hb200 (mv 7 (.bool r71.1) e88) ?_
          refine V 100 4 (p1 98 (.tmp 99) (.const (.bool false)) (.bool r71.1) hb200) ?_
          refine V 101 4 (mv 100 (.bool r71.1)) ?_
          refine RWP.split r71.1 (fun hb202 => ?_) (fun hb202 => ?_)
          ·have h203 := cond_t h201 hb202
           refine Vg 102 30 30 true 101 hb202 (mv 8 (vi r71.2) e89) ?_
           refine Vg 103 4 30 true 101 hb202 (run_eql (t := 30) (t' := 30) (x := (.tmp 102)) (y := (.const (vi 0))) (k := .i64) (a := r71.2) (b := 0) rfl rfl) ?_
           refine V 104 4 (p1 101 (.tmp 103) (.const (.bool false)) (.bool (r71.2 == 0)) hb202) ?_
           refine V 0 4 (ma 104 (.bool (r71.2 == 0))) ?_
           obtain rfl := some_inj h203
           have hs204 : HS w0 F0 w79 F10 [] := hs80.drop 0
           exact RWP.nil ⟨rfl, F10, hs204, (Mem.le.refl _), e83, rfl⟩
          ·have h205 := cond_f h201 hb202
           refine Sk [102, 103] 30 true 101 hb202 ?_
           refine V 104 4 (p0 101 (.tmp 103) (.const (.bool false)) (.bool false) hb202) ?_
           refine V 0 4 (ma 104 (.bool false)) ?_
           obtain rfl := some_inj h205
           have hs206 : HS w0 F0 w79 F10 [] := hs80.drop 0
           exact RWP.nil ⟨rfl, F10, hs206, (Mem.le.refl _), e83, rfl⟩
         ·have h207 := cond_f h197 hb200
          refine Sk [99] 27 true 98 hb200 ?_
          refine V 100 4 (p0 98 (.tmp 99) (.const (.bool false)) (.bool false) hb200) ?_
          refine V 101 4 (mv 100 (.bool false)) ?_
          refine Sk [102, 103] 30 true 101 rfl ?_
          refine V 104 4 (p0 101 (.tmp 103) (.const (.bool false)) (.bool false) rfl) ?_
          refine V 0 4 (ma 104 (.bool false)) ?_
          obtain rfl := some_inj h207
          have hs208 : HS w0 F0 w79 F10 [] := hs80.drop 0
          exact RWP.nil ⟨rfl, F10, hs208, (Mem.le.refl _), e83, rfl⟩
        ·have h209 := cond_f h181 hb192
         refine Sk [94, 95, 96] 22 true 93 hb192 ?_
         refine V 97 4 (p0 93 (.tmp 96) (.const (.bool false)) (.bool false) hb192) ?_
         refine V 98 4 (mv 97 (.bool false)) ?_
         refine Sk [99] 27 true 98 rfl ?_
         refine V 100 4 (p0 98 (.tmp 99) (.const (.bool false)) (.bool false) rfl) ?_
         refine V 101 4 (mv 100 (.bool false)) ?_
         refine Sk [102, 103] 30 true 101 rfl ?_
         refine V 104 4 (p0 101 (.tmp 103) (.const (.bool false)) (.bool false) rfl) ?_
         refine V 0 4 (ma 104 (.bool false)) ?_
         obtain rfl := some_inj h209
         have hs210 : HS w0 F0 w79 F10 [] := hs80.drop 0
         exact RWP.nil ⟨rfl, F10, hs210, (Mem.le.refl _), e83, rfl⟩
       ·have h211 := cond_f h175 hb176
        refine Sk [88, 89, 90, 91] 16 true 87 hb176 ?_
        refine V 92 4 (p0 87 (.tmp 91) (.const (.bool false)) (.bool false) hb176) ?_
        refine V 93 4 (mv 92 (.bool false)) ?_
        refine Sk [94, 95, 96] 22 true 93 rfl ?_
        refine V 97 4 (p0 93 (.tmp 96) (.const (.bool false)) (.bool false) rfl) ?_
        refine V 98 4 (mv 97 (.bool false)) ?_
        refine Sk [99] 27 true 98 rfl ?_
        refine V 100 4 (p0 98 (.tmp 99) (.const (.bool false)) (.bool false) rfl) ?_
        refine V 101 4 (mv 100 (.bool false)) ?_
        refine Sk [102, 103] 30 true 101 rfl ?_
        refine V 104 4 (p0 101 (.tmp 103) (.const (.bool false)) (.bool false) rfl) ?_
        refine V 0 4 (ma 104 (.bool false)) ?_
        obtain rfl := some_inj h211
        have hs212 : HS w0 F0 w79 F10 [] := hs80.drop 0
        exact RWP.nil ⟨rfl, F10, hs212, (Mem.le.refl _), e83, rfl⟩
      ·have h213 := cond_f h173 hb174
       refine Sk [83, 84, 85] 11 true 82 hb174 ?_
       refine V 86 4 (p0 82 (.tmp 85) (.const (.bool false)) (.bool false) hb174) ?_
       refine V 87 4 (mv 86 (.bool false)) ?_
       refine Sk [88, 89, 90, 91] 16 true 87 rfl ?_
       refine V 92 4 (p0 87 (.tmp 91) (.const (.bool false)) (.bool false) rfl) ?_
       refine V 93 4 (mv 92 (.bool false)) ?_
       refine Sk [94, 95, 96] 22 true 93 rfl ?_
       refine V 97 4 (p0 93 (.tmp 96) (.const (.bool false)) (.bool false) rfl) ?_
       refine V 98 4 (mv 97 (.bool false)) ?_
       refine Sk [99] 27 true 98 rfl ?_
       refine V 100 4 (p0 98 (.tmp 99) (.const (.bool false)) (.bool false) rfl) ?_
       refine V 101 4 (mv 100 (.bool false)) ?_
       refine Sk [102, 103] 30 true 101 rfl ?_
       refine V 104 4 (p0 101 (.tmp 103) (.const (.bool false)) (.bool false) rfl) ?_
       refine V 0 4 (ma 104 (.bool false)) ?_
       obtain rfl := some_inj h213
       have hs214 : HS w0 F0 w79 F10 [] := hs80.drop 0
       exact RWP.nil ⟨rfl, F10, hs214, (Mem.le.refl _), e83, rfl⟩
     ·have h215 := cond_f h171 hb172
      refine Sk [79, 80] 7 true 78 hb172 ?_
      refine V 81 4 (p0 78 (.tmp 80) (.const (.bool false)) (.bool false) hb172) ?_
      refine V 82 4 (mv 81 (.bool false)) ?_
      refine Sk [83, 84, 85] 11 true 82 rfl ?_
      refine V 86 4 (p0 82 (.tmp 85) (.const (.bool false)) (.bool false) rfl) ?_
      refine V 87 4 (mv 86 (.bool false)) ?_
      refine Sk [88, 89, 90, 91] 16 true 87 rfl ?_
      refine V 92 4 (p0 87 (.tmp 91) (.const (.bool false)) (.bool false) rfl) ?_
      refine V 93 4 (mv 92 (.bool false)) ?_
      refine Sk [94, 95, 96] 22 true 93 rfl ?_
      refine V 97 4 (p0 93 (.tmp 96) (.const (.bool false)) (.bool false) rfl) ?_
      refine V 98 4 (mv 97 (.bool false)) ?_
      refine Sk [99] 27 true 98 rfl ?_
      refine V 100 4 (p0 98 (.tmp 99) (.const (.bool false)) (.bool false) rfl) ?_
      refine V 101 4 (mv 100 (.bool false)) ?_
      refine Sk [102, 103] 30 true 101 rfl ?_
      refine V 104 4 (p0 101 (.tmp 103) (.const (.bool false)) (.bool false) rfl) ?_
      refine V 0 4 (ma 104 (.bool false)) ?_
      obtain rfl := some_inj h215
      have hs216 : HS w0 F0 w79 F10 [] := hs80.drop 0
      exact RWP.nil ⟨rfl, F10, hs216, (Mem.le.refl _), e83, rfl⟩
    ·have h217 := cond_f hj168 hb170
     refine Sk [74, 75, 76] 2 true 73 hb170 ?_
     refine V 77 4 (p0 73 (.tmp 76) (.const (.bool false)) (.bool false) hb170) ?_
     refine V 78 4 (mv 77 (.bool false)) ?_
     refine Sk [79, 80] 7 true 78 rfl ?_
     refine V 81 4 (p0 78 (.tmp 80) (.const (.bool false)) (.bool false) rfl) ?_
     refine V 82 4 (mv 81 (.bool false)) ?_
     refine Sk [83, 84, 85] 11 true 82 rfl ?_
     refine V 86 4 (p0 82 (.tmp 85) (.const (.bool false)) (.bool false) rfl) ?_
     refine V 87 4 (mv 86 (.bool false)) ?_
     refine Sk [88, 89, 90, 91] 16 true 87 rfl ?_
     refine V 92 4 (p0 87 (.tmp 91) (.const (.bool false)) (.bool false) rfl) ?_
     refine V 93 4 (mv 92 (.bool false)) ?_
     refine Sk [94, 95, 96] 22 true 93 rfl ?_
     refine V 97 4 (p0 93 (.tmp 96) (.const (.bool false)) (.bool false) rfl) ?_
     refine V 98 4 (mv 97 (.bool false)) ?_
     refine Sk [99] 27 true 98 rfl ?_
     refine V 100 4 (p0 98 (.tmp 99) (.const (.bool false)) (.bool false) rfl) ?_
     refine V 101 4 (mv 100 (.bool false)) ?_
     refine Sk [102, 103] 30 true 101 rfl ?_
     refine V 104 4 (p0 101 (.tmp 103) (.const (.bool false)) (.bool false) rfl) ?_
     refine V 0 4 (ma 104 (.bool false)) ?_
     obtain rfl := some_inj h217
     have hs218 : HS w0 F0 w79 F10 [] := hs80.drop 0
     exact RWP.nil ⟨rfl, F10, hs218, (Mem.le.refl _), e83, rfl⟩
   ·rintro f w162 ⟨F11, hs163, le164, e166, e167⟩
    refine thenQ_nrm ?_
    refine CWP.ret (by kernel_rfl) ?_
    have hfin := some_inj h169
    subst hfin
    exact ⟨e166, (.bool j165), res_of (l := [.tmp 0]) (by kernel_rfl) (vs := [(.bool j165)]) ⟨e167, trivial⟩, (.bool j165), F11, rfl, hs163.clear, rfl⟩
end Go.Proofs.Ythbcnabeabcmlaa
namespace Go.Proofs.Ythbcnabeabcmlaa
open Go.Proofs
def law03_few_L0 (N : Nat) (x0 : System) : (Int × Int) → Option (Flow Bool (Int × Int)) := fun s7 =>
 (bif (decide (s7.2 < (x0.Tracks.length : Int))) then ((idx x0.Tracks s7.2).bind fun x30 => ((idx x0.Tracks s7.2).bind fun x44 => (bif (decide ((x44.Clock.Jumps.length : Int) > 40)) then some (.ret false) else some (.next ((W64 (s7.1 + (x30.Times.length : Int))), (W64 (s7.2 + 1))))))) else some (.done (s7.1, s7.2)))
def law03_few (N : Nat) (x0 : System) : Option Bool :=
 ((iter (law03_few_L0 N x0) N (0, 0)).bind fun o => o.k (fun r => some r) (fun s15 => some ((decide (s15.1 ≤ 40)) && ((decide ((x0.Tracks.length : Int) ≤ 100)) && ((decide ((x0.Ties.length : Int) ≤ 30)) || ((decide ((x0.Ties.length : Int) > 400)) && (decide ((x0.Ties.length : Int) ≤ 500))))))))
theorem co_law03_few : CallOk Try.prog 16 := fun _ _ => by kernel_rfl
set_option maxHeartbeats 4000000 in
set_option maxRecDepth 100000 in
theorem c_law03_few (N : Nat) (w0 : World) (F0 : Mem) (hF : ∀ b o, F0 b = some o → w0.heap[b]? = some o) (x0 : System) (a0_0 : Option Addr) (n0_0 : Nat) (hb0_0 : LC x0.Tracks.length n0_0) (hs0_0 : SlA tTrack F0 a0_0 x0.Tracks) (a0_1 : Option Addr) (n0_1 : Nat) (hb0_1 : LC x0.Ties.length n0_1) (hs0_1 : SlA tTie F0 a0_1 x0.Ties) (r : Bool) (h : law03_few N x0 = some r) :
  Calls Try.prog 16 ([(.agg (kSystem x0 a0_0 n0_0 a0_1 n0_1))] : List Value).toArray w0 (FRet w0 F0 fun F' v => v = (.bool r)) := by
 have hs0 := HS.start hF
 refine calls_of (n := 56) (c := bodyOf Try.f16) Try.func16 (by kernel_rfl) (by kernel_rfl) (by kernel_rfl) ?_
 refine Sq (Rg [0, 1] ?_)
 refine Bx 1 0 0 25 (kSystem x0 a0_0 n0_0 a0_1 n0_1) hs0 (fun b1 w2 (hs3 : HS w0 F0 w2 F0 [(sb b1 (kSystem x0 a0_0 n0_0 a0_1 n0_1) 25)]) => ?_)
 refine V 2 4 (mc (.bool false) (.bool false)) ?_
 refine Nss (Rg [0] ?_)
 refine V 3 3 (mc (vi 0) (vi 0)) ?_
 refine Nss ?_
 refine Sq (Rg [0] ?_)
 refine V 4 3 (mc (vi 0) (vi 0)) ?_
 refine Nt ?_
 obtain ⟨o4, ho5, h6⟩ := bind_some h
 refine CWP.cut (fun f w => ∃ (s15 : (Int × Int)) (F2 : Mem), o4 = .done s15 ∧ HS w0 F0 w F2 [(sb b1 (kSystem x0 a0_0 n0_0 a0_1 n0_1) 25)] ∧ Mem.le F0 F2 ∧ f.d = [] ∧ f 1 = (.pointer (some ⟨b1, 0, none⟩)) ∧ f 3 = (vi s15.1)) ?_ ?_
 ·refine Bk ?_
  refine CWP.loop (by kernel_rfl) (fun m f w => ∃ (s7 : (Int × Int)) (F1 : Mem), iter (law03_few_L0 N x0) m s7 = some o4 ∧ HS w0 F0 w F1 [(sb b1 (kSystem x0 a0_0 n0_0 a0_1 n0_1) 25)] ∧ Mem.le F0 F1 ∧ f.d = [] ∧ f 1 = (.pointer (some ⟨b1, 0, none⟩)) ∧ f 3 = (vi s7.1) ∧ f 4 = (vi s7.2)) N ⟨(0, 0), F0, ho5, hs3, (Mem.le.refl _), rfl, rfl, rfl, rfl⟩ ?_
  rintro m22 f w8 ⟨s7, F1, hit23, hs9, le10, e11, e12, e13, e14⟩
  obtain ⟨m24, fl25, rfl, hb26, hnx27⟩ := iter_step hit23
  refine Sq ?_
  refine Sq (Rg [0, 1, 2, 3, 4] ?_)
  refine V 5 3 (mv 4 (vi s7.2) e14) ?_
  refine V 6 0 (fa 25 1 0 0 1 b1 0 0 e12) ?_
  refine V 7 22 (ld 22 6 b1 0 false 1 (.slice a0_0 x0.Tracks.length n0_0) (hs9.ownAt (k := 0) rfl)) ?_
  refine V 8 3 (ln 7 22 a0_0 x0.Tracks.length n0_0 54 4 64) ?_
  refine V 9 4 (run_lss (t := 3) (t' := 3) (x := (.tmp 5)) (y := (.tmp 8)) (k := .i64) (a := s7.2) (b := (x0.Tracks.length : Int)) rfl rfl) ?_
  refine Nt ?_
  refine CWP.cond (t := (decide (s7.2 < (x0.Tracks.length : Int)))) (by kernel_rfl) rfl (fun hb28 => ?_) (fun hb28 => ?_)
  ·have h29 := cond_t hb26 hb28
   refine Sc ?_
   refine thenQ_nrm ?_
   refine Sq ?_
   refine Bk ?_
   refine Sq (Rg [0, 1, 2, 3, 4, 5, 6, 7, 8, 9] ?_)
   refine V 12 3 (mv 3 (vi s7.1) e13) ?_
   refine V 13 0 (fa 25 1 0 0 1 b1 0 0 e12) ?_
   refine V 14 22 (ld 22 13 b1 0 false 1 (.slice a0_0 x0.Tracks.length n0_0) (hs9.ownAt (k := 0) rfl)) ?_
   refine V 15 3 (mv 4 (vi s7.2) e14) ?_
   obtain ⟨x30, hx31, h33⟩ := bind_some h29
   obtain ⟨hi32, hx31'⟩ := idx_spec hx31
   obtain ⟨b34, o35, C36, E37, fz38, rfl, hF40, hE41⟩ := SlA.open (SlA.mono hs0_0 le10) hx31'
   obtain ⟨ae42_2, ne42_2, ae42_3, ne42_3, hc43, hbe42_2, hse42_2, hbe42_3, hse42_3⟩ := hE41 _ _ hx31'
   refine V 16 0 (ix 22 14 15 b34 o35 54 4 64 hi32) ?_
   refine V 17 0 (fa 54 16 1 3 1 b34 (o35 + (s7.2 : Int).toNat * 4) ((o35 + (s7.2 : Int).toNat * 4) + 3)) ?_
   refine V 18 50 (lx 50 17 3 4 false 1 (.slice ae42_3 x30.Times.length ne42_3) (hs9.pers _ _ hF40) hc43) ?_
   refine V 19 3 (ln 18 50 ae42_3 x30.Times.length ne42_3 3 1 8) ?_
   refine V 20 3 (run_add (t := 3) (t' := 3) (x := (.tmp 12)) (y := (.tmp 19)) (k := .i64) (a := s7.1) (b := (x30.Times.length : Int)) rfl rfl) ?_
   refine V 3 3 (ma 20 (vi (W64 (s7.1 + (x30.Times.length : Int))))) ?_
   refine Nss (Rg [0, 1, 2, 3, 4, 5, 6, 7, 8] ?_)
   refine V 21 0 (fa 25 1 0 0 1 b1 0 0 e12) ?_
   refine V 22 22 (ld 22 21 b1 0 false 1 (.slice (some ⟨b34, o35, none⟩) x0.Tracks.length n0_0) (hs9.ownAt (k := 0) rfl)) ?_
   refine V 23 3 (mv 4 (vi s7.2) e14) ?_
   obtain ⟨x44, hx45, h47⟩ := bind_some h33
   obtain ⟨hi46, hx45'⟩ := idx_spec hx45
   obtain ⟨ae48_2, ne48_2, ae48_3, ne48_3, hc49, hbe48_2, hse48_2, hbe48_3, hse48_3⟩ := hE41 _ _ hx45'
   refine V 24 0 (ix 22 22 23 b34 o35 54 4 64 hi46) ?_
   refine V 25 0 (fa 54 24 0 0 3 b34 (o35 + (s7.2 : Int).toNat * 4) (o35 + (s7.2 : Int).toNat * 4)) ?_
   refine V 26 0 (fa 52 25 2 2 1 b34 (o35 + (s7.2 : Int).toNat * 4) ((o35 + (s7.2 : Int).toNat * 4) + 2)) ?_
   refine V 27 50 (lx 50 26 2 4 false 1 (.slice ae48_2 x44.Clock.Jumps.length ne48_2) (hs9.pers _ _ hF40) hc49) ?_
   refine V 28 3 (ln 27 50 ae48_2 x44.Clock.Jumps.length ne48_2 3 1 8) ?_
   refine V 29 4 (run_gtr (t := 3) (t' := 3) (x := (.tmp 28)) (y := (.const (vi 40))) (k := .i64) (a := (x44.Clock.Jumps.length : Int)) (b := 40) rfl rfl) ?_
   refine Nt ?_
   refine CWP.cond (t := (decide ((x44.Clock.Jumps.length : Int) > 40))) (by kernel_rfl) rfl (fun hb50 => ?_) (fun hb50 => ?_)
   ·have h51 := cond_t h47 hb50
    refine Sq (Rg [0] ?_)
    refine V 2 4 (mc (.bool false) (.bool false)) ?_
    refine Nt ?_
    refine CWP.ret (by kernel_rfl) ?_
    refine blockQ_ret ?_
    refine thenQ_ret ?_
    refine thenQ_ret ?_
    refine blockQ_ret ?_
    have hret := iter_ret h51 hnx27
    subst hret
    refine .inr ?_
    refine thenQ_ret ?_
    have hfin := some_inj h6
    subst hfin
    exact ⟨e11, (.bool false), res_of (l := [.tmp 2]) (by kernel_rfl) (vs := [(.bool false)]) ⟨rfl, trivial⟩, (.bool false), F1, rfl, hs9.clear, rfl⟩
   ·have h52 := cond_f h47 hb50
    refine Sc ?_
    refine blockQ_nrm ?_
    refine thenQ_nrm ?_
    refine Rg [0, 1, 2] ?_
    refine V 10 3 (mv 4 (vi s7.2) e14) ?_
    refine V 11 3 (run_add (t := 3) (t' := 3) (x := (.tmp 10)) (y := (.const (vi 1))) (k := .i64) (a := s7.2) (b := 1) rfl rfl) ?_
    refine V 4 3 (ma 11 (vi (W64 (s7.2 + 1)))) ?_
    refine RWP.nil ?_
    have hn53 := iter_next h52 hnx27
    exact ⟨m24, Nat.lt_succ_self _, ((W64 (s7.1 + (x30.Times.length : Int))), (W64 (s7.2 + 1))), F1, hn53, hs9, le10, e11, e12, rfl, rfl⟩
  ·have h54 := cond_f hb26 hb28
   refine CWP.exit (by kernel_rfl) ?_
   refine thenQ_ex ?_
   refine thenQ_ex ?_
   refine blockQ_hit rfl ?_
   have ho55 := iter_done h54 hnx27
   exact .inl ⟨rfl, (s7.1, s7.2), F1, ho55, hs9, le10, e11, e12, e13⟩
 ·rintro f w16 ⟨s15, F2, rfl, hs17, le18, e19, e20, e21⟩
  have h56 := k_done h6
  refine thenQ_nrm ?_
  refine Sq (Rg [0, 1, 2, 3, 4, 5, 6, 7, 8, 9, 10, 11, 12, 13, 14, 15, 16, 17, 18, 19, 20, 21, 22, 23, 24, 25, 26] ?_)
  refine RWP.cut (fun f w => ∃ (F3 : Mem), HS w0 F0 w F3 [] ∧ Mem.le F2 F3 ∧ f.d = [] ∧ f 2 = (.bool ((decide (s15.1 ≤ 40)) && ((decide ((x0.Tracks.length : Int) ≤ 100)) && ((decide ((x0.Ties.length : Int) ≤ 30)) || ((decide ((x0.Ties.length : Int) > 400)) && (decide ((x0.Ties.length : Int) ≤ 500)))))))) ?_ ?_
  ·refine V 30 3 (mv 3 (vi s15.1) e21) ?_
   refine V 31 4 (run_leq (t := 3) (t' := 3) (x := (.tmp 30)) (y := (.const (vi 40))) (k := .i64) (a := s15.1) (b := 40) rfl rfl) ?_
   refine V 32 4 (mv 31 (.bool (decide (s15.1 ≤ 40)))) ?_
   refine RWP.split (decide (s15.1 ≤ 40)) (fun hb62 => ?_) (fun hb62 => ?_)
   ·refine Vg 33 0 2 true 32 hb62 (fa 25 1 0 0 1 b1 0 0 e20) ?_
    refine Vg 34 22 2 true 32 hb62 (ld 22 33 b1 0 false 1 (.slice a0_0 x0.Tracks.length n0_0) (hs17.ownAt (k := 0) rfl)) ?_
    refine Vg 35 3 2 true 32 hb62 (ln 34 22 a0_0 x0.Tracks.length n0_0 54 4 64) ?_
    refine Vg 36 4 2 true 32 hb62 (run_leq (t := 3) (t' := 3) (x := (.tmp 35)) (y := (.const (vi 100))) (k := .i64) (a := (x0.Tracks.length : Int)) (b := 100) rfl rfl) ?_
    refine V 37 4 (p1 32 (.tmp 36) (.const (.bool false)) (.bool (decide ((x0.Tracks.length : Int) ≤ 100))) hb62) ?_
    refine V 38 4 (mv 37 (.bool (decide ((x0.Tracks.length : Int) ≤ 100)))) ?_
    refine RWP.split (decide ((x0.Tracks.length : Int) ≤ 100)) (fun hb63 => ?_) (fun hb63 => ?_)
    ·refine Vg 39 0 8 true 38 hb63 (fa 25 1 1 1 1 b1 0 1 e20) ?_
     refine Vg 40 23 8 true 38 hb63 (ld 23 39 b1 1 false 1 (.slice a0_1 x0.Ties.length n0_1) (hs17.ownAt (k := 0) rfl)) ?_
     refine Vg 41 3 8 true 38 hb63 (ln 40 23 a0_1 x0.Ties.length n0_1 46 4 32) ?_
     refine Vg 42 4 8 true 38 hb63 (run_leq (t := 3) (t' := 3) (x := (.tmp 41)) (y := (.const (vi 30))) (k := .i64) (a := (x0.Ties.length : Int)) (b := 30) rfl rfl) ?_
     refine Vg 43 4 8 true 38 hb63 (mv 42 (.bool (decide ((x0.Ties.length : Int) ≤ 30)))) ?_
     refine RWP.split (decide ((x0.Ties.length : Int) ≤ 30)) (fun hb64 => ?_) (fun hb64 => ?_)
     ·refine Sk [44, 45, 46, 47, 48] 13 false 43 hb64 ?_
      refine Su [49, 50, 51, 52] 18 true 48 ?_
      refine Sk [53] 13 false 43 hb64 ?_
      refine Vg 54 4 8 true 38 hb63 (p1 43 (.const (.bool true)) (.tmp 53) (.bool true) hb64) ?_
      refine V 55 4 (p1 38 (.tmp 54) (.const (.bool false)) (.bool true) hb63) ?_
      refine V 2 4 (ma 55 (.bool true)) ?_
      have hs65 : HS w0 F0 w16 F2 [] := hs17.drop 0
      exact RWP.nil ⟨rfl, F2, hs65, (Mem.le.refl _), e19, (congrArg Value.bool (and_t hb62 (and_t hb63 (or_t hb64 (rfl)))))⟩
     ·refine Vg 44 0 13 false 43 hb64 (fa 25 1 1 1 1 b1 0 1 e20) ?_
      refine Vg 45 23 13 false 43 hb64 (ld 23 44 b1 1 false 1 (.slice a0_1 x0.Ties.length n0_1) (hs17.ownAt (k := 0) rfl)) ?_
      refine Vg 46 3 13 false 43 hb64 (ln 45 23 a0_1 x0.Ties.length n0_1 46 4 32) ?_
      refine Vg 47 4 13 false 43 hb64 (run_gtr (t := 3) (t' := 3) (x := (.tmp 46)) (y := (.const (vi 400))) (k := .i64) (a := (x0.Ties.length : Int)) (b := 400) rfl rfl) ?_
      refine Vg 48 4 13 false 43 hb64 (mv 47 (.bool (decide ((x0.Ties.length : Int) > 400)))) ?_
      refine RWP.split (decide ((x0.Ties.length : Int) > 400)) (fun hb66 => ?_) (fun hb66 => ?_)
      ·refine Vg 49 0 18 true 48 hb66 (fa 25 1 1 1 1 b1 0 1 e20) ?_
       refine Vg 50 23 18 true 48 hb66 (ld 23 49 b1 1 false 1 (.slice a0_1 x0.Ties.length n0_1) (hs17.ownAt (k := 0) rfl)) ?_
       refine Vg 51 3 18 true 48 hb66 (ln 50 23 a0_1 x0.Ties.length n0_1 46 4 32) ?_
       refine Vg 52 4 18 true 48 hb66 (run_leq (t := 3) (t' := 3) (x := (.tmp 51)) (y := (.const (vi 500))) (k := .i64) (a := (x0.Ties.length : Int)) (b := 500) rfl rfl) ?_
       refine Vg 53 4 13 false 43 hb64 (p1 48 (.tmp 52) (.const (.bool false)) (.bool (decide ((x0.Ties.length : Int) ≤ 500))) hb66) ?_
       refine Vg 54 4 8 true 38 hb63 (p0 43 (.const (.bool true)) (.tmp 53) (.bool (decide ((x0.Ties.length : Int) ≤ 500))) hb64) ?_
       refine V 55 4 (p1 38 (.tmp 54) (.const (.bool false)) (.bool (decide ((x0.Ties.length : Int) ≤ 500))) hb63) ?_
       refine V 2 4 (ma 55 (.bool (decide ((x0.Ties.length : Int) ≤ 500)))) ?_
       have hs67 : HS w0 F0 w16 F2 [] := hs17.drop 0
       exact RWP.nil ⟨rfl, F2, hs67, (Mem.le.refl _), e19, (congrArg Value.bool (and_t hb62 (and_t hb63 (or_f hb64 (and_t hb66 (rfl))))))⟩
      ·refine Sk [49, 50, 51, 52] 18 true 48 hb66 ?_
       refine Vg 53 4 13 false 43 hb64 (p0 48 (.tmp 52) (.const (.bool false)) (.bool false) hb66) ?_
       refine Vg 54 4 8 true 38 hb63 (p0 43 (.const (.bool true)) (.tmp 53) (.bool false) hb64) ?_
       refine V 55 4 (p1 38 (.tmp 54) (.const (.bool false)) (.bool false) hb63) ?_
       refine V 2 4 (ma 55 (.bool false)) ?_
       have hs68 : HS w0 F0 w16 F2 [] := hs17.drop 0
       exact RWP.nil ⟨rfl, F2, hs68, (Mem.le.refl _), e19, (congrArg Value.bool (and_t hb62 (and_t hb63 (or_f hb64 (and_f hb66 (rfl))))))⟩
    ·refine Sk [39, 40, 41, 42, 43] 8 true 38 hb63 ?_
     refine Su [44, 45, 46, 47, 48] 13 false 43 ?_
     refine Su [49, 50, 51, 52] 18 true 48 ?_
     refine Su [53] 13 false 43 ?_
     refine Sk [54] 8 true 38 hb63 ?_
     refine V 55 4 (p0 38 (.tmp 54) (.const (.bool false)) (.bool false) hb63) ?_
     refine V 2 4 (ma 55 (.bool false)) ?_
     have hs69 : HS w0 F0 w16 F2 [] := hs17.drop 0
     exact RWP.nil ⟨rfl, F2, hs69, (Mem.le.refl _), e19, (congrArg Value.bool (and_t hb62 (and_f hb63 (rfl))))⟩
   ·refine Sk [33, 34, 35, 36] 2 true 32 hb62 ?_
    refine V 37 4 (p0 32 (.tmp 36) (.const (.bool false)) (.bool false) hb62) ?_
    refine V 38 4 (mv 37 (.bool false)) ?_
    refine Sk [39, 40, 41, 42, 43] 8 true 38 rfl ?_
    refine Su [44, 45, 46, 47, 48] 13 false 43 ?_
    refine Su [49, 50, 51, 52] 18 true 48 ?_
    refine Su [53] 13 false 43 ?_
    refine Sk [54] 8 true 38 rfl ?_
    refine V 55 4 (p0 38 (.tmp 54) (.const (.bool false)) (.bool false) rfl) ?_
    refine V 2 4 (ma 55 (.bool false)) ?_
    have hs70 : HS w0 F0 w16 F2 [] := hs17.drop 0
    exact RWP.nil ⟨rfl, F2, hs70, (Mem.le.refl _), e19, (congrArg Value.bool (and_f hb62 (rfl)))⟩
  ·rintro f w57 ⟨F3, hs58, le59, e60, e61⟩
   refine thenQ_nrm ?_
   refine CWP.ret (by kernel_rfl) ?_
   have hfin := some_inj h56
   subst hfin
   exact ⟨e60, (.bool ((decide (s15.1 ≤ 40)) && ((decide ((x0.Tracks.length : Int) ≤ 100)) && ((decide ((x0.Ties.length : Int) ≤ 30)) || ((decide ((x0.Ties.length : Int) > 400)) && (decide ((x0.Ties.length : Int) ≤ 500))))))), res_of (l := [.tmp 2]) (by kernel_rfl) (vs := [(.bool ((decide (s15.1 ≤ 40)) && ((decide ((x0.Tracks.length : Int) ≤ 100)) && ((decide ((x0.Ties.length : Int) ≤ 30)) || ((decide ((x0.Ties.length : Int) > 400)) && (decide ((x0.Ties.length : Int) ≤ 500)))))))]) ⟨e61, trivial⟩, (.bool ((decide (s15.1 ≤ 40)) && ((decide ((x0.Tracks.length : Int) ≤ 100)) && ((decide ((x0.Ties.length : Int) ≤ 30)) || ((decide ((x0.Ties.length : Int) > 400)) && (decide ((x0.Ties.length : Int) ≤ 500))))))), F3, rfl, hs58.clear, rfl⟩
end Go.Proofs.Ythbcnabeabcmlaa
namespace Go.Proofs.Ythbcnabeabcmlaa
set_option maxRecDepth 1000000 in
theorem awake_ok (m : Nat) : law03_awake (m + 100) = some true := by kernel_rfl
theorem awake_at {N : Nat} (h : 100 ≤ N) : law03_awake N = some true := by
  obtain ⟨m, rfl⟩ : ∃ m, N = m + 100 := ⟨N - 100, by omega⟩
  exact awake_ok m
theorem few_some {N : Nat} {s : System} (h : FitS N s) : ∃ b, law03_few N s = some b := by
  unfold law03_few
  have hn := h.n.1
  obtain ⟨o, ho, hR⟩ := iter_ex (body := law03_few_L0 N s) s.Tracks.length (fun i q => q.2 = (i : Int)) (fun o => ∀ q, o ≠ .next q) (by
    rintro i ⟨a, b⟩ hi hb
    simp only at hb
    subst hb
    unfold law03_few_L0
    simp only
    by_cases hlt : i < s.Tracks.length
    · simp only [lt_t hlt, cond_true, idx_nat hlt, Option.bind_some]
      cases decide ((s.Tracks[i].Clock.Jumps.length : Int) > 40) with
      | true => exact .inr ⟨_, rfl, (fun _ h => by cases h), fun _ h => by cases h⟩
      | false => exact .inl ⟨_, rfl, by simp only; rw [W64_succ (by omega)], hlt⟩
    · have : i = s.Tracks.length := by omega
      subst this
      simp only [lt_f, cond_false]
      exact .inr ⟨_, rfl, (fun _ h => by cases h), fun _ h => by cases h⟩) s.Tracks.length N 0 (0, 0) (by omega) rfl h.n.2
  rw [ho]
  cases o with
  | next q => exact absurd rfl (hR q)
  | done q => exact ⟨_, rfl⟩
  | ret r => exact ⟨_, rfl⟩
end Go.Proofs.Ythbcnabeabcmlaa
namespace Go.Proofs.Ythbcnabeabcmlaa
abbrev NN : Nat := 9223372036854775808
theorem fitL {α : Type} {l : List α} {Q : Prop} (h : l.length < 9223372036854775808 ∧ Q) : Fit NN l.length := ⟨h.1, h.1⟩
theorem fitT {t : Track} (q : qTrack t) : FitT NN t := ⟨fitL q.1.2.2, fitL q.2⟩
theorem fitS {s : System} (q : qSystem s) : FitS NN s := ⟨fitL q.1, fun t ht => fitT (q.1.2 t ht), fitL q.2.1⟩
end Go.Proofs.Ythbcnabeabcmlaa
namespace Go.Proofs.Ythbcnabeabcmlaa
open Go.Proofs
def law03_ClocksLoops (N : Nat) (x0 : System) (x1 : (List Bound)) (x2 : (List (List Int))) : Option Bool :=
 ((law03_awake N ).bind fun r4 => (((law03_few N x0).bind fun r24 => (bif (!r24) then some true else (bif (decide ((x2.length : Int) > 100)) then some true else some (decide ((x1.length : Int) > 200))))).bind fun j15 => (bif j15 then some r4 else ((clocks_FindLoop N x0).bind fun r41 => ((clocks_Times N x0).bind fun r49 => ((clocks_Keeps N x0 x2).bind fun r57 => ((clocks_ValidLoop N x0 x1).bind fun r65 => (bif (r57.2 != 0) then some (r4 && ((r41.2 == r57.2) && ((r49.2 == r57.2) && (r65.2 == r57.2)))) else (bif ((!((r41.2 == 0) == (r49.2 == 31))) || (bif (r41.2 != 0) then ((r41.2 != 3) || (r65.1 || ((r41.2 == 0) && r57.1))) else (bif r65.1 then (r57.1 || ((r41.2 == 0) && r57.1)) else ((r41.2 == 0) && r57.1)))) then some false else (bif (r41.2 != 0) then some (r4 && ((r41.1.length : Int) == 0)) else ((clocks_ValidLoop N x0 r41.1).bind fun r121 => some (r4 && (r121.1 && (r121.2 == 0))))))))))))))
theorem co_law03_ClocksLoops : CallOk Try.prog 12 := fun _ _ => by kernel_rfl
set_option maxHeartbeats 4000000 in
set_option maxRecDepth 100000 in
theorem c_law03_ClocksLoops (N : Nat) (w0 : World) (F0 : Mem) (hF : ∀ b o, F0 b = some o → w0.heap[b]? = some o) (x0 : System) (a0_0 : Option Addr) (n0_0 : Nat) (hb0_0 : LC x0.Tracks.length n0_0) (hs0_0 : SlA tTrack F0 a0_0 x0.Tracks) (a0_1 : Option Addr) (n0_1 : Nat) (hb0_1 : LC x0.Ties.length n0_1) (hs0_1 : SlA tTie F0 a0_1 x0.Ties) (x1 : (List Bound)) (a1_0 : Option Addr) (n1_0 : Nat) (hb1_0 : LC x1.length n1_0) (hs1_0 : SlA tBound F0 a1_0 x1) (x2 : (List (List Int))) (a2_0 : Option Addr) (n2_0 : Nat) (hb2_0 : LC x2.length n2_0) (hs2_0 : SlA (tSl tInt) F0 a2_0 x2) (r : Bool) (h : law03_ClocksLoops N x0 x1 x2 = some r) :
  Calls Try.prog 12 ([(.agg (kSystem x0 a0_0 n0_0 a0_1 n0_1)), (.slice a1_0 x1.length n1_0), (.slice a2_0 x2.length n2_0)] : List Value).toArray w0 (FRet w0 F0 fun F' v => v = (.bool r)) := by
 have hs0 := HS.start hF
 refine calls_of (n := 125) (c := bodyOf Try.f12) Try.func12 (by kernel_rfl) (by kernel_rfl) (by kernel_rfl) ?_
 refine Sq (Rg [0, 1] ?_)
 refine Bx 3 0 0 25 (kSystem x0 a0_0 n0_0 a0_1 n0_1) hs0 (fun b1 w2 (hs3 : HS w0 F0 w2 F0 [(sb b1 (kSystem x0 a0_0 n0_0 a0_1 n0_1) 25)]) => ?_)
 refine V 6 4 (mc (.bool false) (.bool false)) ?_
 refine Nss (Rg [0, 1] ?_)
 obtain ⟨r4, hr5, h6⟩ := bind_some h
 refine Cl 18 4 15 #[] #[] co_law03_awake hs3 (c_law03_awake N w2 F0 hs3.pers  _ hr5) ?_
 intro v7 F1 w8 hs9 le10 hp11
 obtain rfl := hp11
 refine V 7 4 (ma 18 (.bool r4)) ?_
 refine Nss ?_
 refine Sq (Rg [0, 1, 2, 3, 4, 5, 6, 7, 8, 9, 10, 11, 12] ?_)
 obtain ⟨j15, hj22, h23⟩ := bind_some h6
 refine RWP.cut (fun f w => ∃ (F2 : Mem), HS w0 F0 w F2 [(sb b1 (kSystem x0 a0_0 n0_0 a0_1 n0_1) 25)] ∧ Mem.le F1 F2 ∧ f.d = [] ∧ f 1 = (.slice a1_0 x1.length n1_0) ∧ f 2 = (.slice a2_0 x2.length n2_0) ∧ f 3 = (.pointer (some ⟨b1, 0, none⟩)) ∧ f 7 = (.bool r4) ∧ f 31 = (.bool j15)) ?_ ?_
 ·refine V 19 25 (ld 25 3 b1 0 true 3 (.agg (kSystem x0 a0_0 n0_0 a0_1 n0_1)) (hs9.ownAt (k := 0) rfl)) ?_
  obtain ⟨r24, hr25, h26⟩ := bind_some hj22
  refine Cl 20 4 16 #[(.tmp 19)] #[25] co_law03_few hs9 (c_law03_few N w8 F1 hs9.pers (x0) a0_0 n0_0 hb0_0 (SlA.mono hs0_0 le10) a0_1 n0_1 hb0_1 (SlA.mono hs0_1 le10) _ hr25) ?_
  intro v27 F3 w28 hs29 le30 hp31
  obtain rfl := hp31
  refine V 21 4 (run_not (t := 4) (x := (.tmp 20)) (a := r24) rfl) ?_
  refine V 22 4 (mv 21 (.bool (!r24))) ?_
  refine RWP.split (!r24) (fun hb32 => ?_) (fun hb32 => ?_)
  ·have h33 := cond_t h26 hb32
   refine Sk [23, 24, 25] 3 false 22 hb32 ?_
   refine V 26 4 (p1 22 (.const (.bool true)) (.tmp 25) (.bool true) hb32) ?_
   refine V 27 4 (mv 26 (.bool true)) ?_
   refine Sk [28, 29, 30] 8 false 27 rfl ?_
   refine V 31 4 (p1 27 (.const (.bool true)) (.tmp 30) (.bool true) rfl) ?_
   obtain rfl := some_inj h33
   exact RWP.nil ⟨rfl, F3, hs29, le30, rfl, rfl, rfl, rfl, rfl, rfl⟩
  ·have h34 := cond_f h26 hb32
   refine Vg 23 71 3 false 22 hb32 (mv 2 (.slice a2_0 x2.length n2_0)) ?_
   refine Vg 24 3 3 false 22 hb32 (ln 23 71 a2_0 x2.length n2_0 50 1 24) ?_
   refine Vg 25 4 3 false 22 hb32 (run_gtr (t := 3) (t' := 3) (x := (.tmp 24)) (y := (.const (vi 100))) (k := .i64) (a := (x2.length : Int)) (b := 100) rfl rfl) ?_
   refine V 26 4 (p0 22 (.const (.bool true)) (.tmp 25) (.bool (decide ((x2.length : Int) > 100))) hb32) ?_
   refine V 27 4 (mv 26 (.bool (decide ((x2.length : Int) > 100)))) ?_
   refine RWP.split (decide ((x2.length : Int) > 100)) (fun hb35 => ?_) (fun hb35 => ?_)
   ·have h36 := cond_t h34 hb35
    refine Sk [28, 29, 30] 8 false 27 hb35 ?_
    refine V 31 4 (p1 27 (.const (.bool true)) (.tmp 30) (.bool true) hb35) ?_
    obtain rfl := some_inj h36
    exact RWP.nil ⟨rfl, F3, hs29, le30, rfl, rfl, rfl, rfl, rfl, rfl⟩
   ·have h37 := cond_f h34 hb35
    refine Vg 28 57 8 false 27 hb35 (mv 1 (.slice a1_0 x1.length n1_0)) ?_
    refine Vg 29 3 8 false 27 hb35 (ln 28 57 a1_0 x1.length n1_0 103 7 56) ?_
    refine Vg 30 4 8 false 27 hb35 (run_gtr (t := 3) (t' := 3) (x := (.tmp 29)) (y := (.const (vi 200))) (k := .i64) (a := (x1.length : Int)) (b := 200) rfl rfl) ?_
    refine V 31 4 (p0 27 (.const (.bool true)) (.tmp 30) (.bool (decide ((x1.length : Int) > 200))) hb35) ?_
    obtain rfl := some_inj h37
    exact RWP.nil ⟨rfl, F3, hs29, le30, rfl, rfl, rfl, rfl, rfl, rfl⟩
 ·rintro f w12 ⟨F2, hs13, le14, e16, e17, e18, e19, e20, e21⟩
  refine thenQ_nrm ?_
  refine CWP.cond (t := j15) (by kernel_rfl) e21 (fun hb38 => ?_) (fun hb38 => ?_)
  ·have h39 := cond_t h23 hb38
   refine Sq (Rg [0, 1] ?_)
   refine V 32 4 (mv 7 (.bool r4) e20) ?_
   refine V 6 4 (ma 32 (.bool r4)) ?_
   refine Nt ?_
   refine CWP.ret (by kernel_rfl) ?_
   refine thenQ_ret ?_
   have hfin := some_inj h39
   subst hfin
   exact ⟨e16, (.bool r4), res_of (l := [.tmp 6]) (by kernel_rfl) (vs := [(.bool r4)]) ⟨rfl, trivial⟩, (.bool r4), F2, rfl, hs13.clear, rfl⟩
  ·have h40 := cond_f h23 hb38
   refine Sc ?_
   refine thenQ_nrm ?_
   refine Sq (Rg [0, 1, 2, 3, 4, 5, 6] ?_)
   refine V 34 25 (ld 25 3 b1 0 true 3 (.agg (kSystem x0 a0_0 n0_0 a0_1 n0_1)) (hs13.ownAt (k := 0) rfl) e19) ?_
   obtain ⟨r41, hr42, h43⟩ := bind_some h40
   refine Cl 35 58 58 #[(.tmp 34)] #[25] co_clocks_FindLoop hs13 (c_clocks_FindLoop N w12 F2 hs13.pers (x0) a0_0 n0_0 hb0_0 (SlA.mono hs0_0 (le10.trans le14)) a0_1 n0_1 hb0_1 (SlA.mono hs0_1 (le10.trans le14)) _ hr42) ?_
   intro v44 F4 w45 hs46 le47 hp48
   obtain ⟨ar41_0_0, nr41_0_0, rfl, hbr41_0_0, hsr41_0_0⟩ := hp48
   refine V 33 58 (mv 35 (.tuple #[(.slice ar41_0_0 r41.1.length nr41_0_0), (vi r41.2)])) ?_
   refine V 36 57 (ex 33 0 (.slice ar41_0_0 r41.1.length nr41_0_0) (vs := #[(.slice ar41_0_0 r41.1.length nr41_0_0), (vi r41.2)])) ?_
   refine V 37 30 (ex 33 1 (vi r41.2) (vs := #[(.slice ar41_0_0 r41.1.length nr41_0_0), (vi r41.2)])) ?_
   refine V 8 57 (ma 36 (.slice ar41_0_0 r41.1.length nr41_0_0)) ?_
   refine V 9 30 (ma 37 (vi r41.2)) ?_
   refine Nss (Rg [0, 1, 2, 3, 4, 5, 6] ?_)
   refine V 39 25 (ld 25 3 b1 0 true 3 (.agg (kSystem x0 a0_0 n0_0 a0_1 n0_1)) (hs46.ownAt (k := 0) rfl) e19) ?_
   obtain ⟨r49, hr50, h51⟩ := bind_some h43
   refine Cl 40 34 19 #[(.tmp 39)] #[25] co_clocks_Times hs46 (c_clocks_Times N w45 F4 hs46.pers (x0) a0_0 n0_0 hb0_0 (SlA.mono hs0_0 ((le10.trans le14).trans le47)) a0_1 n0_1 hb0_1 (SlA.mono hs0_1 ((le10.trans le14).trans le47)) _ hr50) ?_
   intro v52 F5 w53 hs54 le55 hp56
   obtain ⟨ar49_0_0, nr49_0_0, rfl, hbr49_0_0, hsr49_0_0⟩ := hp56
   refine V 38 34 (mv 40 (.tuple #[(.slice ar49_0_0 r49.1.length nr49_0_0), (vi r49.2)])) ?_
   refine V 41 33 (ex 38 0 (.slice ar49_0_0 r49.1.length nr49_0_0) (vs := #[(.slice ar49_0_0 r49.1.length nr49_0_0), (vi r49.2)])) ?_
   refine V 42 30 (ex 38 1 (vi r49.2) (vs := #[(.slice ar49_0_0 r49.1.length nr49_0_0), (vi r49.2)])) ?_
   refine V 10 33 (ma 41 (.slice ar49_0_0 r49.1.length nr49_0_0)) ?_
   refine V 11 30 (ma 42 (vi r49.2)) ?_
   refine Nss (Rg [0, 1, 2, 3, 4, 5, 6, 7] ?_)
   refine V 44 25 (ld 25 3 b1 0 true 3 (.agg (kSystem x0 a0_0 n0_0 a0_1 n0_1)) (hs54.ownAt (k := 0) rfl) e19) ?_
   refine V 45 71 (mv 2 (.slice a2_0 x2.length n2_0) e18) ?_
   obtain ⟨r57, hr58, h59⟩ := bind_some h51
   refine Cl 46 43 55 #[(.tmp 44), (.tmp 45)] #[25, 71] co_clocks_Keeps hs54 (c_clocks_Keeps N w53 F5 hs54.pers (x0) a0_0 n0_0 hb0_0 (SlA.mono hs0_0 (((le10.trans le14).trans le47).trans le55)) a0_1 n0_1 hb0_1 (SlA.mono hs0_1 (((le10.trans le14).trans le47).trans le55)) (x2) a2_0 n2_0 hb2_0 (SlA.mono hs2_0 (((le10.trans le14).trans le47).trans le55)) _ hr58) ?_
   intro v60 F6 w61 hs62 le63 hp64
   obtain rfl := hp64
   refine V 43 43 (mv 46 (.tuple #[(.bool r57.1), (vi r57.2)])) ?_
   refine V 47 4 (ex 43 0 (.bool r57.1) (vs := #[(.bool r57.1), (vi r57.2)])) ?_
   refine V 48 30 (ex 43 1 (vi r57.2) (vs := #[(.bool r57.1), (vi r57.2)])) ?_
   refine V 12 4 (ma 47 (.bool r57.1)) ?_
   refine V 13 30 (ma 48 (vi r57.2)) ?_
   refine Nss (Rg [0, 1, 2, 3, 4, 5, 6, 7] ?_)
   refine V 50 25 (ld 25 3 b1 0 true 3 (.agg (kSystem x0 a0_0 n0_0 a0_1 n0_1)) (hs62.ownAt (k := 0) rfl) e19) ?_
   refine V 51 57 (mv 1 (.slice a1_0 x1.length n1_0) e17) ?_
   obtain ⟨r65, hr66, h67⟩ := bind_some h59
   refine Cl 52 43 54 #[(.tmp 50), (.tmp 51)] #[25, 57] co_clocks_ValidLoop hs62 (c_clocks_ValidLoop N w61 F6 hs62.pers (x0) a0_0 n0_0 hb0_0 (SlA.mono hs0_0 ((((le10.trans le14).trans le47).trans le55).trans le63)) a0_1 n0_1 hb0_1 (SlA.mono hs0_1 ((((le10.trans le14).trans le47).trans le55).trans le63)) (x1) a1_0 n1_0 hb1_0 (SlA.mono hs1_0 ((((le10.trans le14).trans le47).trans le55).trans le63)) _ hr66) ?_
   intro v68 F7 w69 hs70 le71 hp72
   obtain rfl := hp72
   refine V 49 43 (mv 52 (.tuple #[(.bool r65.1), (vi r65.2)])) ?_
   refine V 53 4 (ex 49 0 (.bool r65.1) (vs := #[(.bool r65.1), (vi r65.2)])) ?_
   refine V 54 30 (ex 49 1 (vi r65.2) (vs := #[(.bool r65.1), (vi r65.2)])) ?_
   refine V 14 4 (ma 53 (.bool r65.1)) ?_
   refine V 15 30 (ma 54 (vi r65.2)) ?_
   refine Nss ?_
   refine Sq (Rg [0, 1] ?_)
   refine V 55 30 (mv 13 (vi r57.2)) ?_
   refine V 56 4 (run_neq (t := 30) (t' := 30) (x := (.tmp 55)) (y := (.const (vi 0))) (k := .i64) (a := r57.2) (b := 0) rfl rfl) ?_
   refine Nt ?_
   refine CWP.cond (t := (r57.2 != 0)) (by kernel_rfl) rfl (fun hb73 => ?_) (fun hb73 => ?_)
   ·have h74 := cond_t h67 hb73
    refine Sq (Rg [0, 1, 2, 3, 4, 5, 6, 7, 8, 9, 10, 11, 12, 13, 14, 15, 16] ?_)
    refine RWP.cut (fun f w => ∃ (F8 : Mem), HS w0 F0 w F8 [] ∧ Mem.le F7 F8 ∧ f.d = [] ∧ f 6 = (.bool (r4 && ((r41.2 == r57.2) && ((r49.2 == r57.2) && (r65.2 == r57.2)))))) ?_ ?_
    ·refine V 57 4 (mv 7 (.bool r4) e20) ?_
     refine V 58 4 (mv 57 (.bool r4)) ?_
     refine RWP.split r4 (fun hb80 => ?_) (fun hb80 => ?_)
     ·refine Vg 59 30 1 true 58 hb80 (mv 9 (vi r41.2)) ?_
      refine Vg 60 30 1 true 58 hb80 (mv 13 (vi r57.2)) ?_
      refine Vg 61 4 1 true 58 hb80 (run_eql (t := 30) (t' := 30) (x := (.tmp 59)) (y := (.tmp 60)) (k := .i64) (a := r41.2) (b := r57.2) rfl rfl) ?_
      refine V 62 4 (p1 58 (.tmp 61) (.const (.bool false)) (.bool (r41.2 == r57.2)) hb80) ?_
      refine V 63 4 (mv 62 (.bool (r41.2 == r57.2))) ?_
      refine RWP.split (r41.2 == r57.2) (fun hb81 => ?_) (fun hb81 => ?_)
      ·refine Vg 64 30 6 true 63 hb81 (mv 11 (vi r49.2)) ?_
       refine Vg 65 30 6 true 63 hb81 (mv 13 (vi r57.2)) ?_
       refine Vg 66 4 6 true 63 hb81 (run_eql (t := 30) (t' := 30) (x := (.tmp 64)) (y := (.tmp 65)) (k := .i64) (a := r49.2) (b := r57.2) rfl rfl) ?_
       refine V 67 4 (p1 63 (.tmp 66) (.const (.bool false)) (.bool (r49.2 == r57.2)) hb81) ?_
       refine V 68 4 (mv 67 (.bool (r49.2 == r57.2))) ?_
       refine RWP.split (r49.2 == r57.2) (fun hb82 => ?_) (fun hb82 => ?_)
       ·refine Vg 69 30 11 true 68 hb82 (mv 15 (vi r65.2)) ?_
        refine Vg 70 30 11 true 68 hb82 (mv 13 (vi r57.2)) ?_
        refine Vg 71 4 11 true 68 hb82 (run_eql (t := 30) (t' := 30) (x := (.tmp 69)) (y := (.tmp 70)) (k := .i64) (a := r65.2) (b := r57.2) rfl rfl) ?_
        refine V 72 4 (p1 68 (.tmp 71) (.const (.bool false)) (.bool (r65.2 == r57.2)) hb82) ?_
        refine V 6 4 (ma 72 (.bool (r65.2 == r57.2))) ?_
        have hs83 : HS w0 F0 w69 F7 [] := hs70.drop 0
        exact RWP.nil ⟨rfl, F7, hs83, (Mem.le.refl _), e16, (congrArg Value.bool (and_t hb80 (and_t hb81 (and_t hb82 (rfl)))))⟩
       ·refine Sk [69, 70, 71] 11 true 68 hb82 ?_
        refine V 72 4 (p0 68 (.tmp 71) (.const (.bool false)) (.bool false) hb82) ?_
        refine V 6 4 (ma 72 (.bool false)) ?_
        have hs84 : HS w0 F0 w69 F7 [] := hs70.drop 0
        exact RWP.nil ⟨rfl, F7, hs84, (Mem.le.refl _), e16, (congrArg Value.bool (and_t hb80 (and_t hb81 (and_f hb82 (rfl)))))⟩
      ·refine Sk [64, 65, 66] 6 true 63 hb81 ?_
       refine V 67 4 (p0 63 (.tmp 66) (.const (.bool false)) (.bool false) hb81) ?_
       refine V 68 4 (mv 67 (.bool false)) ?_
       refine Sk [69, 70, 71] 11 true 68 rfl ?_
       refine V 72 4 (p0 68 (.tmp 71) (.const (.bool false)) (.bool false) rfl) ?_
       refine V 6 4 (ma 72 (.bool false)) ?_
       have hs85 : HS w0 F0 w69 F7 [] := hs70.drop 0
       exact RWP.nil ⟨rfl, F7, hs85, (Mem.le.refl _), e16, (congrArg Value.bool (and_t hb80 (and_f hb81 (rfl))))⟩
     ·refine Sk [59, 60, 61] 1 true 58 hb80 ?_
      refine V 62 4 (p0 58 (.tmp 61) (.const (.bool false)) (.bool false) hb80) ?_
      refine V 63 4 (mv 62 (.bool false)) ?_
      refine Sk [64, 65, 66] 6 true 63 rfl ?_
      refine V 67 4 (p0 63 (.tmp 66) (.const (.bool false)) (.bool false) rfl) ?_
      refine V 68 4 (mv 67 (.bool false)) ?_
      refine Sk [69, 70, 71] 11 true 68 rfl ?_
      refine V 72 4 (p0 68 (.tmp 71) (.const (.bool false)) (.bool false) rfl) ?_
      refine V 6 4 (ma 72 (.bool false)) ?_
      have hs86 : HS w0 F0 w69 F7 [] := hs70.drop 0
      exact RWP.nil ⟨rfl, F7, hs86, (Mem.le.refl _), e16, (congrArg Value.bool (and_f hb80 (rfl)))⟩
    ·rintro f w75 ⟨F8, hs76, le77, e78, e79⟩
     refine thenQ_nrm ?_
     refine CWP.ret (by kernel_rfl) ?_
     refine thenQ_ret ?_
     have hfin := some_inj h74
     subst hfin
     exact ⟨e78, (.bool (r4 && ((r41.2 == r57.2) && ((r49.2 == r57.2) && (r65.2 == r57.2))))), res_of (l := [.tmp 6]) (by kernel_rfl) (vs := [(.bool (r4 && ((r41.2 == r57.2) && ((r49.2 == r57.2) && (r65.2 == r57.2)))))]) ⟨e79, trivial⟩, (.bool (r4 && ((r41.2 == r57.2) && ((r49.2 == r57.2) && (r65.2 == r57.2))))), F8, rfl, hs76.clear, rfl⟩
   ·have h87 := cond_f h67 hb73
    refine Sc ?_
    refine thenQ_nrm ?_
    refine Sq ?_
    refine Sq (Rg [0, 1, 2, 3, 4, 5, 6, 7, 8, 9, 10, 11, 12, 13, 14, 15, 16, 17, 18, 19, 20, 21, 22, 23, 24, 25, 26, 27, 28, 29] ?_)
    refine RWP.cut (fun f w => ∃ (F9 : Mem), HS w0 F0 w F9 [(sb b1 (kSystem x0 a0_0 n0_0 a0_1 n0_1) 25)] ∧ Mem.le F7 F9 ∧ f.d = [] ∧ f 3 = (.pointer (some ⟨b1, 0, none⟩)) ∧ f 7 = (.bool r4) ∧ f 8 = (.slice ar41_0_0 r41.1.length nr41_0_0) ∧ f 9 = (vi r41.2) ∧ f 102 = (.bool ((!((r41.2 == 0) == (r49.2 == 31))) || (bif (r41.2 != 0) then ((r41.2 != 3) || (r65.1 || ((r41.2 == 0) && r57.1))) else (bif r65.1 then (r57.1 || ((r41.2 == 0) && r57.1)) else ((r41.2 == 0) && r57.1)))))) ?_ ?_
    ·refine V 73 30 (mv 9 (vi r41.2)) ?_
     refine V 74 4 (run_eql (t := 30) (t' := 30) (x := (.tmp 73)) (y := (.const (vi 0))) (k := .i64) (a := r41.2) (b := 0) rfl rfl) ?_
     refine V 75 30 (mv 11 (vi r49.2)) ?_
     refine V 76 4 (run_eql (t := 30) (t' := 30) (x := (.tmp 75)) (y := (.const (vi 31))) (k := .i64) (a := r49.2) (b := 31) rfl rfl) ?_
     refine V 77 4 (run_neb (t := 4) (t' := 4) (x := (.tmp 74)) (y := (.tmp 76)) (a := (r41.2 == 0)) (b := (r49.2 == 31)) rfl rfl (by kernel_rfl)) ?_
     refine V 78 4 (mv 77 (.bool (!((r41.2 == 0) == (r49.2 == 31))))) ?_
     refine RWP.split (!((r41.2 == 0) == (r49.2 == 31))) (fun hb97 => ?_) (fun hb97 => ?_)
     ·refine Sk [79, 80, 81] 5 false 78 hb97 ?_
      refine Su [82, 83] 8 true 81 ?_
      refine Sk [84] 5 false 78 hb97 ?_
      refine V 85 4 (p1 78 (.const (.bool true)) (.tmp 84) (.bool true) hb97) ?_
      refine V 86 4 (mv 85 (.bool true)) ?_
      refine Sk [87, 88] 13 false 86 rfl ?_
      refine Su [89, 90] 15 true 88 ?_
      refine Su [91, 92] 17 false 90 ?_
      refine Su [93] 15 true 88 ?_
      refine Sk [94] 13 false 86 rfl ?_
      refine V 95 4 (p1 86 (.const (.bool true)) (.tmp 94) (.bool true) rfl) ?_
      refine V 96 4 (mv 95 (.bool true)) ?_
      refine Sk [97, 98, 99] 23 false 96 rfl ?_
      refine Su [100] 26 true 99 ?_
      refine Sk [101] 23 false 96 rfl ?_
      refine V 102 4 (p1 96 (.const (.bool true)) (.tmp 101) (.bool true) rfl) ?_
      exact RWP.nil ⟨rfl, F7, hs70, (Mem.le.refl _), e16, e19, e20, rfl, rfl, (congrArg Value.bool (or_t hb97 (rfl)))⟩
     ·refine Vg 79 30 5 false 78 hb97 (mv 9 (vi r41.2)) ?_
      refine Vg 80 4 5 false 78 hb97 (run_neq (t := 30) (t' := 30) (x := (.tmp 79)) (y := (.const (vi 0))) (k := .i64) (a := r41.2) (b := 0) rfl rfl) ?_
      refine Vg 81 4 5 false 78 hb97 (mv 80 (.bool (r41.2 != 0))) ?_
      refine RWP.split (r41.2 != 0) (fun hb98 => ?_) (fun hb98 => ?_)
      ·refine Vg 82 30 8 true 81 hb98 (mv 9 (vi r41.2)) ?_
       refine Vg 83 4 8 true 81 hb98 (run_neq (t := 30) (t' := 30) (x := (.tmp 82)) (y := (.const (vi 3))) (k := .i64) (a := r41.2) (b := 3) rfl rfl) ?_
       refine Vg 84 4 5 false 78 hb97 (p1 81 (.tmp 83) (.const (.bool false)) (.bool (r41.2 != 3)) hb98) ?_
       refine V 85 4 (p0 78 (.const (.bool true)) (.tmp 84) (.bool (r41.2 != 3)) hb97) ?_
       refine V 86 4 (mv 85 (.bool (r41.2 != 3))) ?_
       refine RWP.split (r41.2 != 3) (fun hb99 => ?_) (fun hb99 => ?_)
       ·refine Sk [87, 88] 13 false 86 hb99 ?_
        refine Su [89, 90] 15 true 88 ?_
        refine Su [91, 92] 17 false 90 ?_
        refine Su [93] 15 true 88 ?_
        refine Sk [94] 13 false 86 hb99 ?_
        refine V 95 4 (p1 86 (.const (.bool true)) (.tmp 94) (.bool true) hb99) ?_
        refine V 96 4 (mv 95 (.bool true)) ?_
        refine Sk [97, 98, 99] 23 false 96 rfl ?_
        refine Su [100] 26 true 99 ?_
        refine Sk [101] 23 false 96 rfl ?_
        refine V 102 4 (p1 96 (.const (.bool true)) (.tmp 101) (.bool true) rfl) ?_
        exact RWP.nil ⟨rfl, F7, hs70, (Mem.le.refl _), e16, e19, e20, rfl, rfl, (congrArg Value.bool (or_f hb97 (bif_t hb98 (or_t hb99 (rfl)))))⟩
       ·refine Vg 87 4 13 false 86 hb99 (mv 14 (.bool r65.1)) ?_
        refine Vg 88 4 13 false 86 hb99 (mv 87 (.bool r65.1)) ?_
        refine RWP.split r65.1 (fun hb100 => ?_) (fun hb100 => ?_)
        ·refine Vg 89 4 15 true 88 hb100 (mv 12 (.bool r57.1)) ?_
         refine Vg 90 4 15 true 88 hb100 (mv 89 (.bool r57.1)) ?_
         refine RWP.split r57.1 (fun hb101 => ?_) (fun hb101 => ?_)
         ·refine Sk [91, 92] 17 false 90 hb101 ?_
          refine Vg 93 4 15 true 88 hb100 (p1 90 (.const (.bool true)) (.tmp 92) (.bool true) hb101) ?_
          refine Vg 94 4 13 false 86 hb99 (p1 88 (.tmp 93) (.const (.bool false)) (.bool true) hb100) ?_
          refine V 95 4 (p0 86 (.const (.bool true)) (.tmp 94) (.bool true) hb99) ?_
          refine V 96 4 (mv 95 (.bool true)) ?_
          refine Sk [97, 98, 99] 23 false 96 rfl ?_
          refine Su [100] 26 true 99 ?_
          refine Sk [101] 23 false 96 rfl ?_
          refine V 102 4 (p1 96 (.const (.bool true)) (.tmp 101) (.bool true) rfl) ?_
          exact RWP.nil ⟨rfl, F7, hs70, (Mem.le.refl _), e16, e19, e20, rfl, rfl, (congrArg Value.bool (or_f hb97 (bif_t hb98 (or_f hb99 (or_t hb100 (rfl))))))⟩
         ·refine Vg 91 30 17 false 90 hb101 (mv 9 (vi r41.2)) ?_
          refine Vg 92 4 17 false 90 hb101 (run_neq (t := 30) (t' := 30) (x := (.tmp 91)) (y := (.const (vi 0))) (k := .i64) (a := r41.2) (b := 0) rfl rfl) ?_
          refine Vg 93 4 15 true 88 hb100 (p0 90 (.const (.bool true)) (.tmp 92) (.bool (r41.2 != 0)) hb101) ?_
          refine Vg 94 4 13 false 86 hb99 (p1 88 (.tmp 93) (.const (.bool false)) (.bool (r41.2 != 0)) hb100) ?_
          refine V 95 4 (p0 86 (.const (.bool true)) (.tmp 94) (.bool (r41.2 != 0)) hb99) ?_
          refine V 96 4 (mv 95 (.bool (r41.2 != 0))) ?_
          refine Sk [97, 98, 99] 23 false 96 hb98 ?_
          refine Su [100] 26 true 99 ?_
          refine Sk [101] 23 false 96 hb98 ?_
          refine V 102 4 (p1 96 (.const (.bool true)) (.tmp 101) (.bool true) hb98) ?_
          exact RWP.nil ⟨rfl, F7, hs70, (Mem.le.refl _), e16, e19, e20, rfl, rfl, (congrArg Value.bool (or_f hb97 (bif_t hb98 (or_f hb99 (or_t hb100 (rfl))))))⟩
        ·refine Sk [89, 90] 15 true 88 hb100 ?_
         refine Su [91, 92] 17 false 90 ?_
         refine Sk [93] 15 true 88 hb100 ?_
         refine Vg 94 4 13 false 86 hb99 (p0 88 (.tmp 93) (.const (.bool false)) (.bool false) hb100) ?_
         refine V 95 4 (p0 86 (.const (.bool true)) (.tmp 94) (.bool false) hb99) ?_
         refine V 96 4 (mv 95 (.bool false)) ?_
         refine Vg 97 30 23 false 96 rfl (mv 9 (vi r41.2)) ?_
         refine Vg 98 4 23 false 96 rfl (run_eql (t := 30) (t' := 30) (x := (.tmp 97)) (y := (.const (vi 0))) (k := .i64) (a := r41.2) (b := 0) rfl rfl) ?_
         refine Vg 99 4 23 false 96 rfl (mv 98 (.bool (r41.2 == 0))) ?_
         refine RWP.split (r41.2 == 0) (fun hb102 => ?_) (fun hb102 => ?_)
         ·refine Vg 100 4 26 true 99 hb102 (mv 12 (.bool r57.1)) ?_
          refine Vg 101 4 23 false 96 rfl (p1 99 (.tmp 100) (.const (.bool false)) (.bool r57.1) hb102) ?_
          refine V 102 4 (p0 96 (.const (.bool true)) (.tmp 101) (.bool r57.1) rfl) ?_
          exact RWP.nil ⟨rfl, F7, hs70, (Mem.le.refl _), e16, e19, e20, rfl, rfl, (congrArg Value.bool (or_f hb97 (bif_t hb98 (or_f hb99 (or_f hb100 (and_t hb102 (rfl)))))))⟩
         ·refine Sk [100] 26 true 99 hb102 ?_
          refine Vg 101 4 23 false 96 rfl (p0 99 (.tmp 100) (.const (.bool false)) (.bool false) hb102) ?_
          refine V 102 4 (p0 96 (.const (.bool true)) (.tmp 101) (.bool false) rfl) ?_
          exact RWP.nil ⟨rfl, F7, hs70, (Mem.le.refl _), e16, e19, e20, rfl, rfl, (congrArg Value.bool (or_f hb97 (bif_t hb98 (or_f hb99 (or_f hb100 (and_f hb102 (rfl)))))))⟩
      ·refine Sk [82, 83] 8 true 81 hb98 ?_
       refine Vg 84 4 5 false 78 hb97 (p0 81 (.tmp 83) (.const (.bool false)) (.bool false) hb98) ?_
       refine V 85 4 (p0 78 (.const (.bool true)) (.tmp 84) (.bool false) hb97) ?_
       refine V 86 4 (mv 85 (.bool false)) ?_
       refine Vg 87 4 13 false 86 rfl (mv 14 (.bool r65.1)) ?_
       refine Vg 88 4 13 false 86 rfl (mv 87 (.bool r65.1)) ?_
       refine RWP.split r65.1 (fun hb103 => ?_) (fun hb103 => ?_)
       ·refine Vg 89 4 15 true 88 hb103 (mv 12 (.bool r57.1)) ?_
        refine Vg 90 4 15 true 88 hb103 (mv 89 (.bool r57.1)) ?_
        refine RWP.split r57.1 (fun hb104 => ?_) (fun hb104 => ?_)
        ·refine Sk [91, 92] 17 false 90 hb104 ?_
         refine Vg 93 4 15 true 88 hb103 (p1 90 (.const (.bool true)) (.tmp 92) (.bool true) hb104) ?_
         refine Vg 94 4 13 false 86 rfl (p1 88 (.tmp 93) (.const (.bool false)) (.bool true) hb103) ?_
         refine V 95 4 (p0 86 (.const (.bool true)) (.tmp 94) (.bool true) rfl) ?_
         refine V 96 4 (mv 95 (.bool true)) ?_
         refine Sk [97, 98, 99] 23 false 96 rfl ?_
         refine Su [100] 26 true 99 ?_
         refine Sk [101] 23 false 96 rfl ?_
         refine V 102 4 (p1 96 (.const (.bool true)) (.tmp 101) (.bool true) rfl) ?_
         exact RWP.nil ⟨rfl, F7, hs70, (Mem.le.refl _), e16, e19, e20, rfl, rfl, (congrArg Value.bool (or_f hb97 (bif_f hb98 (bif_t hb103 (or_t hb104 (rfl))))))⟩
        ·refine Vg 91 30 17 false 90 hb104 (mv 9 (vi r41.2)) ?_
         refine Vg 92 4 17 false 90 hb104 (run_neq (t := 30) (t' := 30) (x := (.tmp 91)) (y := (.const (vi 0))) (k := .i64) (a := r41.2) (b := 0) rfl rfl) ?_
         refine Vg 93 4 15 true 88 hb103 (p0 90 (.const (.bool true)) (.tmp 92) (.bool (r41.2 != 0)) hb104) ?_
         refine Vg 94 4 13 false 86 rfl (p1 88 (.tmp 93) (.const (.bool false)) (.bool (r41.2 != 0)) hb103) ?_
         refine V 95 4 (p0 86 (.const (.bool true)) (.tmp 94) (.bool (r41.2 != 0)) rfl) ?_
         refine V 96 4 (mv 95 (.bool (r41.2 != 0))) ?_
         refine Vg 97 30 23 false 96 hb98 (mv 9 (vi r41.2)) ?_
         refine Vg 98 4 23 false 96 hb98 (run_eql (t := 30) (t' := 30) (x := (.tmp 97)) (y := (.const (vi 0))) (k := .i64) (a := r41.2) (b := 0) rfl rfl) ?_
         refine Vg 99 4 23 false 96 hb98 (mv 98 (.bool (r41.2 == 0))) ?_
         refine RWP.split (r41.2 == 0) (fun hb105 => ?_) (fun hb105 => ?_)
         ·refine Vg 100 4 26 true 99 hb105 (mv 12 (.bool r57.1)) ?_
          refine Vg 101 4 23 false 96 hb98 (p1 99 (.tmp 100) (.const (.bool false)) (.bool r57.1) hb105) ?_
          refine V 102 4 (p0 96 (.const (.bool true)) (.tmp 101) (.bool r57.1) hb98) ?_
          exact RWP.nil ⟨rfl, F7, hs70, (Mem.le.refl _), e16, e19, e20, rfl, rfl, (congrArg Value.bool (or_f hb97 (bif_f hb98 (bif_t hb103 (or_f hb104 (and_t hb105 (rfl)))))))⟩
         ·refine Sk [100] 26 true 99 hb105 ?_
          refine Vg 101 4 23 false 96 hb98 (p0 99 (.tmp 100) (.const (.bool false)) (.bool false) hb105) ?_
          refine V 102 4 (p0 96 (.const (.bool true)) (.tmp 101) (.bool false) hb98) ?_
          exact RWP.nil ⟨rfl, F7, hs70, (Mem.le.refl _), e16, e19, e20, rfl, rfl, (congrArg Value.bool (or_f hb97 (bif_f hb98 (bif_t hb103 (or_f hb104 (and_f hb105 (rfl)))))))⟩
       ·refine Sk [89, 90] 15 true 88 hb103 ?_
        refine Su [91, 92] 17 false 90 ?_
        refine Sk [93] 15 true 88 hb103 ?_
        refine Vg 94 4 13 false 86 rfl (p0 88 (.tmp 93) (.const (.bool false)) (.bool false) hb103) ?_
        refine V 95 4 (p0 86 (.const (.bool true)) (.tmp 94) (.bool false) rfl) ?_
        refine V 96 4 (mv 95 (.bool false)) ?_
        refine Vg 97 30 23 false 96 rfl (mv 9 (vi r41.2)) ?_
        refine Vg 98 4 23 false 96 rfl (run_eql (t := 30) (t' := 30) (x := (.tmp 97)) (y := (.const (vi 0))) (k := .i64) (a := r41.2) (b := 0) rfl rfl) ?_
        refine Vg 99 4 23 false 96 rfl (mv 98 (.bool (r41.2 == 0))) ?_
        refine RWP.split (r41.2 == 0) (fun hb106 => ?_) (fun hb106 => ?_)
        ·refine Vg 100 4 26 true 99 hb106 (mv 12 (.bool r57.1)) ?_
         refine Vg 101 4 23 false 96 rfl (p1 99 (.tmp 100) (.const (.bool false)) (.bool r57.1) hb106) ?_
         refine V 102 4 (p0 96 (.const (.bool true)) (.tmp 101) (.bool r57.1) rfl) ?_
         exact RWP.nil ⟨rfl, F7, hs70, (Mem.le.refl _), e16, e19, e20, rfl, rfl, (congrArg Value.bool (or_f hb97 (bif_f hb98 (bif_f hb103 (and_t hb106 (rfl))))))⟩
        ·refine Sk [100] 26 true 99 hb106 ?_
         refine Vg 101 4 23 false 96 rfl (p0 99 (.tmp 100) (.const (.bool false)) (.bool false) hb106) ?_
         refine V 102 4 (p0 96 (.const (.bool true)) (.tmp 101) (.bool false) rfl) ?_
         exact RWP.nil ⟨rfl, F7, hs70, (Mem.le.refl _), e16, e19, e20, rfl, rfl, (congrArg Value.bool (or_f hb97 (bif_f hb98 (bif_f hb103 (and_f hb106 (rfl))))))⟩
    ·rintro f w88 ⟨F9, hs89, le90, e91, e92, e93, e94, e95, e96⟩
     refine thenQ_nrm ?_
     refine CWP.cond (t := ((!((r41.2 == 0) == (r49.2 == 31))) || (bif (r41.2 != 0) then ((r41.2 != 3) || (r65.1 || ((r41.2 == 0) && r57.1))) else (bif r65.1 then (r57.1 || ((r41.2 == 0) && r57.1)) else ((r41.2 == 0) && r57.1))))) (by kernel_rfl) e96 (fun hb107 => ?_) (fun hb107 => ?_)
     ·have h108 := cond_t h87 hb107
      refine Sq (Rg [0] ?_)
      refine V 6 4 (mc (.bool false) (.bool false)) ?_
      refine Nt ?_
      refine CWP.ret (by kernel_rfl) ?_
      refine thenQ_ret ?_
      have hfin := some_inj h108
      subst hfin
      exact ⟨e91, (.bool false), res_of (l := [.tmp 6]) (by kernel_rfl) (vs := [(.bool false)]) ⟨rfl, trivial⟩, (.bool false), F9, rfl, hs89.clear, rfl⟩
     ·have h109 := cond_f h87 hb107
      refine Sc ?_
      refine thenQ_nrm ?_
      refine Sq ?_
      refine Sq (Rg [0, 1] ?_)
      refine V 103 30 (mv 9 (vi r41.2) e95) ?_
      refine V 104 4 (run_neq (t := 30) (t' := 30) (x := (.tmp 103)) (y := (.const (vi 0))) (k := .i64) (a := r41.2) (b := 0) rfl rfl) ?_
      refine Nt ?_
      refine CWP.cond (t := (r41.2 != 0)) (by kernel_rfl) rfl (fun hb110 => ?_) (fun hb110 => ?_)
      ·have h111 := cond_t h109 hb110
       refine Sq (Rg [0, 1, 2, 3, 4, 5, 6] ?_)
       refine RWP.cut (fun f w => ∃ (F10 : Mem), HS w0 F0 w F10 [] ∧ Mem.le F9 F10 ∧ f.d = [] ∧ f 6 = (.bool (r4 && ((r41.1.length : Int) == 0)))) ?_ ?_
       ·refine V 105 4 (mv 7 (.bool r4) e93) ?_
        refine V 106 4 (mv 105 (.bool r4)) ?_
        refine RWP.split r4 (fun hb117 => ?_) (fun hb117 => ?_)
        ·refine Vg 107 57 1 true 106 hb117 (mv 8 (.slice ar41_0_0 r41.1.length nr41_0_0) e94) ?_
         refine Vg 108 3 1 true 106 hb117 (ln 107 57 ar41_0_0 r41.1.length nr41_0_0 103 7 56) ?_
         refine Vg 109 4 1 true 106 hb117 (run_eql (t := 3) (t' := 3) (x := (.tmp 108)) (y := (.const (vi 0))) (k := .i64) (a := (r41.1.length : Int)) (b := 0) rfl rfl) ?_
         refine V 110 4 (p1 106 (.tmp 109) (.const (.bool false)) (.bool ((r41.1.length : Int) == 0)) hb117) ?_
         refine V 6 4 (ma 110 (.bool ((r41.1.length : Int) == 0))) ?_
         have hs118 : HS w0 F0 w88 F9 [] := hs89.drop 0
         exact RWP.nil ⟨rfl, F9, hs118, (Mem.le.refl _), e91, (congrArg Value.bool (and_t hb117 (rfl)))⟩
        ·refine Sk [107, 108, 109] 1 true 106 hb117 ?_
         refine V 110 4 (p0 106 (.tmp 109) (.const (.bool false)) (.bool false) hb117) ?_
         refine V 6 4 (ma 110 (.bool false)) ?_
         have hs119 : HS w0 F0 w88 F9 [] := hs89.drop 0
         exact RWP.nil ⟨rfl, F9, hs119, (Mem.le.refl _), e91, (congrArg Value.bool (and_f hb117 (rfl)))⟩
       ·rintro f w112 ⟨F10, hs113, le114, e115, e116⟩
        refine thenQ_nrm ?_
        refine CWP.ret (by kernel_rfl) ?_
        refine thenQ_ret ?_
        have hfin := some_inj h111
        subst hfin
        exact ⟨e115, (.bool (r4 && ((r41.1.length : Int) == 0))), res_of (l := [.tmp 6]) (by kernel_rfl) (vs := [(.bool (r4 && ((r41.1.length : Int) == 0)))]) ⟨e116, trivial⟩, (.bool (r4 && ((r41.1.length : Int) == 0))), F10, rfl, hs113.clear, rfl⟩
      ·have h120 := cond_f h109 hb110
       refine Sc ?_
       refine thenQ_nrm ?_
       refine Sq (Rg [0, 1, 2, 3, 4, 5, 6, 7] ?_)
       refine V 112 25 (ld 25 3 b1 0 true 3 (.agg (kSystem x0 a0_0 n0_0 a0_1 n0_1)) (hs89.ownAt (k := 0) rfl) e92) ?_
       refine V 113 57 (mv 8 (.slice ar41_0_0 r41.1.length nr41_0_0) e94) ?_
       obtain ⟨r121, hr122, h123⟩ := bind_some h120
       refine Cl 114 43 54 #[(.tmp 112), (.tmp 113)] #[25, 57] co_clocks_ValidLoop hs89 (c_clocks_ValidLoop N w88 F9 hs89.pers (x0) a0_0 n0_0 hb0_0 (SlA.mono hs0_0 ((((((le10.trans le14).trans le47).trans le55).trans le63).trans le71).trans le90)) a0_1 n0_1 hb0_1 (SlA.mono hs0_1 ((((((le10.trans le14).trans le47).trans le55).trans le63).trans le71).trans le90)) (r41.1) ar41_0_0 nr41_0_0 hbr41_0_0 (SlA.mono hsr41_0_0 (((le55.trans le63).trans le71).trans le90)) _ hr122) ?_
       intro v124 F11 w125 hs126 le127 hp128
       obtain rfl := hp128
       refine V 111 43 (mv 114 (.tuple #[(.bool r121.1), (vi r121.2)])) ?_
       refine V 115 4 (ex 111 0 (.bool r121.1) (vs := #[(.bool r121.1), (vi r121.2)])) ?_
       refine V 116 30 (ex 111 1 (vi r121.2) (vs := #[(.bool r121.1), (vi r121.2)])) ?_
       refine V 16 4 (ma 115 (.bool r121.1)) ?_
       refine V 17 30 (ma 116 (vi r121.2)) ?_
       refine Nss (Rg [0, 1, 2, 3, 4, 5, 6, 7, 8] ?_)
       refine RWP.cut (fun f w => ∃ (F12 : Mem), HS w0 F0 w F12 [] ∧ Mem.le F11 F12 ∧ f.d = [] ∧ f 6 = (.bool (r4 && (r121.1 && (r121.2 == 0))))) ?_ ?_
       ·refine V 117 4 (mv 7 (.bool r4) e93) ?_
        refine V 118 4 (mv 117 (.bool r4)) ?_
        refine RWP.split r4 (fun hb134 => ?_) (fun hb134 => ?_)
        ·refine Vg 119 4 1 true 118 hb134 (mv 16 (.bool r121.1)) ?_
         refine V 120 4 (p1 118 (.tmp 119) (.const (.bool false)) (.bool r121.1) hb134) ?_
         refine V 121 4 (mv 120 (.bool r121.1)) ?_
         refine RWP.split r121.1 (fun hb135 => ?_) (fun hb135 => ?_)
         ·refine Vg 122 30 4 true 121 hb135 (mv 17 (vi r121.2)) ?_
          refine Vg 123 4 4 true 121 hb135 (run_eql (t := 30) (t' := 30) (x := (.tmp 122)) (y := (.const (vi 0))) (k := .i64) (a := r121.2) (b := 0) rfl rfl) ?_
          refine V 124 4 (p1 121 (.tmp 123) (.const (.bool false)) (.bool (r121.2 == 0)) hb135) ?_
          refine V 6 4 (ma 124 (.bool (r121.2 == 0))) ?_
          have hs136 : HS w0 F0 w125 F11 [] := hs126.drop 0
          exact RWP.nil ⟨rfl, F11, hs136, (Mem.le.refl _), e91, (congrArg Value.bool (and_t hb134 (and_t hb135 (rfl))))⟩
         ·refine Sk [122, 123] 4 true 121 hb135 ?_
          refine V 124 4 (p0 121 (.tmp 123) (.const (.bool false)) (.bool false) hb135) ?_
          refine V 6 4 (ma 124 (.bool false)) ?_
          have hs137 : HS w0 F0 w125 F11 [] := hs126.drop 0
          exact RWP.nil ⟨rfl, F11, hs137, (Mem.le.refl _), e91, (congrArg Value.bool (and_t hb134 (and_f hb135 (rfl))))⟩
        ·refine Sk [119] 1 true 118 hb134 ?_
         refine V 120 4 (p0 118 (.tmp 119) (.const (.bool false)) (.bool false) hb134) ?_
         refine V 121 4 (mv 120 (.bool false)) ?_
         refine Sk [122, 123] 4 true 121 rfl ?_
         refine V 124 4 (p0 121 (.tmp 123) (.const (.bool false)) (.bool false) rfl) ?_
         refine V 6 4 (ma 124 (.bool false)) ?_
         have hs138 : HS w0 F0 w125 F11 [] := hs126.drop 0
         exact RWP.nil ⟨rfl, F11, hs138, (Mem.le.refl _), e91, (congrArg Value.bool (and_f hb134 (rfl)))⟩
       ·rintro f w129 ⟨F12, hs130, le131, e132, e133⟩
        refine thenQ_nrm ?_
        refine CWP.ret (by kernel_rfl) ?_
        have hfin := some_inj h123
        subst hfin
        exact ⟨e132, (.bool (r4 && (r121.1 && (r121.2 == 0)))), res_of (l := [.tmp 6]) (by kernel_rfl) (vs := [(.bool (r4 && (r121.1 && (r121.2 == 0))))]) ⟨e133, trivial⟩, (.bool (r4 && (r121.1 && (r121.2 == 0)))), F12, rfl, hs130.clear, rfl⟩
end Go.Proofs.Ythbcnabeabcmlaa
namespace Go.Proofs.Ythbcnabeabcmlaa
theorem loops_true {N : Nat} {s : System} (hN : 1000000 ≤ N) (hf : FitS N s) {x : List Bound} (hx : Fit N x.length) (l : List (List Int)) : law03_ClocksLoops N s x l = some true := by
  unfold law03_ClocksLoops
  obtain ⟨fw, hfw⟩ := few_some hf
  rw [awake_at (by omega), hfw]
  simp only [Option.bind_some, Keeps_c hN hf, Times_c hN hf, ValidLoop_c hf hx, keeps_code, loop_code, times_code]
  cases fw with
  | false => rfl
  | true =>
    simp only [Bool.not_true, cond_false]
    cases decide ((l.length : Int) > 100) with
    | true => rfl
    | false =>
      simp only [cond_false, Option.bind_some]
      cases decide ((x.length : Int) > 200) with
      | true => rfl
      | false =>
        simp only [cond_false]
        rcases FindLoop_c hN hf with ⟨h, h1⟩ | ⟨h, hc, h1⟩ | ⟨h, hc, c, h1, h2, h3⟩
        · have e : (vCheck s != 0) = true := by simpa using h
          have e2 : ask s [] = vCheck s := by unfold ask; rw [if_pos h]
          rw [h1]
          simp [e, e2]
        · have e2 : ask s [] = 0 := ask_of h (fun r hr => by cases hr) hc
          have e3 : (vLoop s x).1 = false := by
            cases hv : (vLoop s x).1 with
            | false => rfl
            | true => exact absurd hc (loop_bad h hv)
          rw [h1]
          simp [h, e2, e3]
        · have e2 : ask s [] = 31 := by unfold ask; rw [if_neg (by omega), if_neg (by simp), if_neg hc]
          have e3 : (vKeeps s l).1 = false := by
            cases hv : (vKeeps s l).1 with
            | false => rfl
            | true => exact absurd (keeps_closes h hv) hc
          have e4 := bad_loop h h2 (by omega)
          rw [h1]
          simp only [Option.bind_some]
          rw [ValidLoop_c hf (c := c) ⟨by omega, by omega⟩]
          simp [h, e2, e3, e4]
theorem loops_row (s : System) (x : List Bound) (l : List (List Int)) (q : qSystem s) (p : x.length < 9223372036854775808 ∧ ∀ b, b ∈ x → qBound b) (_ : l.length < 9223372036854775808 ∧ ∀ x, x ∈ l → (fun l : List Int => l.length < 9223372036854775808 ∧ ∀ x, x ∈ l → rI x) x) :
    law03_ClocksLoops NN s x l = some true := loops_true (by decide) (fitS q) (fitL p) l
end Go.Proofs.Ythbcnabeabcmlaa
namespace Go.Proofs.Ythbcnabeabcmlaa
open Go.ChangeShapes Go.WideShapes Go.ChangeAt Go.RowKit
set_option maxRecDepth 100000 in
theorem lifted_clocksLoops (os : Os) (started : os.Started) (H : Type) (enc : TypeId × Value → H) :
    ReturnsInHanded {} Try.checked os 12 .any (Rows.clocksLoopsSpec.pre6 enc Try.prog Try.f12 Rows.clocksLoopsRow.domain false) (Rows.clocksLoopsSpec.post enc Try.prog Try.f12 false true false false) := by
  refine returnsInHanded_of_change (C := Try.checked) (by kernel_rfl) started (by kernel_rfl) Try.func12
    (ChangeSpec.witness6 (enc := enc) (C := Try.checked) false ⟨#[], #[.agg #[.slice none 0 0, .slice none 0 0, .int .i64 0], .slice none 0 0, .slice none 0 0], []⟩ 8 (by kernel_rfl) (by kernel_rfl) (by kernel_rfl) (by kernel_rfl)) ?_
  intro W base args ds gs before hval0 hW hcnd _
  have hval : ∀ (j : Nat) t v, Try.f12.params[j]? = some t → args[j]? = some v → Value.okWide Try.prog W .any base t v := hval0
  have hW' := hW
  obtain ⟨p, q, hA0, hV, rfl, hfz, hnd⟩ := hW
  have hA : DataW.TrodAll enc Try.prog W 0 (fun _ => true) true Try.f12.params.toList args.toList ds p := hA0
  rw [Try.params12] at hA hval
  obtain ⟨v0, vs0, d0, ds0, p0, q0, hargs, rfl, rfl, h0, r0⟩ := trodAll_cons hA
  obtain ⟨v1, vs1, d1, ds1, p1, q1, rfl, rfl, rfl, h1, r1⟩ := trodAll_cons r0
  obtain ⟨v2, vs2, d2, ds2, p2, q2, rfl, rfl, rfl, h2, r2⟩ := trodAll_cons r1
  obtain ⟨rfl, rfl, rfl⟩ := trodAll_nil r2
  obtain rfl : args = #[v0, v1, v2] := by cases args; simp_all
  obtain ⟨cs0, x0, rfl, R0, Q0⟩ := Opens.agg opens_System_25 (by kernel_rfl) (hval 0 25 v0 rfl rfl) h0
  obtain ⟨a0_0, n0_0, a0_1, n0_1, e0, hb0_0, hs0_0, hb0_1, hs0_1⟩ := R0
  obtain rfl : cs0 = #[.slice a0_0 x0.Tracks.length n0_0, .slice a0_1 x0.Ties.length n0_1, .int .i64 x0.Window] := Array.ext' (by exact e0)
  obtain ⟨x1, R1, Q1⟩ := Opens.one (opens_slice (t := 57) opens_Bound_103 (by decide) (by kernel_rfl) (by kernel_rfl) : Opens Try.prog 57 (tSl tBound) _) (by kernel_rfl) (hval 1 57 v1 rfl rfl) h1
  obtain ⟨a1_0, n1_0, e1, hb1_0, hs1_0⟩ := R1
  obtain rfl : v1 = .slice a1_0 x1.length n1_0 := by cases e1; rfl
  obtain ⟨x2, R2, Q2⟩ := Opens.one (opens_slice (t := 71) (opens_slice (t := 50) (opens_int (t := 3) (by kernel_rfl) (by kernel_rfl) : Opens Try.prog 3 tInt rI) (by decide) (by kernel_rfl) (by kernel_rfl) : Opens Try.prog 50 (tSl tInt) _) (by decide) (by kernel_rfl) (by kernel_rfl) : Opens Try.prog 71 (tSl (tSl tInt)) _) (by kernel_rfl) (hval 2 71 v2 rfl rfl) h2
  obtain ⟨a2_0, n2_0, e2, hb2_0, hs2_0⟩ := R2
  obtain rfl : v2 = .slice a2_0 x2.length n2_0 := by cases e2; rfl
  refine (c_law03_ClocksLoops 9223372036854775808 W (memOf W) (fun _ _ h => h) x0 a0_0 n0_0 hb0_0 hs0_0 a0_1 n0_1 hb0_1 hs0_1 x1 a1_0 n1_0 hb1_0 hs1_0 x2 a2_0 n2_0 hb2_0 hs2_0 true (loops_row x0 x1 x2 Q0 Q1 Q2)).mono fun e W' he => ?_
  obtain ⟨r, F', rfl, hs, rfl⟩ := he
  refine ⟨_, rfl, post_grown (by kernel_rfl) (tb := 4) ?_ rfl hW' (by kernel_rfl) (by kernel_rfl) ?_ hs⟩
  · intro t ht
    rw [Try.params12] at ht
    simp only [List.mem_cons, List.not_mem_nil, or_false] at ht
    rcases ht with rfl | rfl | rfl <;> exact ⟨by kernel_rfl, by decide +kernel⟩
  · intro _; rfl
theorem clocksLoops_proved : Rows.ClocksLoopsSaid :=
  OpenClaim.holds_of_wide 12 Try.f12 rfl rfl rfl rfl rfl rfl rfl ⟨rfl, rfl, rfl, rfl, rfl⟩ rfl rfl rfl rfl rfl (by kernel_rfl) Try.func12 (by kernel_rfl)
    (of_decide_eq_true (by kernel_rfl)) (by unfold Func.isWrapper; first | (rw [if_pos (by decide +kernel)]; kernel_rfl) | (rw [if_neg (by decide +kernel)]; exact ⟨rfl, rfl⟩))
    (fun os started H enc _ => lifted_clocksLoops os started H enc)
end Go.Proofs.Ythbcnabeabcmlaa
