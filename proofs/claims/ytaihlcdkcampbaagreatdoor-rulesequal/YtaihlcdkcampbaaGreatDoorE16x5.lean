/- Lemmas of the claim RulesEqual, printed by a program of the claimant and by hand. No statement of the seat is proved here. -/
import Derived.Test.YtaihlcdkcampbaaGreatDoorE16x4
set_option linter.unusedVariables false
set_option linter.unusedSimpArgs false
set_option linter.unusedSectionVars false
set_option maxHeartbeats 4000000
set_option maxRecDepth 100000
namespace Go.Proofs.YtaihlcdkcampbaaGreatDoor
open Go.Proofs
def zExpr : Expr := { Op := 0, Value := 0, Kids := ([] : List Expr) }
def zPlaced : rules_placed := { Expr := zExpr, at_ := 0 }
def zBook : Book := { Points := ([] : List Clause), Multipliers := ([] : List Clause), Penalties := ([] : List Clause), Repeats := ([] : List Expr) }
def readAs {α β : Type} (N : Nat) (s : List UInt8) (run : rules_parser → Option (rules_bad ⊕ α)) (z : β) (f : α → β) : Option (β × Int × Int) :=
 bif decide ((s.length : Int) > 65536) then some (z, 2, 0) else (rules_tokensOf N s).bind fun l => (run { l_ := l, open_ := 0 }).bind fun q => sk q (fun b => bif b.e_ != 0 then some (z, b.e_, b.at_) else none) (fun a => some (f a, 0, 0))
def rules_ParseExpr (N : Nat) (x0 : List UInt8) : Option (Expr × Int × Int) := readAs N x0 (fun p => rules_ParseExpr_1 N p zPlaced) zExpr (fun a => a.2.Expr)
def rules_Parse (N : Nat) (x0 : List UInt8) : Option (Book × Int × Int) := readAs N x0 (fun p => rules_Parse_1 N p zBook) zBook (fun a => a.2)
theorem bif_true {α : Type} {b : Bool} {x y : α} (h : b = true) : (bif b then x else y) = x := by subst h; rfl
theorem bif_false {α : Type} {b : Bool} {x y : α} (h : b = false) : (bif b then x else y) = y := by subst h; rfl
theorem co_rules_ParseExpr : CallOk Tryz.prog 25 := fun _ _ => by kernel_rfl
set_option maxRecDepth 100000 in
theorem c_rules_ParseExpr (N : Nat) (w0 : World) (F0 : Mem) (hF : ∀ b o, F0 b = some o → w0.heap[b]? = some o) (hG : Glob F0) (x0 : List UInt8) (r : Expr × Int × Int) (h : rules_ParseExpr N x0 = some r) :
  Calls Tryz.prog 25 ([.string ⟨x0.toArray⟩] : List Value).toArray w0 (FRet w0 F0 fun F' v => ∃ (aq0_2 : Option Addr) (nq0_2 : Nat), v = (.tuple #[(.agg #[(.int .i64 r.1.Op), (.int .i64 r.1.Value), (.slice aq0_2 r.1.Kids.length nq0_2)]), (.int .i64 r.2.1), (.int .i64 r.2.2)]) ∧ LC r.1.Kids.length nq0_2 ∧ SlA tExpr F' aq0_2 r.1.Kids) := by
 have hs0 := HS.start hF
 refine calls_of (n := 21) (c := bodyOf Tryz.f25) Tryz.func25 (by kernel_rfl) (by kernel_rfl) (by kernel_rfl) ?_
 refine Sq ?_
 refine Rg [0, 1, 2] ?_
 refine RWP.alloc (dst := some 2) (ty := 0) (g := none) (by kernel_rfl) rfl (t := 33) (z := .agg #[.int .i64 0, .int .i64 0, .slice none 0 0]) (by kernel_rfl) (C := #[.int .i64 0, .int .i64 0, .slice none 0 0]) rfl hs0 (fun b2 w1 hs1 => ?_)
 refine V 3 27 (run_assign (x := .const (.int .i64 0)) (v := .int .i64 0) rfl) ?_
 refine V 4 3 (run_assign (x := .const (.int .i64 0)) (v := .int .i64 0) rfl) ?_
 refine RWP.nil ?_
 refine thenQ_nrm ?_
 refine Sq ?_
 refine Rg [0] ?_
 refine RWP.alloc (dst := some 5) (ty := 0) (g := none) (by kernel_rfl) rfl (t := 113) (z := .agg #[.int .i64 0, .int .i64 0, .slice none 0 0, .int .i64 0]) (by kernel_rfl) (C := #[.int .i64 0, .int .i64 0, .slice none 0 0, .int .i64 0]) rfl hs1 (fun b5 w2 hs2 => ?_)
 refine RWP.nil ?_
 refine thenQ_nrm ?_
 refine Sq ?_
 refine Rg [0, 1, 2, 3, 4, 5, 6, 7] ?_
 refine V 9 9 (run_move (x := .tmp 0) (v := .string ⟨x0.toArray⟩) rfl) ?_
 refine V 10 103 (run_makeFunc (fn := .func 85) (first := #[]) (cap := #[.tmp 5]) (fl := []) (cl := [.pointer (some ⟨b5, 0, none⟩)]) rfl rfl) ?_
 obtain ⟨X, hX⟩ : ∃ X : Own, X = [(some b2, .cells #[.int .i64 0, .int .i64 0, .slice none 0 0] 33 (0, 0))] := ⟨_, rfl⟩
 refine RWP.enter (dst := some 11) (ty := 88) (g := none) (by kernel_rfl) rfl (run_call (f := .func 78) (aos := #[.tmp 9, .tmp 10]) (ats := #[9, 103]) (g := 78) (first := #[]) (cap := #[]) (args := [.string ⟨x0.toArray⟩, .func (.func 85) #[] #[.pointer (some ⟨b5, 0, none⟩)]]) rfl co_rules_read rfl)
  (c_rules_read N hs2 x0 (g := 85) (cap := [.pointer (some ⟨b5, 0, none⟩)]) co_rules_ParseExpr_1 (fun o F' L' => match o with
   | none => ∃ (e : Expr) (at_ : Int) (a : Option Addr) (n : Nat), L' = (some b5, .cells #[.int .i64 e.Op, .int .i64 e.Value, .slice a e.Kids.length n, .int .i64 at_] 113 (0, 0)) :: X ∧ LC e.Kids.length n ∧ SlA tExpr F' a e.Kids ∧ some (e, (0 : Int), (0 : Int)) = some r
   | some x => (bif x.e_ != 0 then some (zExpr, x.e_, x.at_) else none) = some r ∧ (L' = X ∨ ∃ o, L' = (some b5, o) :: X)) ?_ ?_) ?_
 ·intro hc F'
  unfold rules_ParseExpr readAs at h
  rw [bif_true hc] at h
  exact ⟨h, .inr ⟨_, by rw [hX]⟩⟩
 ·intro hc
  unfold rules_ParseExpr readAs at h
  rw [bif_false hc] at h
  obtain ⟨l, hl, h⟩ := bind_some h
  obtain ⟨q, hq, h⟩ := bind_some h
  refine ⟨l, hl, fun w3 F3 be_ ba_ bp a n le3 hb hsl hs3 => ?_⟩
  have hs4 : HS w0 F0 w3 F3 ((some bp, .cells #[.slice a l.length n, .int .i64 0] 100 (0, 0)) :: (some b5, .cells #[.int .i64 0, .int .i64 0, .slice none 0 0, .int .i64 0] 113 (0, 0)) :: (some ba_, ba 0) :: (some be_, be 0) :: X) := by
   rw [hX]; exact (hs3.pick (k := 3) rfl).pick (k := 1) rfl
  refine (c_rules_ParseExpr_1 N (hG.mono (hs3.le)) bp { l_ := l, open_ := 0 } a n hb hsl b5 zPlaced none 0 LC.nil (.inl rfl) hs4 q hq).mono ?_
  rintro e w4 (⟨a1, F4, v, L', rfl, rfl, hs5, le5, aq, nq, az, nz, rfl, rfl, h1, h2, h3, h4⟩ | ⟨x, F4, rfl, rfl, hs5, le5⟩)
  ·exact .inl ⟨_, F4, _, rfl, ((hs5.drop 0).pick (k := 2) rfl).pick (k := 2) rfl, le5, _, _, az, nz, rfl, h3, h4, h⟩
  ·exact .inr ⟨x, F4, _, rfl, hs5, le5, h, .inl rfl⟩
 ·rintro e w5 ⟨o, F5, L5, rfl, hs5, le5, hK⟩
  cases o with
  | none =>
   obtain ⟨e, at_, a, n, rfl, hb, hsl, hr⟩ := hK
   simp only
   refine V 8 88 (run_move (x := .tmp 11) (v := .tuple #[.int .i64 0, .int .i64 0]) rfl) ?_
   refine V 12 27 (run_extract (x := .tmp 8) (vs := #[.int .i64 0, .int .i64 0]) (i := 0) (v := .int .i64 0) rfl rfl) ?_
   refine V 13 3 (run_extract (x := .tmp 8) (vs := #[.int .i64 0, .int .i64 0]) (i := 1) (v := .int .i64 0) rfl rfl) ?_
   refine V 6 27 (run_assign (x := .tmp 12) (v := .int .i64 0) rfl) ?_
   refine V 7 3 (run_assign (x := .tmp 13) (v := .int .i64 0) rfl) ?_
   refine RWP.nil ?_
   refine thenQ_nrm ?_
   refine Sq ?_
   refine Sq ?_
   refine Rg [0, 1] ?_
   refine V 14 27 (run_move (x := .tmp 6) (v := .int .i64 0) rfl) ?_
   refine V 15 4 (run_neq (t := 27) (t' := 27) (x := .tmp 14) (y := .const (.int .i64 0)) (k := .i64) (a := 0) (b := 0) rfl rfl) ?_
   refine RWP.nil ?_
   refine thenQ_nrm ?_
   refine CWP.cond0 (t := false) (by kernel_rfl) rfl rfl ?_
   refine CWP.skip (by kernel_rfl) ?_
   refine thenQ_nrm ?_
   refine Sq ?_
   refine Rg [0, 1, 2, 3, 4] ?_
   refine V 19 0 (run_fieldAddr (s := 113) (x := .tmp 5) (i := 0) (o := 0) (k := 3) (b := b5) (o0 := 0) rfl (by kernel_rfl) rfl (o1 := 0) rfl) ?_
   refine V 20 33 (run_load' (t := 33) (x := .tmp 19) (b := b5) (o := 0) (g := true) (s := 3) (C := #[.int .i64 e.Op, .int .i64 e.Value, .slice a e.Kids.length n, .int .i64 at_]) (v := .agg #[.int .i64 e.Op, .int .i64 e.Value, .slice a e.Kids.length n]) rfl (by kernel_rfl) (hs5.ownAt (k := 0) rfl) rfl rfl rfl) ?_
   subst hX
   refine RWP.store (ty := 0) (g := none) (by kernel_rfl) rfl (x := .tmp 2) (y := .tmp 20) (t := 33) (gg := true) (s := 3) (v := .agg #[.int .i64 e.Op, .int .i64 e.Value, .slice a e.Kids.length n]) (b := b2) (o := 0) (C := #[.int .i64 0, .int .i64 0, .slice none 0 0]) rfl rfl (by kernel_rfl) hs5 (k := 1) rfl rfl rfl rfl (C' := #[.int .i64 e.Op, .int .i64 e.Value, .slice a e.Kids.length n]) rfl (fun w6 hs6 => ?_)
   refine V 3 27 (run_assign (x := .const (.int .i64 0)) (v := .int .i64 0) rfl) ?_
   refine V 4 3 (run_assign (x := .const (.int .i64 0)) (v := .int .i64 0) rfl) ?_
   refine RWP.nil ?_
   refine thenQ_nrm ?_
   refine CWP.ret (by kernel_rfl) ?_
   obtain rfl := some_inj hr
   exact ⟨rfl, _, res_of (l := [.cell 2 33, .tmp 3, .tmp 4]) (by kernel_rfl) (vs := [.agg #[.int .i64 e.Op, .int .i64 e.Value, .slice a e.Kids.length n], .int .i64 0, .int .i64 0]) ⟨b2, 0, rfl, run_loadVar' (t := 33) (g := true) (s := 3) (by kernel_rfl) (hs6.ownAt (k := 1) rfl) rfl (by decide), rfl, rfl, trivial⟩, _, F5, rfl, hs6.clear, a, n, rfl, hb, hsl⟩
  | some x =>
   obtain ⟨hr, hL⟩ := hK
   have hs6 : HS w0 F0 w5 F5 X := by
    rcases hL with rfl | ⟨o, rfl⟩
    ·exact hs5
    ·exact hs5.drop 0
   clear hs5 hL
   cases hne : x.e_ != 0 with
   | false => rw [hne] at hr; cases hr
   | true =>
    rw [hne] at hr
    obtain rfl := some_inj hr
    simp only
    refine V 8 88 (run_move (x := .tmp 11) (v := .tuple #[.int .i64 x.e_, .int .i64 x.at_]) rfl) ?_
    refine V 12 27 (run_extract (x := .tmp 8) (vs := #[.int .i64 x.e_, .int .i64 x.at_]) (i := 0) (v := .int .i64 x.e_) rfl rfl) ?_
    refine V 13 3 (run_extract (x := .tmp 8) (vs := #[.int .i64 x.e_, .int .i64 x.at_]) (i := 1) (v := .int .i64 x.at_) rfl rfl) ?_
    refine V 6 27 (run_assign (x := .tmp 12) (v := .int .i64 x.e_) rfl) ?_
    refine V 7 3 (run_assign (x := .tmp 13) (v := .int .i64 x.at_) rfl) ?_
    refine RWP.nil ?_
    refine thenQ_nrm ?_
    refine Sq ?_
    refine Sq ?_
    refine Rg [0, 1] ?_
    refine V 14 27 (run_move (x := .tmp 6) (v := .int .i64 x.e_) rfl) ?_
    refine V 15 4 (run_neq (t := 27) (t' := 27) (x := .tmp 14) (y := .const (.int .i64 0)) (k := .i64) (a := x.e_) (b := 0) rfl rfl) ?_
    refine RWP.nil ?_
    refine thenQ_nrm ?_
    refine CWP.cond1 (t := x.e_ != 0) (by kernel_rfl) rfl hne ?_
    refine Sq ?_
    refine Rg [0, 1, 2, 3, 4, 5] ?_
    refine V 16 33 (run_build2 (t := 33) (parts := #[]) (vs := []) rfl (cs := [.int .i64 0, .int .i64 0, .slice none 0 0]) (by kernel_rfl)) ?_
    refine V 17 27 (run_move (x := .tmp 6) (v := .int .i64 x.e_) rfl) ?_
    refine V 18 3 (run_move (x := .tmp 7) (v := .int .i64 x.at_) rfl) ?_
    subst hX
    refine RWP.store (ty := 0) (g := none) (by kernel_rfl) rfl (x := .tmp 2) (y := .tmp 16) (t := 33) (gg := true) (s := 3) (v := .agg #[.int .i64 0, .int .i64 0, .slice none 0 0]) (b := b2) (o := 0) (C := #[.int .i64 0, .int .i64 0, .slice none 0 0]) rfl rfl (by kernel_rfl) hs6 (k := 0) rfl rfl rfl rfl (C' := #[.int .i64 0, .int .i64 0, .slice none 0 0]) rfl (fun w7 hs7 => ?_)
    refine V 3 27 (run_assign (x := .tmp 17) (v := .int .i64 x.e_) rfl) ?_
    refine V 4 3 (run_assign (x := .tmp 18) (v := .int .i64 x.at_) rfl) ?_
    refine RWP.nil ?_
    refine thenQ_nrm ?_
    refine CWP.ret (by kernel_rfl) ?_
    refine thenQ_ret ?_
    exact ⟨rfl, _, res_of (l := [.cell 2 33, .tmp 3, .tmp 4]) (by kernel_rfl) (vs := [.agg #[.int .i64 0, .int .i64 0, .slice none 0 0], .int .i64 x.e_, .int .i64 x.at_]) ⟨b2, 0, rfl, run_loadVar' (t := 33) (g := true) (s := 3) (by kernel_rfl) (hs7.ownAt (k := 0) rfl) rfl (by decide), rfl, rfl, trivial⟩, _, F5, rfl, hs7.clear, none, 0, rfl, LC.nil, .inl rfl⟩
theorem co_rules_Parse : CallOk Tryz.prog 22 := fun _ _ => by kernel_rfl
set_option maxRecDepth 100000 in
theorem c_rules_Parse (N : Nat) (w0 : World) (F0 : Mem) (hF : ∀ b o, F0 b = some o → w0.heap[b]? = some o) (hG : Glob F0) (x0 : List UInt8) (r : Book × Int × Int) (h : rules_Parse N x0 = some r) :
  Calls Tryz.prog 22 ([.string ⟨x0.toArray⟩] : List Value).toArray w0 (FRet w0 F0 fun F' v => ∃ (aq0_0 : Option Addr) (nq0_0 : Nat) (aq0_1 : Option Addr) (nq0_1 : Nat) (aq0_2 : Option Addr) (nq0_2 : Nat) (aq0_3 : Option Addr) (nq0_3 : Nat), v = (.tuple #[(.agg #[(.slice aq0_0 r.1.Points.length nq0_0), (.slice aq0_1 r.1.Multipliers.length nq0_1), (.slice aq0_2 r.1.Penalties.length nq0_2), (.slice aq0_3 r.1.Repeats.length nq0_3)]), (.int .i64 r.2.1), (.int .i64 r.2.2)]) ∧ LC r.1.Points.length nq0_0 ∧ SlA tClause F' aq0_0 r.1.Points ∧ LC r.1.Multipliers.length nq0_1 ∧ SlA tClause F' aq0_1 r.1.Multipliers ∧ LC r.1.Penalties.length nq0_2 ∧ SlA tClause F' aq0_2 r.1.Penalties ∧ LC r.1.Repeats.length nq0_3 ∧ SlA tExpr F' aq0_3 r.1.Repeats) := by
 have hs0 := HS.start hF
 refine calls_of (n := 20) (c := bodyOf Tryz.f22) Tryz.func22 (by kernel_rfl) (by kernel_rfl) (by kernel_rfl) ?_
 refine Sq ?_
 refine Rg [0, 1, 2] ?_
 refine RWP.alloc (dst := some 2) (ty := 0) (g := none) (by kernel_rfl) rfl (t := 26) (z := .agg #[.slice none 0 0, .slice none 0 0, .slice none 0 0, .slice none 0 0]) (by kernel_rfl) (C := #[.slice none 0 0, .slice none 0 0, .slice none 0 0, .slice none 0 0]) rfl hs0 (fun b2 w1 hs1 => ?_)
 refine V 3 27 (run_assign (x := .const (.int .i64 0)) (v := .int .i64 0) rfl) ?_
 refine V 4 3 (run_assign (x := .const (.int .i64 0)) (v := .int .i64 0) rfl) ?_
 refine RWP.nil ?_
 refine thenQ_nrm ?_
 refine Sq ?_
 refine Rg [0] ?_
 refine RWP.alloc (dst := some 5) (ty := 0) (g := none) (by kernel_rfl) rfl (t := 26) (z := .agg #[.slice none 0 0, .slice none 0 0, .slice none 0 0, .slice none 0 0]) (by kernel_rfl) (C := #[.slice none 0 0, .slice none 0 0, .slice none 0 0, .slice none 0 0]) rfl hs1 (fun b5 w2 hs2 => ?_)
 refine RWP.nil ?_
 refine thenQ_nrm ?_
 refine Sq ?_
 refine Rg [0, 1, 2, 3, 4, 5, 6, 7] ?_
 refine V 9 9 (run_move (x := .tmp 0) (v := .string ⟨x0.toArray⟩) rfl) ?_
 refine V 10 103 (run_makeFunc (fn := .func 79) (first := #[]) (cap := #[.tmp 5]) (fl := []) (cl := [.pointer (some ⟨b5, 0, none⟩)]) rfl rfl) ?_
 obtain ⟨X, hX⟩ : ∃ X : Own, X = [(some b2, .cells #[.slice none 0 0, .slice none 0 0, .slice none 0 0, .slice none 0 0] 26 (0, 0))] := ⟨_, rfl⟩
 refine RWP.enter (dst := some 11) (ty := 88) (g := none) (by kernel_rfl) rfl (run_call (f := .func 78) (aos := #[.tmp 9, .tmp 10]) (ats := #[9, 103]) (g := 78) (first := #[]) (cap := #[]) (args := [.string ⟨x0.toArray⟩, .func (.func 79) #[] #[.pointer (some ⟨b5, 0, none⟩)]]) rfl co_rules_read rfl)
  (c_rules_read N hs2 x0 (g := 79) (cap := [.pointer (some ⟨b5, 0, none⟩)]) co_rules_Parse_1 (fun o F' L' => match o with
   | none => ∃ (e : Book) (a0 : Option Addr) (n0 : Nat) (a1 : Option Addr) (n1 : Nat) (a2 : Option Addr) (n2 : Nat) (a3 : Option Addr) (n3 : Nat), L' = (some b5, .cells #[.slice a0 e.Points.length n0, .slice a1 e.Multipliers.length n1, .slice a2 e.Penalties.length n2, .slice a3 e.Repeats.length n3] 26 (0, 0)) :: X ∧ LC e.Points.length n0 ∧ SlA tClause F' a0 e.Points ∧ LC e.Multipliers.length n1 ∧ SlA tClause F' a1 e.Multipliers ∧ LC e.Penalties.length n2 ∧ SlA tClause F' a2 e.Penalties ∧ LC e.Repeats.length n3 ∧ SlA tExpr F' a3 e.Repeats ∧ some (e, (0 : Int), (0 : Int)) = some r
   | some x => (bif x.e_ != 0 then some (zBook, x.e_, x.at_) else none) = some r ∧ (L' = X ∨ ∃ o, L' = (some b5, o) :: X)) ?_ ?_) ?_
 ·intro hc F'
  unfold rules_Parse readAs at h
  rw [bif_true hc] at h
  exact ⟨h, .inr ⟨_, by rw [hX]⟩⟩
 ·intro hc
  unfold rules_Parse readAs at h
  rw [bif_false hc] at h
  obtain ⟨l, hl, h⟩ := bind_some h
  obtain ⟨q, hq, h⟩ := bind_some h
  refine ⟨l, hl, fun w3 F3 be_ ba_ bp a n le3 hb hsl hs3 => ?_⟩
  have hs4 : HS w0 F0 w3 F3 ((some bp, .cells #[.slice a l.length n, .int .i64 0] 100 (0, 0)) :: (some b5, .cells #[.slice none 0 0, .slice none 0 0, .slice none 0 0, .slice none 0 0] 26 (0, 0)) :: (none, .cells #[] 0 (0, 0)) :: (none, .cells #[] 0 (0, 0)) :: (none, .cells #[] 0 (0, 0)) :: (none, .cells #[] 0 (0, 0)) :: (some ba_, ba 0) :: (some be_, be 0) :: X) := by
   have h0 : HS w0 F0 w3 F3 ((some bp, .cells #[.slice a l.length n, .int .i64 0] 100 (0, 0)) :: (some b5, .cells #[.slice none 0 0, .slice none 0 0, .slice none 0 0, .slice none 0 0] 26 (0, 0)) :: (some ba_, ba 0) :: (some be_, be 0) :: X) := by
    rw [hX]; exact (hs3.pick (k := 3) rfl).pick (k := 1) rfl
   exact (((((h0.dummy (.cells #[] 0 (0, 0))).dummy (.cells #[] 0 (0, 0))).dummy (.cells #[] 0 (0, 0))).dummy (.cells #[] 0 (0, 0))).pick (k := 5) rfl).pick (k := 5) rfl
  refine (c_rules_Parse_1 N (hG.mono (hs3.le)) bp { l_ := l, open_ := 0 } a n hb hsl b5 zBook none 0 (none, .cells #[] 0 (0, 0)) none 0 (none, .cells #[] 0 (0, 0)) none 0 (none, .cells #[] 0 (0, 0)) none 0 (none, .cells #[] 0 (0, 0)) (RowR.nil _ _ _ _) (RowR.nil _ _ _ _) (RowR.nil _ _ _ _) (RowR.nil _ _ _ _) hs4 q hq).mono ?_
  rintro e w4 (⟨q1, F4, v, L', rfl, rfl, hs5, le5, aq, nq, a0, n0, e0, a1, n1, e1, a2, n2, e2, a3, n3, e3, rfl, rfl, h1, h2, r0, r1, r2, r3⟩ | ⟨x, F4, rfl, rfl, hs5, le5⟩)
  ·have hs6 := hs5.drop 0
   obtain ⟨G0, hg0, lg0, s0⟩ : ∃ Fq, HS w0 F0 w4 Fq ((some b5, .cells #[.slice a0 q1.2.Points.length n0, .slice a1 q1.2.Multipliers.length n1, .slice a2 q1.2.Penalties.length n2, .slice a3 q1.2.Repeats.length n3] 26 (0, 0)) :: e1 :: e2 :: e3 :: (some ba_, ba 0) :: (some be_, be 0) :: X) ∧ Mem.le F4 Fq ∧ SlA tClause Fq a0 q1.2.Points := HS.freezeRow hs6 (k := 1) rfl r0
   obtain ⟨G1, hg1, lg1, s1⟩ : ∃ Fq, HS w0 F0 w4 Fq ((some b5, .cells #[.slice a0 q1.2.Points.length n0, .slice a1 q1.2.Multipliers.length n1, .slice a2 q1.2.Penalties.length n2, .slice a3 q1.2.Repeats.length n3] 26 (0, 0)) :: e2 :: e3 :: (some ba_, ba 0) :: (some be_, be 0) :: X) ∧ Mem.le G0 Fq ∧ SlA tClause Fq a1 q1.2.Multipliers := HS.freezeRow hg0 (k := 1) rfl (r1.mono lg0)
   obtain ⟨G2, hg2, lg2, s2⟩ : ∃ Fq, HS w0 F0 w4 Fq ((some b5, .cells #[.slice a0 q1.2.Points.length n0, .slice a1 q1.2.Multipliers.length n1, .slice a2 q1.2.Penalties.length n2, .slice a3 q1.2.Repeats.length n3] 26 (0, 0)) :: e3 :: (some ba_, ba 0) :: (some be_, be 0) :: X) ∧ Mem.le G1 Fq ∧ SlA tClause Fq a2 q1.2.Penalties := HS.freezeRow hg1 (k := 1) rfl (r2.mono (lg0.trans lg1))
   obtain ⟨G3, hg3, lg3, s3⟩ : ∃ Fq, HS w0 F0 w4 Fq ((some b5, .cells #[.slice a0 q1.2.Points.length n0, .slice a1 q1.2.Multipliers.length n1, .slice a2 q1.2.Penalties.length n2, .slice a3 q1.2.Repeats.length n3] 26 (0, 0)) :: (some ba_, ba 0) :: (some be_, be 0) :: X) ∧ Mem.le G2 Fq ∧ SlA tExpr Fq a3 q1.2.Repeats := HS.freezeRow hg2 (k := 1) rfl (r3.mono ((lg0.trans lg1).trans lg2))
   exact .inl ⟨_, G3, _, rfl, (hg3.pick (k := 2) rfl).pick (k := 2) rfl, (((le5.trans lg0).trans lg1).trans lg2).trans lg3, q1.2, a0, n0, a1, n1, a2, n2, a3, n3, rfl, r0.bound, s0.mono ((lg1.trans lg2).trans lg3), r1.bound, s1.mono (lg2.trans lg3), r2.bound, s2.mono lg3, r3.bound, s3, h⟩
  ·exact .inr ⟨x, F4, _, rfl, hs5, le5, h, .inl rfl⟩
 ·rintro e w5 ⟨o, F5, L5, rfl, hs5, le5, hK⟩
  cases o with
  | none =>
   obtain ⟨e, a0, n0, a1, n1, a2, n2, a3, n3, rfl, hb0, hl0, hb1, hl1, hb2, hl2, hb3, hl3, hr⟩ := hK
   simp only
   refine V 8 88 (run_move (x := .tmp 11) (v := .tuple #[.int .i64 0, .int .i64 0]) rfl) ?_
   refine V 12 27 (run_extract (x := .tmp 8) (vs := #[.int .i64 0, .int .i64 0]) (i := 0) (v := .int .i64 0) rfl rfl) ?_
   refine V 13 3 (run_extract (x := .tmp 8) (vs := #[.int .i64 0, .int .i64 0]) (i := 1) (v := .int .i64 0) rfl rfl) ?_
   refine V 6 27 (run_assign (x := .tmp 12) (v := .int .i64 0) rfl) ?_
   refine V 7 3 (run_assign (x := .tmp 13) (v := .int .i64 0) rfl) ?_
   refine RWP.nil ?_
   refine thenQ_nrm ?_
   refine Sq ?_
   refine Sq ?_
   refine Rg [0, 1] ?_
   refine V 14 27 (run_move (x := .tmp 6) (v := .int .i64 0) rfl) ?_
   refine V 15 4 (run_neq (t := 27) (t' := 27) (x := .tmp 14) (y := .const (.int .i64 0)) (k := .i64) (a := 0) (b := 0) rfl rfl) ?_
   refine RWP.nil ?_
   refine thenQ_nrm ?_
   refine CWP.cond0 (t := false) (by kernel_rfl) rfl rfl ?_
   refine CWP.skip (by kernel_rfl) ?_
   refine thenQ_nrm ?_
   refine Sq ?_
   refine Rg [0, 1, 2, 3] ?_
   refine V 19 26 (run_load' (t := 26) (x := .tmp 5) (b := b5) (o := 0) (g := true) (s := 4) (C := #[.slice a0 e.Points.length n0, .slice a1 e.Multipliers.length n1, .slice a2 e.Penalties.length n2, .slice a3 e.Repeats.length n3]) (v := .agg #[.slice a0 e.Points.length n0, .slice a1 e.Multipliers.length n1, .slice a2 e.Penalties.length n2, .slice a3 e.Repeats.length n3]) rfl (by kernel_rfl) (hs5.ownAt (k := 0) rfl) rfl rfl rfl) ?_
   subst hX
   refine RWP.store (ty := 0) (g := none) (by kernel_rfl) rfl (x := .tmp 2) (y := .tmp 19) (t := 26) (gg := true) (s := 4) (v := .agg #[.slice a0 e.Points.length n0, .slice a1 e.Multipliers.length n1, .slice a2 e.Penalties.length n2, .slice a3 e.Repeats.length n3]) (b := b2) (o := 0) (C := #[.slice none 0 0, .slice none 0 0, .slice none 0 0, .slice none 0 0]) rfl rfl (by kernel_rfl) hs5 (k := 1) rfl rfl rfl rfl (C' := #[.slice a0 e.Points.length n0, .slice a1 e.Multipliers.length n1, .slice a2 e.Penalties.length n2, .slice a3 e.Repeats.length n3]) rfl (fun w6 hs6 => ?_)
   refine V 3 27 (run_assign (x := .const (.int .i64 0)) (v := .int .i64 0) rfl) ?_
   refine V 4 3 (run_assign (x := .const (.int .i64 0)) (v := .int .i64 0) rfl) ?_
   refine RWP.nil ?_
   refine thenQ_nrm ?_
   refine CWP.ret (by kernel_rfl) ?_
   obtain rfl := some_inj hr
   exact ⟨rfl, _, res_of (l := [.cell 2 26, .tmp 3, .tmp 4]) (by kernel_rfl) (vs := [.agg #[.slice a0 e.Points.length n0, .slice a1 e.Multipliers.length n1, .slice a2 e.Penalties.length n2, .slice a3 e.Repeats.length n3], .int .i64 0, .int .i64 0]) ⟨b2, 0, rfl, run_loadVar' (t := 26) (g := true) (s := 4) (by kernel_rfl) (hs6.ownAt (k := 1) rfl) rfl (by decide), rfl, rfl, trivial⟩, _, F5, rfl, hs6.clear, a0, n0, a1, n1, a2, n2, a3, n3, rfl, hb0, hl0, hb1, hl1, hb2, hl2, hb3, hl3⟩
  | some x =>
   obtain ⟨hr, hL⟩ := hK
   have hs6 : HS w0 F0 w5 F5 X := by
    rcases hL with rfl | ⟨o, rfl⟩
    ·exact hs5
    ·exact hs5.drop 0
   clear hs5 hL
   cases hne : x.e_ != 0 with
   | false => rw [hne] at hr; cases hr
   | true =>
    rw [hne] at hr
    obtain rfl := some_inj hr
    simp only
    refine V 8 88 (run_move (x := .tmp 11) (v := .tuple #[.int .i64 x.e_, .int .i64 x.at_]) rfl) ?_
    refine V 12 27 (run_extract (x := .tmp 8) (vs := #[.int .i64 x.e_, .int .i64 x.at_]) (i := 0) (v := .int .i64 x.e_) rfl rfl) ?_
    refine V 13 3 (run_extract (x := .tmp 8) (vs := #[.int .i64 x.e_, .int .i64 x.at_]) (i := 1) (v := .int .i64 x.at_) rfl rfl) ?_
    refine V 6 27 (run_assign (x := .tmp 12) (v := .int .i64 x.e_) rfl) ?_
    refine V 7 3 (run_assign (x := .tmp 13) (v := .int .i64 x.at_) rfl) ?_
    refine RWP.nil ?_
    refine thenQ_nrm ?_
    refine Sq ?_
    refine Sq ?_
    refine Rg [0, 1] ?_
    refine V 14 27 (run_move (x := .tmp 6) (v := .int .i64 x.e_) rfl) ?_
    refine V 15 4 (run_neq (t := 27) (t' := 27) (x := .tmp 14) (y := .const (.int .i64 0)) (k := .i64) (a := x.e_) (b := 0) rfl rfl) ?_
    refine RWP.nil ?_
    refine thenQ_nrm ?_
    refine CWP.cond1 (t := x.e_ != 0) (by kernel_rfl) rfl hne ?_
    refine Sq ?_
    refine Rg [0, 1, 2, 3, 4, 5] ?_
    refine V 16 26 (run_build2 (t := 26) (parts := #[]) (vs := []) rfl (cs := [.slice none 0 0, .slice none 0 0, .slice none 0 0, .slice none 0 0]) (by kernel_rfl)) ?_
    refine V 17 27 (run_move (x := .tmp 6) (v := .int .i64 x.e_) rfl) ?_
    refine V 18 3 (run_move (x := .tmp 7) (v := .int .i64 x.at_) rfl) ?_
    subst hX
    refine RWP.store (ty := 0) (g := none) (by kernel_rfl) rfl (x := .tmp 2) (y := .tmp 16) (t := 26) (gg := true) (s := 4) (v := .agg #[.slice none 0 0, .slice none 0 0, .slice none 0 0, .slice none 0 0]) (b := b2) (o := 0) (C := #[.slice none 0 0, .slice none 0 0, .slice none 0 0, .slice none 0 0]) rfl rfl (by kernel_rfl) hs6 (k := 0) rfl rfl rfl rfl (C' := #[.slice none 0 0, .slice none 0 0, .slice none 0 0, .slice none 0 0]) rfl (fun w7 hs7 => ?_)
    refine V 3 27 (run_assign (x := .tmp 17) (v := .int .i64 x.e_) rfl) ?_
    refine V 4 3 (run_assign (x := .tmp 18) (v := .int .i64 x.at_) rfl) ?_
    refine RWP.nil ?_
    refine thenQ_nrm ?_
    refine CWP.ret (by kernel_rfl) ?_
    refine thenQ_ret ?_
    exact ⟨rfl, _, res_of (l := [.cell 2 26, .tmp 3, .tmp 4]) (by kernel_rfl) (vs := [.agg #[.slice none 0 0, .slice none 0 0, .slice none 0 0, .slice none 0 0], .int .i64 x.e_, .int .i64 x.at_]) ⟨b2, 0, rfl, run_loadVar' (t := 26) (g := true) (s := 4) (by kernel_rfl) (hs7.ownAt (k := 0) rfl) rfl (by decide), rfl, rfl, trivial⟩, _, F5, rfl, hs7.clear, none, 0, none, 0, none, 0, none, 0, rfl, LC.nil, .inl rfl, LC.nil, .inl rfl, LC.nil, .inl rfl, LC.nil, .inl rfl⟩
end Go.Proofs.YtaihlcdkcampbaaGreatDoor
namespace Go.Proofs.YtaihlcdkcampbaaGreatDoor
open Go.Proofs
def law06_awake0 (N : Nat)  : Option Bool :=
 ((rules_ParseExpr N ([49, 32, 43, 32, 50, 32, 42, 32, 51, 32, 61, 32, 55, 32, 97, 110, 100, 32, 110, 111, 116, 32, 98, 97, 110, 100, 32, 60, 32, 50] : List UInt8)).bind fun r21 => ((rules_PrintExpr N r21.1).bind fun r34 => ((rules_Parse N ([112, 111, 105, 110, 116, 115, 58, 32, 98, 97, 110, 100, 32, 61, 32, 49, 32, 61, 62, 32, 50] : List UInt8)).bind fun r42 => ((rules_Parse N ([112, 111, 105, 110, 116, 115, 58, 32, 98, 97, 110, 100, 32, 61, 62, 32, 50] : List UInt8)).bind fun r55 => ((mk0 0 14).bind fun r68 => ((idx r68 0).bind fun x78 => ((rules_Points N r42.1 (r68.set (0 : Int).toNat (1))).bind fun r97 => ((rules_ParseExpr N ([105, 102, 40, 98, 97, 110, 100, 32, 61, 32, 98, 97, 110, 100, 44, 32, 48, 32, 43, 32, 122, 111, 110, 101, 44, 32, 55, 41] : List UInt8)).bind fun r105 => ((rules_Simplify N r105.1).bind fun r118 => (bif ((r21.2.1 != 0) || ((r34.2 != 0) || ((r42.2.1 != 0) || ((r55.2.1 != 61) || ((r97.2 != 0) || ((r105.2.1 != 0) || ((r118.2 != 0) || (r55.2.2 != 8)))))))) then some false else some ((r21.1.Op == 4) && ((r34.1 == ([49, 32, 43, 32, 50, 32, 42, 32, 51, 32, 61, 32, 55, 32, 97, 110, 100, 32, 110, 111, 116, 32, 98, 97, 110, 100, 32, 60, 32, 50] : List UInt8)) && ((r97.1 == 2) && ((r118.1.Op == 2) && (r118.1.Value == 7)))))))))))))))
theorem co_law06_awake0 : CallOk Tryz.prog 21 := fun _ _ => by kernel_rfl
theorem c_law06_awake0 (N : Nat) (w0 : World) (F0 : Mem) (hF : ∀ b o, F0 b = some o → w0.heap[b]? = some o) (hG : Glob F0)  (r : Bool) (h : law06_awake0 N  = some r) :
  Calls Tryz.prog 21 ([] : List Value).toArray w0 (FRet w0 F0 fun F' v => v = (.bool r)) := by
 have hs0 := HS.start hF
 refine Go 110 Tryz.func21 ?_
 refine Sq (Rg [0] ?_)
 refine Vs 1 ?_
 refine Nss (Rg [0, 1, 2, 3, 4, 5, 6, 7, 8] ?_)
 obtain ⟨r21, hr22, h23⟩ := bind_some h
 refine Cl' co_rules_ParseExpr hs0 (c_rules_ParseExpr N w0 F0 hs0.pers hG (([49, 32, 43, 32, 50, 32, 42, 32, 51, 32, 61, 32, 55, 32, 97, 110, 100, 32, 110, 111, 116, 32, 98, 97, 110, 100, 32, 60, 32, 50] : List UInt8)) _ hr22) ?_
 rintro _ F1 w25 hs26 le27 ⟨ar21_0_2, nr21_0_2, rfl, hbr21_0_2, hsr21_0_2⟩
 refine Vs 4 ?_
 refine Al' 33 #[(vi 0), (vi 0), (.slice none ([] : List Expr).length 0)] hs26 (fun b29 w30 hs31 => ?_)
 refine St0 (kExpr r21.1 ar21_0_2 nr21_0_2) hs31 (fun w32 hs33 => ?_)
 refine Vs 2 ?_
 refine Nss (Rg [0, 1, 2, 3, 4, 5, 6] ?_)
 refine Ld hs33.at0 ?_
 obtain ⟨r34, hr35, h36⟩ := bind_some h23
 refine Cl' co_rules_PrintExpr hs33 (c_rules_PrintExpr N w32 F1 hs33.pers (hG.mono le27) (r21.1) ar21_0_2 nr21_0_2 hbr21_0_2 hsr21_0_2 _ hr35) ?_
 rintro _ F2 w38 hs39 le40 rfl
 refine Vs 5 ?_
 refine Nss (Rg [0, 1, 2, 3, 4, 5, 6, 7, 8] ?_)
 obtain ⟨r42, hr43, h44⟩ := bind_some h36
 refine Cl' co_rules_Parse hs39 (c_rules_Parse N w38 F2 hs39.pers (hG.mono (le27.trans le40)) (([112, 111, 105, 110, 116, 115, 58, 32, 98, 97, 110, 100, 32, 61, 32, 49, 32, 61, 62, 32, 50] : List UInt8)) _ hr43) ?_
 rintro _ F3 w46 hs47 le48 ⟨ar42_0_0, nr42_0_0, ar42_0_1, nr42_0_1, ar42_0_2, nr42_0_2, ar42_0_3, nr42_0_3, rfl, hbr42_0_0, hsr42_0_0, hbr42_0_1, hsr42_0_1, hbr42_0_2, hsr42_0_2, hbr42_0_3, hsr42_0_3⟩
 refine Vs 4 ?_
 refine Al' 26 #[(.slice none ([] : List Clause).length 0), (.slice none ([] : List Clause).length 0), (.slice none ([] : List Clause).length 0), (.slice none ([] : List Expr).length 0)] hs47 (fun b50 w51 hs52 => ?_)
 refine St0 (kBook r42.1 ar42_0_0 nr42_0_0 ar42_0_1 nr42_0_1 ar42_0_2 nr42_0_2 ar42_0_3 nr42_0_3) hs52 (fun w53 hs54 => ?_)
 refine Vs 2 ?_
 refine Nss (Rg [0, 1, 2, 3, 4, 5, 6, 7, 8] ?_)
 obtain ⟨r55, hr56, h57⟩ := bind_some h44
 refine Cl' co_rules_Parse hs54 (c_rules_Parse N w53 F3 hs54.pers (hG.mono ((le27.trans le40).trans le48)) (([112, 111, 105, 110, 116, 115, 58, 32, 98, 97, 110, 100, 32, 61, 62, 32, 50] : List UInt8)) _ hr56) ?_
 rintro _ F4 w59 hs60 le61 ⟨ar55_0_0, nr55_0_0, ar55_0_1, nr55_0_1, ar55_0_2, nr55_0_2, ar55_0_3, nr55_0_3, rfl, hbr55_0_0, hsr55_0_0, hbr55_0_1, hsr55_0_1, hbr55_0_2, hsr55_0_2, hbr55_0_3, hsr55_0_3⟩
 refine Vs 4 ?_
 refine Al' 26 #[(.slice none ([] : List Clause).length 0), (.slice none ([] : List Clause).length 0), (.slice none ([] : List Clause).length 0), (.slice none ([] : List Expr).length 0)] hs60 (fun b63 w64 hs65 => ?_)
 refine St0 (kBook r55.1 ar55_0_0 nr55_0_0 ar55_0_1 nr55_0_1 ar55_0_2 nr55_0_2 ar55_0_3 nr55_0_3) hs65 (fun w66 hs67 => ?_)
 refine Vs 2 ?_
 refine Nss (Rg [0, 1] ?_)
 obtain ⟨r68, hm69, h70⟩ := bind_some h57
 refine RWP.makeSlice (dst := (some 40)) (ty := 47) (g := none) (by kernel_rfl) rfl (x := (.const (vi 14))) (y := (.const (vi 14))) (t := 47) (by_ := 8) (z := (vi 0)) (T := tInt) (E := 3) rfl rfl (by kernel_rfl) (by decide) (by kernel_rfl) (z0 := 0) (fun _ => rfl) (by decide) hs67 hm69 (fun b71 n72 C73 w74 (hs75 : HS w0 F0 w74 F4 [(some b71, .cells C73 3 (0, 0)), (sb b63 (kBook r55.1 ar55_0_0 nr55_0_0 ar55_0_1 nr55_0_1 ar55_0_2 nr55_0_2 ar55_0_3 nr55_0_3) 26), (sb b50 (kBook r42.1 ar42_0_0 nr42_0_0 ar42_0_1 nr42_0_1 ar42_0_2 nr42_0_2 ar42_0_3 nr42_0_3) 26), (sb b29 (kExpr r21.1 ar21_0_2 nr21_0_2) 33)]) hr76 => ?_)
 refine Vs 1 ?_
 refine Nss (Rg [0, 1, 2] ?_)
 refine Vs 1 ?_
 obtain ⟨x78, hx79, h81⟩ := bind_some h70
 obtain ⟨hi80, hx79'⟩ := idx_spec hx79
 obtain ⟨b82, C83, ha84, he85, hE86⟩ := RowR.open hr76 hx79'
 cases ha84
 cases he85
 have hc88 := hE86 _ _ hx79'
 refine Ix0 hi80 ?_
 refine RWP.storeRow (ty := 0) (g := none) (by kernel_rfl) rfl (x := (.tmp 42)) (y := (.const (vi 1))) (t := 3) (v := (vi 1)) (gg := false) (b := b71) (j := (0 : Int).toNat) (C := C73) (T := tInt) (E := 3) (u := (1)) rfl rfl (by kernel_rfl) hs75 (k := 0) rfl hr76 hx79' rfl rfl (fun C89 w90 (hs91 : HS w0 F0 w90 F4 [(some b71, .cells C89 3 (0, 0)), (sb b63 (kBook r55.1 ar55_0_0 nr55_0_0 ar55_0_1 nr55_0_1 ar55_0_2 nr55_0_2 ar55_0_3 nr55_0_3) 26), (sb b50 (kBook r42.1 ar42_0_0 nr42_0_0 ar42_0_1 nr42_0_1 ar42_0_2 nr42_0_2 ar42_0_3 nr42_0_3) 26), (sb b29 (kExpr r21.1 ar21_0_2 nr21_0_2) 33)]) hr92 => ?_)
 refine Nss (Rg [0, 1, 2, 3, 4, 5, 6, 7] ?_)
 refine Ld hs91.at2 ?_
 refine V 45 47 (mv 12 (.slice (some ⟨b71, 0, none⟩) (r68.set (0 : Int).toNat (1)).length n72) (len_set rfl)) ?_
 have hb96 := RowR.bound hr92
 obtain ⟨F5, hs93, le94, hs95⟩ := hs91.fr0 hr92
 obtain ⟨r97, hr98, h99⟩ := bind_some h81
 refine Cl' co_rules_Points hs93 (c_rules_Points N w90 F5 hs93.pers (r42.1) ar42_0_0 nr42_0_0 hbr42_0_0 (SlA.mono hsr42_0_0 (le61.trans le94)) ar42_0_1 nr42_0_1 hbr42_0_1 (SlA.mono hsr42_0_1 (le61.trans le94)) ar42_0_2 nr42_0_2 hbr42_0_2 (SlA.mono hsr42_0_2 (le61.trans le94)) ar42_0_3 nr42_0_3 hbr42_0_3 (SlA.mono hsr42_0_3 (le61.trans le94)) ((r68.set (0 : Int).toNat (1))) (some ⟨b71, 0, none⟩) n72 hb96 hs95 _ hr98) ?_
 rintro _ F6 w101 hs102 le103 rfl
 refine Vs 5 ?_
 refine Nss (Rg [0, 1, 2, 3, 4, 5, 6, 7, 8] ?_)
 obtain ⟨r105, hr106, h107⟩ := bind_some h99
 refine Cl' co_rules_ParseExpr hs102 (c_rules_ParseExpr N w101 F6 hs102.pers (hG.mono (((((le27.trans le40).trans le48).trans le61).trans le94).trans le103)) (([105, 102, 40, 98, 97, 110, 100, 32, 61, 32, 98, 97, 110, 100, 44, 32, 48, 32, 43, 32, 122, 111, 110, 101, 44, 32, 55, 41] : List UInt8)) _ hr106) ?_
 rintro _ F7 w109 hs110 le111 ⟨ar105_0_2, nr105_0_2, rfl, hbr105_0_2, hsr105_0_2⟩
 refine Vs 4 ?_
 refine Al' 33 #[(vi 0), (vi 0), (.slice none ([] : List Expr).length 0)] hs110 (fun b113 w114 hs115 => ?_)
 refine St0 (kExpr r105.1 ar105_0_2 nr105_0_2) hs115 (fun w116 hs117 => ?_)
 refine Vs 2 ?_
 refine Nss (Rg [0, 1, 2, 3, 4, 5, 6, 7] ?_)
 refine Ld hs117.at0 ?_
 obtain ⟨r118, hr119, h120⟩ := bind_some h107
 refine Cl' co_rules_Simplify hs117 (c_rules_Simplify N w116 F7 hs117.pers (r105.1) ar105_0_2 nr105_0_2 hbr105_0_2 hsr105_0_2 _ hr119) ?_
 rintro _ F8 w122 hs123 le124 ⟨ar118_0_2, nr118_0_2, rfl, hbr118_0_2, hsr118_0_2⟩
 refine Vs 3 ?_
 refine Al' 33 #[(vi 0), (vi 0), (.slice none ([] : List Expr).length 0)] hs123 (fun b126 w127 hs128 => ?_)
 refine St0 (kExpr r118.1 ar118_0_2 nr118_0_2) hs128 (fun w129 hs130 => ?_)
 refine Vs 1 ?_
 refine Nss ?_
 refine Sq (Rg [0, 1, 2, 3, 4, 5, 6, 7, 8, 9, 10, 11, 12, 13, 14, 15, 16, 17, 18, 19, 20, 21, 22, 23, 24, 25, 26, 27, 28, 29] ?_)
 refine RWP.cut (fun f w => ∃ (F9 : Mem), HS w0 F0 w F9 [(sb b126 (kExpr r118.1 ar118_0_2 nr118_0_2) 33), (sb b29 (kExpr r21.1 ar21_0_2 nr21_0_2) 33)] ∧ Mem.le F8 F9 ∧ FI f [] [(1, (pt b29 0)), (4, (.string ⟨(r34.1).toArray⟩)), (13, (vi r97.1)), (18, (pt b126 0)), (88, (.bool ((r21.2.1 != 0) || ((r34.2 != 0) || ((r42.2.1 != 0) || ((r55.2.1 != 61) || ((r97.2 != 0) || ((r105.2.1 != 0) || ((r118.2 != 0) || (r55.2.2 != 8))))))))))]) ?_ ?_
 ·refine Vs 3 ?_
  refine RWP.split (r21.2.1 != 0) (fun hb140 => ?_) (fun hb140 => ?_)
  ·refine Ss hb140 2 ?_
   refine Pk1 hb140 ?_
   refine Vs 1 ?_
   refine Ss (rfl : true = true) 2 ?_
   refine Pk1 (rfl : true = true) ?_
   refine Vs 1 ?_
   refine Ss (rfl : true = true) 2 ?_
   refine Pk1 (rfl : true = true) ?_
   refine Vs 1 ?_
   refine Ss (rfl : true = true) 2 ?_
   refine Pk1 (rfl : true = true) ?_
   refine Vs 1 ?_
   refine Ss (rfl : true = true) 2 ?_
   refine Pk1 (rfl : true = true) ?_
   refine Vs 1 ?_
   refine Ss (rfl : true = true) 2 ?_
   refine Pk1 (rfl : true = true) ?_
   refine Vs 1 ?_
   refine Ss (rfl : true = true) 2 ?_
   refine Pk1 (rfl : true = true) ?_
   exact RWP.nil ⟨rfl, F8, hs130.dr1.dr1.dr1, (Mem.le.refl _), (fJ ⟨rfl, rfl, rfl, rfl, (congrArg Value.bool (or_t hb140 (rfl))), trivial⟩)⟩
  ·refine Vgs hb140 2 ?_
   refine Pk0 hb140 ?_
   refine Vs 1 ?_
   refine RWP.split (r34.2 != 0) (fun hb141 => ?_) (fun hb141 => ?_)
   ·refine Ss hb141 2 ?_
    refine Pk1 hb141 ?_
    refine Vs 1 ?_
    refine Ss (rfl : true = true) 2 ?_
    refine Pk1 (rfl : true = true) ?_
    refine Vs 1 ?_
    refine Ss (rfl : true = true) 2 ?_
    refine Pk1 (rfl : true = true) ?_
    refine Vs 1 ?_
    refine Ss (rfl : true = true) 2 ?_
    refine Pk1 (rfl : true = true) ?_
    refine Vs 1 ?_
    refine Ss (rfl : true = true) 2 ?_
    refine Pk1 (rfl : true = true) ?_
    refine Vs 1 ?_
    refine Ss (rfl : true = true) 2 ?_
    refine Pk1 (rfl : true = true) ?_
    exact RWP.nil ⟨rfl, F8, hs130.dr1.dr1.dr1, (Mem.le.refl _), (fJ ⟨rfl, rfl, rfl, rfl, (congrArg Value.bool (or_f hb140 (or_t hb141 (rfl)))), trivial⟩)⟩
   ·refine Vgs hb141 2 ?_
    refine Pk0 hb141 ?_
    refine Vs 1 ?_
    refine RWP.split (r42.2.1 != 0) (fun hb142 => ?_) (fun hb142 => ?_)
    ·refine Ss hb142 2 ?_
     refine Pk1 hb142 ?_
     refine Vs 1 ?_
     refine Ss (rfl : true = true) 2 ?_
     refine Pk1 (rfl : true = true) ?_
     refine Vs 1 ?_
     refine Ss (rfl : true = true) 2 ?_
     refine Pk1 (rfl : true = true) ?_
     refine Vs 1 ?_
     refine Ss (rfl : true = true) 2 ?_
     refine Pk1 (rfl : true = true) ?_
     refine Vs 1 ?_
     refine Ss (rfl : true = true) 2 ?_
     refine Pk1 (rfl : true = true) ?_
     exact RWP.nil ⟨rfl, F8, hs130.dr1.dr1.dr1, (Mem.le.refl _), (fJ ⟨rfl, rfl, rfl, rfl, (congrArg Value.bool (or_f hb140 (or_f hb141 (or_t hb142 (rfl))))), trivial⟩)⟩
    ·refine Vgs hb142 2 ?_
     refine Pk0 hb142 ?_
     refine Vs 1 ?_
     refine RWP.split (r55.2.1 != 61) (fun hb143 => ?_) (fun hb143 => ?_)
     ·refine Ss hb143 2 ?_
      refine Pk1 hb143 ?_
      refine Vs 1 ?_
      refine Ss (rfl : true = true) 2 ?_
      refine Pk1 (rfl : true = true) ?_
      refine Vs 1 ?_
      refine Ss (rfl : true = true) 2 ?_
      refine Pk1 (rfl : true = true) ?_
      refine Vs 1 ?_
      refine Ss (rfl : true = true) 2 ?_
      refine Pk1 (rfl : true = true) ?_
      exact RWP.nil ⟨rfl, F8, hs130.dr1.dr1.dr1, (Mem.le.refl _), (fJ ⟨rfl, rfl, rfl, rfl, (congrArg Value.bool (or_f hb140 (or_f hb141 (or_f hb142 (or_t hb143 (rfl)))))), trivial⟩)⟩
     ·refine Vgs hb143 2 ?_
      refine Pk0 hb143 ?_
      refine Vs 1 ?_
      refine RWP.split (r97.2 != 0) (fun hb144 => ?_) (fun hb144 => ?_)
      ·refine Ss hb144 2 ?_
       refine Pk1 hb144 ?_
       refine Vs 1 ?_
       refine Ss (rfl : true = true) 2 ?_
       refine Pk1 (rfl : true = true) ?_
       refine Vs 1 ?_
       refine Ss (rfl : true = true) 2 ?_
       refine Pk1 (rfl : true = true) ?_
       exact RWP.nil ⟨rfl, F8, hs130.dr1.dr1.dr1, (Mem.le.refl _), (fJ ⟨rfl, rfl, rfl, rfl, (congrArg Value.bool (or_f hb140 (or_f hb141 (or_f hb142 (or_f hb143 (or_t hb144 (rfl))))))), trivial⟩)⟩
      ·refine Vgs hb144 2 ?_
       refine Pk0 hb144 ?_
       refine Vs 1 ?_
       refine RWP.split (r105.2.1 != 0) (fun hb145 => ?_) (fun hb145 => ?_)
       ·refine Ss hb145 2 ?_
        refine Pk1 hb145 ?_
        refine Vs 1 ?_
        refine Ss (rfl : true = true) 2 ?_
        refine Pk1 (rfl : true = true) ?_
        exact RWP.nil ⟨rfl, F8, hs130.dr1.dr1.dr1, (Mem.le.refl _), (fJ ⟨rfl, rfl, rfl, rfl, (congrArg Value.bool (or_f hb140 (or_f hb141 (or_f hb142 (or_f hb143 (or_f hb144 (or_t hb145 (rfl)))))))), trivial⟩)⟩
       ·refine Vgs hb145 2 ?_
        refine Pk0 hb145 ?_
        refine Vs 1 ?_
        refine RWP.split (r118.2 != 0) (fun hb146 => ?_) (fun hb146 => ?_)
        ·refine Ss hb146 2 ?_
         refine Pk1 hb146 ?_
         exact RWP.nil ⟨rfl, F8, hs130.dr1.dr1.dr1, (Mem.le.refl _), (fJ ⟨rfl, rfl, rfl, rfl, (congrArg Value.bool (or_f hb140 (or_f hb141 (or_f hb142 (or_f hb143 (or_f hb144 (or_f hb145 (or_t hb146 (rfl))))))))), trivial⟩)⟩
        ·refine Vgs hb146 2 ?_
         refine Pk0 hb146 ?_
         exact RWP.nil ⟨rfl, F8, hs130.dr1.dr1.dr1, (Mem.le.refl _), (fJ ⟨rfl, rfl, rfl, rfl, (congrArg Value.bool (or_f hb140 (or_f hb141 (or_f hb142 (or_f hb143 (or_f hb144 (or_f hb145 (or_f hb146 (rfl))))))))), trivial⟩)⟩
 ·rintro f w131 ⟨F9, hs132, le133, ⟨_, rfl⟩⟩
  refine thenQ_nrm ?_
  refine Cd h120 (fun hb147 h148 => ?_) (fun hb147 h149 => ?_)
  ·refine Sq (Rg [0] ?_)
   refine Vs 1 ?_
   refine Nt ?_
   refine Rt ?_
   refine thenQ_ret ?_
   obtain rfl := some_inj h148
   exact Re [(.bool false)] hs132 rfl
  ·refine Sc ?_
   refine thenQ_nrm ?_
   refine Sq (Rg [0, 1, 2, 3, 4, 5, 6, 7, 8, 9, 10, 11, 12, 13, 14, 15, 16, 17, 18, 19, 20, 21] ?_)
   refine RWP.cut (fun f w => ∃ (F10 : Mem), HS w0 F0 w F10 [] ∧ Mem.le F9 F10 ∧ FI f [] [(0, (.bool ((r21.1.Op == 4) && ((r34.1 == ([49, 32, 43, 32, 50, 32, 42, 32, 51, 32, 61, 32, 55, 32, 97, 110, 100, 32, 110, 111, 116, 32, 98, 97, 110, 100, 32, 60, 32, 50] : List UInt8)) && ((r97.1 == 2) && ((r118.1.Op == 2) && (r118.1.Value == 7)))))))]) ?_ ?_
   ·refine Vs 1 ?_
    refine Ld hs132.at1 ?_
    refine Vs 2 ?_
    refine RWP.split (r21.1.Op == 4) (fun hb155 => ?_) (fun hb155 => ?_)
    ·refine Vgs hb155 2 ?_
     refine Pk1 hb155 ?_
     refine Vs 1 ?_
     refine RWP.split (r34.1 == ([49, 32, 43, 32, 50, 32, 42, 32, 51, 32, 61, 32, 55, 32, 97, 110, 100, 32, 110, 111, 116, 32, 98, 97, 110, 100, 32, 60, 32, 50] : List UInt8)) (fun hb156 => ?_) (fun hb156 => ?_)
     ·refine Vgs hb156 2 ?_
      refine Pk1 hb156 ?_
      refine Vs 1 ?_
      refine RWP.split (r97.1 == 2) (fun hb157 => ?_) (fun hb157 => ?_)
      ·refine Vgs hb157 1 ?_
       refine Lg hb157 hs132.at0 ?_
       refine Vgs hb157 1 ?_
       refine Pk1 hb157 ?_
       refine Vs 1 ?_
       refine RWP.split (r118.1.Op == 2) (fun hb158 => ?_) (fun hb158 => ?_)
       ·refine Vgs hb158 1 ?_
        refine Lg hb158 hs132.at0 ?_
        refine Vgs hb158 1 ?_
        refine Pk1 hb158 ?_
        refine Vs 1 ?_
        exact RWP.nil ⟨rfl, F9, hs132.dr0.dr0, (Mem.le.refl _), (fJ ⟨(congrArg Value.bool (and_t hb155 (and_t hb156 (and_t hb157 (and_t hb158 (rfl)))))), trivial⟩)⟩
       ·refine Ss hb158 3 ?_
        refine Pk0 hb158 ?_
        refine Vs 1 ?_
        exact RWP.nil ⟨rfl, F9, hs132.dr0.dr0, (Mem.le.refl _), (fJ ⟨(congrArg Value.bool (and_t hb155 (and_t hb156 (and_t hb157 (and_f hb158 (rfl)))))), trivial⟩)⟩
      ·refine Ss hb157 3 ?_
       refine Pk0 hb157 ?_
       refine Vs 1 ?_
       refine Ss (rfl : false = false) 3 ?_
       refine Pk0 (rfl : false = false) ?_
       refine Vs 1 ?_
       exact RWP.nil ⟨rfl, F9, hs132.dr0.dr0, (Mem.le.refl _), (fJ ⟨(congrArg Value.bool (and_t hb155 (and_t hb156 (and_f hb157 (rfl))))), trivial⟩)⟩
     ·refine Ss hb156 2 ?_
      refine Pk0 hb156 ?_
      refine Vs 1 ?_
      refine Ss (rfl : false = false) 3 ?_
      refine Pk0 (rfl : false = false) ?_
      refine Vs 1 ?_
      refine Ss (rfl : false = false) 3 ?_
      refine Pk0 (rfl : false = false) ?_
      refine Vs 1 ?_
      exact RWP.nil ⟨rfl, F9, hs132.dr0.dr0, (Mem.le.refl _), (fJ ⟨(congrArg Value.bool (and_t hb155 (and_f hb156 (rfl)))), trivial⟩)⟩
    ·refine Ss hb155 2 ?_
     refine Pk0 hb155 ?_
     refine Vs 1 ?_
     refine Ss (rfl : false = false) 2 ?_
     refine Pk0 (rfl : false = false) ?_
     refine Vs 1 ?_
     refine Ss (rfl : false = false) 3 ?_
     refine Pk0 (rfl : false = false) ?_
     refine Vs 1 ?_
     refine Ss (rfl : false = false) 3 ?_
     refine Pk0 (rfl : false = false) ?_
     refine Vs 1 ?_
     exact RWP.nil ⟨rfl, F9, hs132.dr0.dr0, (Mem.le.refl _), (fJ ⟨(congrArg Value.bool (and_f hb155 (rfl))), trivial⟩)⟩
   ·rintro f w150 ⟨F10, hs151, le152, ⟨_, rfl⟩⟩
    refine thenQ_nrm ?_
    refine Rt ?_
    obtain rfl := some_inj h149
    exact Re [(.bool ((r21.1.Op == 4) && ((r34.1 == ([49, 32, 43, 32, 50, 32, 42, 32, 51, 32, 61, 32, 55, 32, 97, 110, 100, 32, 110, 111, 116, 32, 98, 97, 110, 100, 32, 60, 32, 50] : List UInt8)) && ((r97.1 == 2) && ((r118.1.Op == 2) && (r118.1.Value == 7))))))] hs151 rfl
end Go.Proofs.YtaihlcdkcampbaaGreatDoor
namespace Go.Proofs.YtaihlcdkcampbaaGreatDoor
open Go.Proofs
set_option maxRecDepth 100000 in
theorem awake_yes : law06_awake0 9223372036854775808 = some true := by kernel_rfl
def law06_awake (_N : Nat) : Option Bool := some true
theorem co_law06_awake : CallOk Tryz.prog 21 := co_law06_awake0
theorem c_law06_awake (N : Nat) (w0 : World) (F0 : Mem) (hF : ∀ b o, F0 b = some o → w0.heap[b]? = some o) (hG : Glob F0) (r : Bool) (h : law06_awake N = some r) :
  Calls Tryz.prog 21 ([] : List Value).toArray w0 (FRet w0 F0 fun F' v => v = (.bool r)) := by
 cases h
 exact c_law06_awake0 9223372036854775808 w0 F0 hF hG true awake_yes
end Go.Proofs.YtaihlcdkcampbaaGreatDoor
namespace Go.Proofs.YtaihlcdkcampbaaGreatDoor
open Go.Proofs
end Go.Proofs.YtaihlcdkcampbaaGreatDoor
namespace Go.Proofs.YtaihlcdkcampbaaGreatDoor
open Go.Proofs
end Go.Proofs.YtaihlcdkcampbaaGreatDoor
namespace Go.Proofs.YtaihlcdkcampbaaGreatDoor
theorem kd_12 {e : Expr} (h : kd e ≠ 0) : kd e = 1 ∨ kd e = 2 := by
 have := kd_mk h
 generalize kd e = t at this
 cases this <;> simp
section
variable {N : Nat} {σ : Type}
theorem val_bd {f : List Int} {e : Expr} (hf : fac f = true) (he : Fit N e) (h0 : kd e ≠ 0) : -1000000 ≤ val f e ∧ val f e ≤ 1000000 := by
 obtain ⟨n, h1, _⟩ := he
 have h := val_ok hf h1 h0
 rcases kd_12 h0 with h2 | h2
 ·exact h.2 h2
 ·rcases h.1 h2 with h3 | h3 <;> omega
theorem foldY_all {y : σ → List Int → Option (Bool × σ)} {g : σ → List Int → σ} : ∀ {L : List (List Int)} {s : σ}, (∀ s x, x ∈ L → y s x = some (true, g s x)) → foldY y L s = some (L.foldl g s)
 | [], _, _ => rfl
 | x :: L, s, h => by
  rw [foldY, h s x (List.mem_cons_self ..), Option.bind_some, cond_true, List.foldl_cons]
  exact foldY_all fun s z hz => h s z (List.mem_cons_of_mem _ hz)
def hit (l : List Clause) (d : List Span) (k : Int) : Bool := (allL d).any fun f => fi (isT f) l == k
noncomputable def mn (e : Expr) (d : List Span) : Int := (allL d).foldl (fun a f => min a (val f e)) 1000000
noncomputable def mx (e : Expr) (d : List Span) : Int := (allL d).foldl (fun a f => max a (val f e)) (-1000000)
noncomputable def rangeS (e : Expr) (d : List Span) : Span × Int := if snd0 e = false then (⟨0, 0⟩, 61) else if dom d = false then (⟨0, 0⟩, 64) else (⟨mn e d, mx e d⟩, 0)
theorem fold_pair {e : Expr} : ∀ (L : List (List Int)) (a b : Int), L.foldl (fun (s : Int × Int) f => (min s.1 (val f e), max s.2 (val f e))) (a, b) = (L.foldl (fun a f => min a (val f e)) a, L.foldl (fun a f => max a (val f e)) b)
 | [], _, _ => rfl
 | x :: L, a, b => by rw [List.foldl_cons, fold_pair L]; rfl
theorem s_Range {e : Expr} {d : List Span} (hN : 5000 < N) (h : Fit N e) : rules_Range N e d = some (rangeS e d) := by
 unfold rules_Range rangeS
 rw [s_sound h, Option.bind_some, s_domains (by omega)]
 cases hs : snd0 e
 ·rfl
 ·cases hd : dom d
  ·rfl
  ·rw [show (!true) = false from rfl, cond_false, Option.bind_some, show (!true) = false from rfl, cond_false, if_neg tf, if_neg tf, s_all1 _ _ hd hN, foldY_all (g := fun (s : Int × Int) f => (min s.1 (val f e), max s.2 (val f e))) (fun s x hx => by
    unfold rules_Range_L0
    rw [s_value (dom_fac hd hx) h (snd0_k hs)]; rfl), Option.bind_some, fold_pair]
   rfl
end
end Go.Proofs.YtaihlcdkcampbaaGreatDoor
namespace Go.Proofs.YtaihlcdkcampbaaGreatDoor
abbrev qL {α : Type} (q : α → Prop) (l : List α) : Prop := l.length < 9223372036854775808 ∧ ∀ c, c ∈ l → q c
end Go.Proofs.YtaihlcdkcampbaaGreatDoor
namespace Go.Proofs.YtaihlcdkcampbaaGreatDoor
open Go.Proofs
def law06_in_L0 (N : Nat) (x0 : (List Int)) (x1 : (List Span)) : Int → Option (Flow Bool Int) := fun s27 =>
 (bif (decide (s27 < (x0.length : Int))) then (((idx x0 s27).bind fun x62 => ((idx x1 s27).bind fun x76 => (bif (decide (x62 < x76.Lo)) then some true else ((idx x0 s27).bind fun x93 => ((idx x1 s27).bind fun x99 => some (decide (x93 > x99.Hi))))))).bind fun j54 => (bif j54 then some (.ret false) else some (.next (W64 (s27 + 1))))) else some (.done s27))
def law06_in (N : Nat) (x0 : (List Int)) (x1 : (List Span)) : Option Bool :=
 (bif ((x0.length : Int) != (x1.length : Int)) then some false else ((iter (law06_in_L0 N x0 x1) N 0).bind fun o => o.k (fun r => some r) (fun s35 => some true)))
theorem co_law06_in : CallOk Tryz.prog 64 := fun _ _ => by kernel_rfl
theorem c_law06_in (N : Nat) (w0 : World) (F0 : Mem) (hF : ∀ b o, F0 b = some o → w0.heap[b]? = some o) (x0 : (List Int)) (a0_0 : Option Addr) (n0_0 : Nat) (hb0_0 : LC x0.length n0_0) (hs0_0 : SlA tInt F0 a0_0 x0) (x1 : (List Span)) (a1_0 : Option Addr) (n1_0 : Nat) (hb1_0 : LC x1.length n1_0) (hs1_0 : SlA tSpan F0 a1_0 x1) (r : Bool) (h : law06_in N x0 x1 = some r) :
  Calls Tryz.prog 64 ([(.slice a0_0 x0.length n0_0), (.slice a1_0 x1.length n1_0)] : List Value).toArray w0 (FRet w0 F0 fun F' v => v = (.bool r)) := by
 have hs0 := HS.start hF
 refine Go 39 Tryz.func64 ?_
 refine Sq (Rg [0] ?_)
 refine Vs 1 ?_
 refine Nss ?_
 refine Sq (Rg [0, 1, 2, 3, 4] ?_)
 refine Vs 5 ?_
 refine Nt ?_
 refine Cd h (fun hb21 h22 => ?_) (fun hb21 h23 => ?_)
 ·refine Sq (Rg [0] ?_)
  refine Vs 1 ?_
  refine Nt ?_
  refine Rt ?_
  refine thenQ_ret ?_
  obtain rfl := some_inj h22
  exact Re [(.bool false)] hs0 rfl
 ·refine Sc ?_
  refine thenQ_nrm ?_
  refine Sq ?_
  refine Sq (Rg [0] ?_)
  refine Vs 1 ?_
  refine Nt ?_
  obtain ⟨o24, ho25, h26⟩ := bind_some h23
  refine CWP.cut (fun f w => ∃ (s35 : Int) (F2 : Mem), o24 = .done s35 ∧ HS w0 F0 w F2 [] ∧ Mem.le F0 F2 ∧ FI f [] []) ?_ ?_
  ·refine Bk ?_
   refine CWP.loop (by kernel_rfl) (fun m f w => ∃ (s27 : Int) (F1 : Mem), iter (law06_in_L0 N x0 x1) m s27 = some o24 ∧ HS w0 F0 w F1 [] ∧ Mem.le F0 F1 ∧ FI f [] [(0, (.slice a0_0 x0.length n0_0)), (1, (.slice a1_0 x1.length n1_0)), (5, (vi s27))]) N ⟨0, F0, ho25, hs0, (Mem.le.refl _), fI⟩ ?_
   rintro m40 f w28 ⟨s27, F1, hit41, hs29, le30, ⟨_, rfl⟩⟩
   obtain ⟨m42, fl43, rfl, hb44, hnx45⟩ := iter_step hit41
   refine Sq ?_
   refine Sq (Rg [0, 1, 2, 3] ?_)
   refine Vs 4 ?_
   refine Nt ?_
   refine Cd hb44 (fun hb46 h47 => ?_) (fun hb46 h48 => ?_)
   ·refine Sc ?_
    refine thenQ_nrm ?_
    refine Sq ?_
    refine Bk ?_
    refine Sq ?_
    obtain ⟨j54, hj60, h61⟩ := bind_some h47
    refine RD 22 22 [] [] hs29 (fun f w => ∃ (F3 : Mem), HS w0 F0 w F3 [] ∧ Mem.le F1 F3 ∧ FI f [] [(0, (.slice a0_0 x0.length n0_0)), (1, (.slice a1_0 x1.length n1_0)), (5, (vi s27)), (38, (.bool j54))]) (fun wd49 hw50 => ?_) ?_
    ·refine Dvl [0, 1] [tt, tt, ff, ff, ff, ff, ff, ff, ff, ff, ff, ff, ff, ff, ff, ff, ff, ff, ff, ff, ff, ff] ?_
     obtain ⟨x62, hx63, h65⟩ := bind_some hj60
     obtain ⟨hi64, hx63'⟩ := idx_spec hx63
     obtain ⟨b66, o67, C68, E69, fz70, rfl, hF72, hE73⟩ := SlA.open (SlA.mono hs0_0 le30) hx63'
     have hc75 := hE73 _ _ hx63'
     refine Di 2 hi64 ?_
     refine Dx 3 0 (fun _ hq => hq.1.1 _ _ hF72) hc75 ?_
     refine Dvl [4, 5] [tt, tt, tt, tt, tt, tt, ff, ff, ff, ff, ff, ff, ff, ff, ff, ff, ff, ff, ff, ff, ff, ff] ?_
     obtain ⟨x76, hx77, h79⟩ := bind_some h65
     obtain ⟨hi78, hx77'⟩ := idx_spec hx77
     obtain ⟨b80, o81, C82, E83, fz84, rfl, hF86, hE87⟩ := SlA.open (SlA.mono hs1_0 le30) hx77'
     have hc89 := hE87 _ _ hx77'
     refine Di 6 hi78 ?_
     refine Dvl [7] [tt, tt, tt, tt, tt, tt, tt, tt, ff, ff, ff, ff, ff, ff, ff, ff, ff, ff, ff, ff, ff, ff] ?_
     refine Dx 8 0 (fun _ hq => hq.1.1 _ _ hF86) hc89 ?_
     refine Dvl [9, 10] [tt, tt, tt, tt, tt, tt, tt, tt, tt, tt, tt, ff, ff, ff, ff, ff, ff, ff, ff, ff, ff, ff] ?_
     refine Sd h79 (fun hb90 h91 => ?_) (fun hb90 h92 => ?_)
     ·refine Dkl [(11, 28), (12, 29), (13, 30), (14, 31), (15, 32), (16, 33)] 10 false 27 hb90 [tt, tt, tt, tt, tt, tt, tt, tt, tt, tt, tt, tt, tt, tt, tt, tt, tt, ff, ff, ff, ff, ff] ?_
      refine Dkl [(17, 34), (18, 35), (19, 36), (20, 37)] 10 false 27 hb90 [tt, tt, tt, tt, tt, tt, tt, tt, tt, tt, tt, tt, tt, tt, tt, tt, tt, tt, tt, tt, tt, ff] ?_
      refine Dtl 21 38 4 _ [tt, tt, tt, tt, tt, tt, tt, tt, tt, tt, tt, tt, tt, tt, tt, tt, tt, tt, tt, tt, tt, tt] (fun _ hq => p1 27 (.const (.bool true)) (.tmp 37) (.bool true) hb90) ?_
      obtain rfl := some_inj h91
      exact DWP.done (by kernel_rfl) ⟨F1, hw50, (Mem.le.refl _), fI⟩
     ·refine Dgl 11 28 47 _ [tt, tt, tt, tt, tt, tt, tt, tt, tt, tt, tt, tt, ff, ff, ff, ff, ff, ff, ff, ff, ff, ff] 10 false 27 hb90 (fun _ hq => mv 0 (.slice (some ⟨b66, o67, none⟩) x0.length n0_0)) ?_
      refine Dgl 12 29 3 _ [tt, tt, tt, tt, tt, tt, tt, tt, tt, tt, tt, tt, tt, ff, ff, ff, ff, ff, ff, ff, ff, ff] 10 false 27 hb90 (fun _ hq => mv 5 (vi s27)) ?_
      obtain ⟨x93, hx94, h96⟩ := bind_some h92
      obtain ⟨hi95, hx94'⟩ := idx_spec hx94
      have hc98 := hE73 _ _ hx94'
      refine Dgl 13 30 0 (.pointer (some ⟨b66, (o67 + (s27 : Int).toNat * 1), none⟩)) [tt, tt, tt, tt, tt, tt, tt, tt, tt, tt, tt, tt, tt, tt, ff, ff, ff, ff, ff, ff, ff, ff] 10 false 27 hb90 (fun _ hq => ix 47 28 29 b66 o67 3 1 8 hi95) ?_
      refine Dgl 14 31 3 _ [tt, tt, tt, tt, tt, tt, tt, tt, tt, tt, tt, tt, tt, tt, tt, ff, ff, ff, ff, ff, ff, ff] 10 false 27 hb90 (fun _ hq => lx 3 30 0 1 false 1 (vi x93) (hq.1.1 _ _ hF72) hc98) ?_
      refine Dgl 15 32 68 _ [tt, tt, tt, tt, tt, tt, tt, tt, tt, tt, tt, tt, tt, tt, tt, tt, ff, ff, ff, ff, ff, ff] 10 false 27 hb90 (fun _ hq => mv 1 (.slice (some ⟨b80, o81, none⟩) x1.length n1_0)) ?_
      refine Dgl 16 33 3 _ [tt, tt, tt, tt, tt, tt, tt, tt, tt, tt, tt, tt, tt, tt, tt, tt, tt, ff, ff, ff, ff, ff] 10 false 27 hb90 (fun _ hq => mv 5 (vi s27)) ?_
      obtain ⟨x99, hx100, h102⟩ := bind_some h96
      obtain ⟨hi101, hx100'⟩ := idx_spec hx100
      have hc104 := hE87 _ _ hx100'
      refine Dgl 17 34 0 (.pointer (some ⟨b80, (o81 + (s27 : Int).toNat * 2), none⟩)) [tt, tt, tt, tt, tt, tt, tt, tt, tt, tt, tt, tt, tt, tt, tt, tt, tt, tt, ff, ff, ff, ff] 10 false 27 hb90 (fun _ hq => ix 68 32 33 b80 o81 72 2 16 hi101) ?_
      refine Dgl 18 35 0 (.pointer (some ⟨b80, ((o81 + (s27 : Int).toNat * 2) + 1), none⟩)) [tt, tt, tt, tt, tt, tt, tt, tt, tt, tt, tt, tt, tt, tt, tt, tt, tt, tt, tt, ff, ff, ff] 10 false 27 hb90 (fun _ hq => fa 72 34 1 1 1 b80 (o81 + (s27 : Int).toNat * 2) ((o81 + (s27 : Int).toNat * 2) + 1)) ?_
      refine Dgl 19 36 3 _ [tt, tt, tt, tt, tt, tt, tt, tt, tt, tt, tt, tt, tt, tt, tt, tt, tt, tt, tt, tt, ff, ff] 10 false 27 hb90 (fun _ hq => lx 3 35 1 2 false 1 (vi x99.Hi) (hq.1.1 _ _ hF86) hc104) ?_
      refine Dgl 20 37 4 (.bool (decide (x93 > x99.Hi))) [tt, tt, tt, tt, tt, tt, tt, tt, tt, tt, tt, tt, tt, tt, tt, tt, tt, tt, tt, tt, tt, ff] 10 false 27 hb90 (fun _ hq => run_gtr (t := 3) (t' := 3) (x := (.tmp 31)) (y := (.tmp 36)) (k := .i64) (a := x93) (b := x99.Hi) rfl rfl) ?_
      refine Dtl 21 38 4 _ [tt, tt, tt, tt, tt, tt, tt, tt, tt, tt, tt, tt, tt, tt, tt, tt, tt, tt, tt, tt, tt, tt] (fun _ hq => p0 27 (.const (.bool true)) (.tmp 37) (.bool (decide (x93 > x99.Hi))) hb90) ?_
      obtain rfl := some_inj h102
      exact DWP.done (by kernel_rfl) ⟨F1, hw50, (Mem.le.refl _), fI⟩
    ·rintro f w51 ⟨F3, hs52, le53, ⟨_, rfl⟩⟩
     refine thenQ_nrm ?_
     refine Cd h61 (fun hb105 h106 => ?_) (fun hb105 h107 => ?_)
     ·refine Sq (Rg [0] ?_)
      refine Vs 1 ?_
      refine Nt ?_
      refine Rt ?_
      refine blockQ_ret ?_
      refine thenQ_ret ?_
      refine thenQ_ret ?_
      refine blockQ_ret ?_
      have hret := iter_ret h106 hnx45
      subst hret
      refine .inr ?_
      refine thenQ_ret ?_
      obtain rfl := some_inj h26
      exact Re [(.bool false)] hs52 rfl
     ·refine Sc ?_
      refine blockQ_nrm ?_
      refine thenQ_nrm ?_
      refine Rg [0, 1, 2] ?_
      refine Vs 3 ?_
      refine RWP.nil ?_
      have hn108 := iter_next h107 hnx45
      exact ⟨m42, Nat.lt_succ_self _, (W64 (s27 + 1)), F3, hn108, hs52, (le30.trans le53), fI⟩
   ·refine Ex ?_
    refine thenQ_ex ?_
    refine thenQ_ex ?_
    refine blockQ_hit rfl ?_
    have ho109 := iter_done h48 hnx45
    exact .inl ⟨rfl, s27, F1, ho109, hs29, le30, fI⟩
  ·rintro f w36 ⟨s35, F2, rfl, hs37, le38, ⟨_, rfl⟩⟩
   have h110 := k_done h26
   refine thenQ_nrm ?_
   refine Sq (Rg [0] ?_)
   refine Vs 1 ?_
   refine Nt ?_
   refine Rt ?_
   obtain rfl := some_inj h110
   exact Re [(.bool true)] hs37 rfl
end Go.Proofs.YtaihlcdkcampbaaGreatDoor
namespace Go.Proofs.YtaihlcdkcampbaaGreatDoor
open Go.Proofs
end Go.Proofs.YtaihlcdkcampbaaGreatDoor
namespace Go.Proofs.YtaihlcdkcampbaaGreatDoor
open Go.Proofs
def law06_RulesEqual_L0 (N : Nat) (x0 : Expr) (x1 : Expr) (x2 : (List Span)) (r27 : Bool) (j38 : (Bool)) (r80 : ((List Int) × Int)) (r88 : (Span × Int)) (r101 : (Span × Int)) (r180 : (List (List Int))) : (Bool × Bool × Int) → Option (Flow Bool (Bool × Bool × Int)) := fun s191 =>
 (bif (decide (s191.2.2 < (r180.length : Int))) then (((idx r180 s191.2.2).bind fun x238 => ((rules_Eval N x0 x238).bind fun r252 => some (r252.1, r252.2))).bind fun j225 => (bif ((j225.2 != 0) || ((decide (j225.1 < r88.1.Lo)) || (decide (j225.1 > r88.1.Hi)))) then some (.ret false) else some (.next ((s191.1 || (j225.1 == r88.1.Lo)), (s191.2.1 || (j225.1 == r88.1.Hi)), (W64 (s191.2.2 + 1)))))) else some (.done (s191.1, s191.2.1, s191.2.2)))
def law06_RulesEqual (N : Nat) (x0 : Expr) (x1 : Expr) (x2 : (List Span)) : Option Bool :=
 ((law06_awake N ).bind fun r27 => (((law06_nodes N x0).bind fun r47 => (bif (decide (r47 > 60)) then some true else ((law06_nodes N x1).bind fun r58 => (bif (decide (r58 > 60)) then some true else ((law06_few N x2 100).bind fun r69 => some (!r69)))))).bind fun j38 => (bif j38 then some r27 else ((rules_Differ N x0 x1 x2).bind fun r80 => ((rules_Range N x0 x2).bind fun r88 => ((rules_Range N x1 x2).bind fun r101 => (bif (r80.2 == 0) then ((rules_Eval N x0 r80.1).bind fun r117 => ((rules_Eval N x1 r80.1).bind fun r125 => ((bif r27 then ((law06_in N r80.1 x2).bind fun r144 => (bif r144 then (bif (r117.2 == 0) then (bif (r125.2 == 0) then some (r117.1 != r125.1) else some false) else some false) else some false)) else some false).bind fun j136 => some j136))) else (bif ((r80.2 == 3) && ((r88.2 != 0) || ((r101.2 != 0) || (!((r88.1.Lo == r101.1.Lo) && ((r88.1.Hi == r101.1.Hi) && true)))))) then some false else (bif (r88.2 != 0) then some r27 else ((ref06_All N x2).bind fun r180 => ((iter (law06_RulesEqual_L0 N x0 x1 x2 r27 j38 r80 r88 r101 r180) N (false, false, 0)).bind fun o => o.k (fun r => some r) (fun s203 => some (r27 && (s203.1 && s203.2.1))))))))))))))
theorem c_law06_RulesEqual (N : Nat) (w0 : World) (F0 : Mem) (hF : ∀ b o, F0 b = some o → w0.heap[b]? = some o) (hG : Glob F0) (x0 : Expr) (a0_2 : Option Addr) (n0_2 : Nat) (hb0_2 : LC x0.Kids.length n0_2) (hs0_2 : SlA tExpr F0 a0_2 x0.Kids) (x1 : Expr) (a1_2 : Option Addr) (n1_2 : Nat) (hb1_2 : LC x1.Kids.length n1_2) (hs1_2 : SlA tExpr F0 a1_2 x1.Kids) (x2 : (List Span)) (a2_0 : Option Addr) (n2_0 : Nat) (hb2_0 : LC x2.length n2_0) (hs2_0 : SlA tSpan F0 a2_0 x2) (r : Bool) (h : law06_RulesEqual N x0 x1 x2 = some r) :
  Calls Tryz.prog 16 ([(.agg (kExpr x0 a0_2 n0_2)), (.agg (kExpr x1 a1_2 n1_2)), (.slice a2_0 x2.length n2_0)] : List Value).toArray w0 (FRet w0 F0 fun F' v => v = (.bool r)) := by
 have hs0 := HS.start hF
 refine Go 161 Tryz.func16 ?_
 refine Sq (Rg [0, 1, 2] ?_)
 refine Bx' 33 (kExpr x0 a0_2 n0_2) hs0 (fun b21 w22 hs23 => ?_)
 refine Bx' 33 (kExpr x1 a1_2 n1_2) hs23 (fun b24 w25 hs26 => ?_)
 refine Vs 1 ?_
 refine Nss (Rg [0, 1] ?_)
 obtain ⟨r27, hr28, h29⟩ := bind_some h
 refine Cl' co_law06_awake hs26 (c_law06_awake N w25 F0 hs26.pers hG  _ hr28) ?_
 rintro _ F1 w31 hs32 le33 rfl
 refine Vs 1 ?_
 refine Nss ?_
 refine Sq (Rg [0, 1, 2, 3, 4, 5, 6, 7, 8, 9, 10, 11, 12] ?_)
 obtain ⟨j38, hj45, h46⟩ := bind_some h29
 refine RWP.cut (fun f w => ∃ (F2 : Mem), HS w0 F0 w F2 [(sb b24 (kExpr x1 a1_2 n1_2) 33), (sb b21 (kExpr x0 a0_2 n0_2) 33)] ∧ Mem.le F1 F2 ∧ FI f [] [(2, (.slice a2_0 x2.length n2_0)), (3, (pt b21 0)), (4, (pt b24 0)), (7, (.bool r27)), (37, (.bool j38))]) ?_ ?_
 ·refine Ld hs32.at1 ?_
  obtain ⟨r47, hr48, h49⟩ := bind_some hj45
  refine Cl' co_law06_nodes hs32 (c_law06_nodes N w31 F1 hs32.pers (x0) a0_2 n0_2 hb0_2 (SlA.mono hs0_2 le33) _ hr48) ?_
  rintro _ F3 w51 hs52 le53 rfl
  refine Vs 2 ?_
  refine Sp h49 (fun hb55 h56 => ?_) (fun hb55 h57 => ?_)
  ·refine Ss hb55 3 ?_
   refine Pk1 hb55 ?_
   refine Vs 1 ?_
   refine Ss (rfl : true = true) 3 ?_
   refine Pk1 (rfl : true = true) ?_
   obtain rfl := some_inj h56
   exact RWP.nil ⟨rfl, F3, hs52, le53, fI⟩
  ·refine Lg hb55 hs52.at0 ?_
   obtain ⟨r58, hr59, h60⟩ := bind_some h57
   refine Cg hb55 co_law06_nodes hs52 (c_law06_nodes N w51 F3 hs52.pers (x1) a1_2 n1_2 hb1_2 (SlA.mono hs1_2 (le33.trans le53)) _ hr59) ?_
   rintro _ F4 w62 hs63 le64 rfl
   refine Vgs hb55 1 ?_
   refine Pk0 hb55 ?_
   refine Vs 1 ?_
   refine Sp h60 (fun hb66 h67 => ?_) (fun hb66 h68 => ?_)
   ·refine Ss hb66 3 ?_
    refine Pk1 hb66 ?_
    obtain rfl := some_inj h67
    exact RWP.nil ⟨rfl, F4, hs63, (le53.trans le64), fI⟩
   ·refine Vgs hb66 1 ?_
    obtain ⟨r69, hr70, h71⟩ := bind_some h68
    refine Cg hb66 co_law06_few hs63 (c_law06_few N w62 F4 hs63.pers (x2) a2_0 n2_0 hb2_0 (SlA.mono hs2_0 ((le33.trans le53).trans le64)) (100) _ hr70) ?_
    rintro _ F5 w73 hs74 le75 rfl
    refine Vgs hb66 1 ?_
    refine Pk0 hb66 ?_
    obtain rfl := some_inj h71
    exact RWP.nil ⟨rfl, F5, hs74, ((le53.trans le64).trans le75), fI⟩
 ·rintro f w35 ⟨F2, hs36, le37, ⟨_, rfl⟩⟩
  refine thenQ_nrm ?_
  refine Cd h46 (fun hb77 h78 => ?_) (fun hb77 h79 => ?_)
  ·refine Sq (Rg [0, 1] ?_)
   refine Vs 2 ?_
   refine Nt ?_
   refine Rt ?_
   refine thenQ_ret ?_
   obtain rfl := some_inj h78
   exact Re [(.bool r27)] hs36 rfl
  ·refine Sc ?_
   refine thenQ_nrm ?_
   refine Sq (Rg [0, 1, 2, 3, 4, 5, 6, 7, 8] ?_)
   refine Ld hs36.at1 ?_
   refine Ld hs36.at0 ?_
   refine Vs 1 ?_
   obtain ⟨r80, hr81, h82⟩ := bind_some h79
   refine Cl' co_rules_Differ hs36 (c_rules_Differ N w35 F2 hs36.pers (x0) a0_2 n0_2 hb0_2 (SlA.mono hs0_2 (le33.trans le37)) (x1) a1_2 n1_2 hb1_2 (SlA.mono hs1_2 (le33.trans le37)) (x2) a2_0 n2_0 hb2_0 (SlA.mono hs2_0 (le33.trans le37)) _ hr81) ?_
   rintro _ F6 w84 hs85 le86 ⟨ar80_0_0, nr80_0_0, rfl, hbr80_0_0, hsr80_0_0⟩
   refine Vs 5 ?_
   refine Nss (Rg [0, 1, 2, 3, 4, 5, 6, 7, 8] ?_)
   refine Ld hs85.at1 ?_
   refine Vs 1 ?_
   obtain ⟨r88, hr89, h90⟩ := bind_some h82
   refine Cl' co_rules_Range hs85 (c_rules_Range N w84 F6 hs85.pers (x0) a0_2 n0_2 hb0_2 (SlA.mono hs0_2 ((le33.trans le37).trans le86)) (x2) a2_0 n2_0 hb2_0 (SlA.mono hs2_0 ((le33.trans le37).trans le86)) _ hr89) ?_
   rintro _ F7 w92 hs93 le94 rfl
   refine Vs 3 ?_
   refine Al' 72 #[(vi 0), (vi 0)] hs93 (fun b96 w97 hs98 => ?_)
   refine St0 #[(vi r88.1.Lo), (vi r88.1.Hi)] hs98 (fun w99 hs100 => ?_)
   refine Vs 1 ?_
   refine Nss (Rg [0, 1, 2, 3, 4, 5, 6, 7, 8] ?_)
   refine Ld hs100.at1 ?_
   refine Vs 1 ?_
   obtain ⟨r101, hr102, h103⟩ := bind_some h90
   refine Cl' co_rules_Range hs100 (c_rules_Range N w99 F7 hs100.pers (x1) a1_2 n1_2 hb1_2 (SlA.mono hs1_2 (((le33.trans le37).trans le86).trans le94)) (x2) a2_0 n2_0 hb2_0 (SlA.mono hs2_0 (((le33.trans le37).trans le86).trans le94)) _ hr102) ?_
   rintro _ F8 w105 hs106 le107 rfl
   refine Vs 3 ?_
   refine Al' 72 #[(vi 0), (vi 0)] hs106 (fun b109 w110 hs111 => ?_)
   refine St0 #[(vi r101.1.Lo), (vi r101.1.Hi)] hs111 (fun w112 hs113 => ?_)
   refine Vs 1 ?_
   refine Nss ?_
   refine Sq (Rg [0, 1] ?_)
   refine Vs 2 ?_
   refine Nt ?_
   refine Cd h103 (fun hb114 h115 => ?_) (fun hb114 h116 => ?_)
   ·refine Sq (Rg [0, 1, 2, 3, 4, 5, 6, 7] ?_)
    refine Ld hs113.at3 ?_
    refine Vs 1 ?_
    obtain ⟨r117, hr118, h119⟩ := bind_some h115
    refine Cl' co_rules_Eval hs113 (c_rules_Eval N w112 F8 hs113.pers (x0) a0_2 n0_2 hb0_2 (SlA.mono hs0_2 ((((le33.trans le37).trans le86).trans le94).trans le107)) (r80.1) ar80_0_0 nr80_0_0 hbr80_0_0 (SlA.mono hsr80_0_0 (le94.trans le107)) _ hr118) ?_
    rintro _ F9 w121 hs122 le123 rfl
    refine Vs 5 ?_
    refine Nss (Rg [0, 1, 2, 3, 4, 5, 6, 7] ?_)
    refine Ld hs122.at2 ?_
    refine Vs 1 ?_
    obtain ⟨r125, hr126, h127⟩ := bind_some h119
    refine Cl' co_rules_Eval hs122 (c_rules_Eval N w121 F9 hs122.pers (x1) a1_2 n1_2 hb1_2 (SlA.mono hs1_2 (((((le33.trans le37).trans le86).trans le94).trans le107).trans le123)) (r80.1) ar80_0_0 nr80_0_0 hbr80_0_0 (SlA.mono hsr80_0_0 ((le94.trans le107).trans le123)) _ hr126) ?_
    rintro _ F10 w129 hs130 le131 rfl
    refine Vs 5 ?_
    refine Nss (Rg [0, 1, 2, 3, 4, 5, 6, 7, 8, 9, 10, 11, 12, 13, 14, 15, 16, 17, 18, 19] ?_)
    obtain ⟨j136, hj139, h140⟩ := bind_some h127
    refine RWP.cut (fun f w => ∃ (F11 : Mem), HS w0 F0 w F11 [] ∧ Mem.le F10 F11 ∧ FI f [] [(6, (.bool j136))]) ?_ ?_
    ·refine Vs 2 ?_
     refine Sp hj139 (fun hb141 h142 => ?_) (fun hb141 h143 => ?_)
     ·refine Vgs hb141 2 ?_
      obtain ⟨r144, hr145, h146⟩ := bind_some h142
      refine Cg hb141 co_law06_in hs130 (c_law06_in N w129 F10 hs130.pers (r80.1) ar80_0_0 nr80_0_0 hbr80_0_0 (SlA.mono hsr80_0_0 (((le94.trans le107).trans le123).trans le131)) (x2) a2_0 n2_0 hb2_0 (SlA.mono hs2_0 ((((((le33.trans le37).trans le86).trans le94).trans le107).trans le123).trans le131)) _ hr145) ?_
      rintro _ F12 w148 hs149 le150 rfl
      refine Pk1 hb141 ?_
      refine Vs 1 ?_
      refine Sp h146 (fun hb152 h153 => ?_) (fun hb152 h154 => ?_)
      ·refine Vgs hb152 2 ?_
       refine Pk1 hb152 ?_
       refine Vs 1 ?_
       refine Sp h153 (fun hb155 h156 => ?_) (fun hb155 h157 => ?_)
       ·refine Vgs hb155 2 ?_
        refine Pk1 hb155 ?_
        refine Vs 1 ?_
        refine Sp h156 (fun hb158 h159 => ?_) (fun hb158 h160 => ?_)
        ·refine Vgs hb158 3 ?_
         refine Pk1 hb158 ?_
         refine Vs 1 ?_
         obtain rfl := some_inj h159
         exact RWP.nil ⟨rfl, F12, hs149.dr0.dr0.dr0.dr0, le150, fI⟩
        ·refine Ss hb158 3 ?_
         refine Pk0 hb158 ?_
         refine Vs 1 ?_
         obtain rfl := some_inj h160
         exact RWP.nil ⟨rfl, F12, hs149.dr0.dr0.dr0.dr0, le150, fI⟩
       ·refine Ss hb155 2 ?_
        refine Pk0 hb155 ?_
        refine Vs 1 ?_
        refine Ss (rfl : false = false) 3 ?_
        refine Pk0 (rfl : false = false) ?_
        refine Vs 1 ?_
        obtain rfl := some_inj h157
        exact RWP.nil ⟨rfl, F12, hs149.dr0.dr0.dr0.dr0, le150, fI⟩
      ·refine Ss hb152 2 ?_
       refine Pk0 hb152 ?_
       refine Vs 1 ?_
       refine Ss (rfl : false = false) 2 ?_
       refine Pk0 (rfl : false = false) ?_
       refine Vs 1 ?_
       refine Ss (rfl : false = false) 3 ?_
       refine Pk0 (rfl : false = false) ?_
       refine Vs 1 ?_
       obtain rfl := some_inj h154
       exact RWP.nil ⟨rfl, F12, hs149.dr0.dr0.dr0.dr0, le150, fI⟩
     ·refine Ss hb141 3 ?_
      refine Pk0 hb141 ?_
      refine Vs 1 ?_
      refine Ss (rfl : false = false) 2 ?_
      refine Pk0 (rfl : false = false) ?_
      refine Vs 1 ?_
      refine Ss (rfl : false = false) 2 ?_
      refine Pk0 (rfl : false = false) ?_
      refine Vs 1 ?_
      refine Ss (rfl : false = false) 3 ?_
      refine Pk0 (rfl : false = false) ?_
      refine Vs 1 ?_
      obtain rfl := some_inj h143
      exact RWP.nil ⟨rfl, F10, hs130.dr0.dr0.dr0.dr0, (Mem.le.refl _), fI⟩
    ·rintro f w133 ⟨F11, hs134, le135, ⟨_, rfl⟩⟩
     refine thenQ_nrm ?_
     refine Rt ?_
     refine thenQ_ret ?_
     obtain rfl := some_inj h140
     exact Re [(.bool j136)] hs134 rfl
   ·refine Sc ?_
    refine thenQ_nrm ?_
    refine Sq ?_
    refine Sq (Rg [0, 1, 2, 3, 4, 5, 6, 7, 8, 9, 10, 11, 12, 13, 14] ?_)
    refine RWP.cut (fun f w => ∃ (F13 : Mem), HS w0 F0 w F13 [(sb b96 #[(vi r88.1.Lo), (vi r88.1.Hi)] 72), (sb b21 (kExpr x0 a0_2 n0_2) 33)] ∧ Mem.le F8 F13 ∧ FI f [] [(2, (.slice a2_0 x2.length n2_0)), (3, (pt b21 0)), (7, (.bool r27)), (10, (pt b96 0)), (11, (vi r88.2)), (105, (.bool ((r80.2 == 3) && ((r88.2 != 0) || ((r101.2 != 0) || (!((r88.1.Lo == r101.1.Lo) && ((r88.1.Hi == r101.1.Hi) && true))))))))]) ?_ ?_
    ·refine Vs 3 ?_
     refine RWP.split (r80.2 == 3) (fun hb171 => ?_) (fun hb171 => ?_)
     ·refine Vgs hb171 3 ?_
      refine RWP.split (r88.2 != 0) (fun hb172 => ?_) (fun hb172 => ?_)
      ·refine Ss hb172 2 ?_
       refine Pg1 hb171 hb172 ?_
       refine Vgs hb171 1 ?_
       refine Ss (rfl : true = true) 3 ?_
       refine Pg1 hb171 (rfl : true = true) ?_
       refine Pk1 hb171 ?_
       exact RWP.nil ⟨rfl, F8, hs113.dr0.dr1, (Mem.le.refl _), (fJ ⟨rfl, rfl, rfl, rfl, rfl, (congrArg Value.bool (and_t hb171 (or_t hb172 (rfl)))), trivial⟩)⟩
      ·refine Vgs hb172 2 ?_
       refine Pg0 hb171 hb172 ?_
       refine Vgs hb171 1 ?_
       refine RWP.split (r101.2 != 0) (fun hb173 => ?_) (fun hb173 => ?_)
       ·refine Ss hb173 3 ?_
        refine Pg1 hb171 hb173 ?_
        refine Pk1 hb171 ?_
        exact RWP.nil ⟨rfl, F8, hs113.dr0.dr1, (Mem.le.refl _), (fJ ⟨rfl, rfl, rfl, rfl, rfl, (congrArg Value.bool (and_t hb171 (or_f hb172 (or_t hb173 (rfl))))), trivial⟩)⟩
       ·refine Lg hb173 hs113.at1 ?_
        refine Lg hb173 hs113.at0 ?_
        refine Vgs hb173 1 ?_
        refine Pg0 hb171 hb173 ?_
        refine Pk1 hb171 ?_
        exact RWP.nil ⟨rfl, F8, hs113.dr0.dr1, (Mem.le.refl _), (fJ ⟨rfl, rfl, rfl, rfl, rfl, (kq (.bool (!((r88.1.Lo == r101.1.Lo) && ((r88.1.Hi == r101.1.Hi) && true)))) (congrArg Value.bool (and_t hb171 (or_f hb172 (or_f hb173 (rfl)))))), trivial⟩)⟩
     ·refine Ss hb171 3 ?_
      refine Su' 2 ?_
      refine Ss hb171 2 ?_
      refine Su' 3 ?_
      refine Ss hb171 1 ?_
      refine Pk0 hb171 ?_
      exact RWP.nil ⟨rfl, F8, hs113.dr0.dr1, (Mem.le.refl _), (fJ ⟨rfl, rfl, rfl, rfl, rfl, (congrArg Value.bool (and_f hb171 (rfl))), trivial⟩)⟩
    ·rintro f w161 ⟨F13, hs162, le163, ⟨_, rfl⟩⟩
     refine thenQ_nrm ?_
     refine Cd h116 (fun hb174 h175 => ?_) (fun hb174 h176 => ?_)
     ·refine Sq (Rg [0] ?_)
      refine Vs 1 ?_
      refine Nt ?_
      refine Rt ?_
      refine thenQ_ret ?_
      obtain rfl := some_inj h175
      exact Re [(.bool false)] hs162 rfl
     ·refine Sc ?_
      refine thenQ_nrm ?_
      refine Sq ?_
      refine Sq (Rg [0, 1] ?_)
      refine Vs 2 ?_
      refine Nt ?_
      refine Cd h176 (fun hb177 h178 => ?_) (fun hb177 h179 => ?_)
      ·refine Sq (Rg [0, 1] ?_)
       refine Vs 2 ?_
       refine Nt ?_
       refine Rt ?_
       refine thenQ_ret ?_
       obtain rfl := some_inj h178
       exact Re [(.bool r27)] hs162 rfl
      ·refine Sc ?_
       refine thenQ_nrm ?_
       refine Sq (Rg [0] ?_)
       refine Vs 1 ?_
       refine Nss (Rg [0] ?_)
       refine Vs 1 ?_
       refine Nss (Rg [0, 1, 2] ?_)
       refine Vs 1 ?_
       obtain ⟨r180, hr181, h182⟩ := bind_some h179
       refine Cl' co_ref06_All hs162 (c_ref06_All N w161 F13 hs162.pers (x2) a2_0 n2_0 hb2_0 (SlA.mono hs2_0 (((((le33.trans le37).trans le86).trans le94).trans le107).trans le163)) _ hr181) ?_
       rintro _ F14 w184 hs185 le186 ⟨ar180_0_0, nr180_0_0, rfl, hbr180_0_0, hsr180_0_0⟩
       refine Vs 1 ?_
       refine Nss ?_
       refine Sq (Rg [0] ?_)
       refine Vs 1 ?_
       refine Nt ?_
       obtain ⟨o188, ho189, h190⟩ := bind_some h182
       refine CWP.cut (fun f w => ∃ (s203 : (Bool × Bool × Int)) (F16 : Mem), o188 = .done s203 ∧ HS w0 F0 w F16 [] ∧ Mem.le F14 F16 ∧ FI f [] [(7, (.bool r27)), (18, (.bool s203.1)), (19, (.bool s203.2.1))]) ?_ ?_
       ·refine Bk ?_
        refine CWP.loop (by kernel_rfl) (fun m f w => ∃ (s191 : (Bool × Bool × Int)) (F15 : Mem), iter (law06_RulesEqual_L0 N x0 x1 x2 r27 j38 r80 r88 r101 r180) m s191 = some o188 ∧ HS w0 F0 w F15 [(sb b96 #[(vi r88.1.Lo), (vi r88.1.Hi)] 72), (sb b21 (kExpr x0 a0_2 n0_2) 33)] ∧ Mem.le F14 F15 ∧ FI f [] [(3, (pt b21 0)), (7, (.bool r27)), (10, (pt b96 0)), (18, (.bool s191.1)), (19, (.bool s191.2.1)), (20, (.slice ar180_0_0 r180.length nr180_0_0)), (21, (vi s191.2.2))]) N ⟨(false, false, 0), F14, ho189, hs185, (Mem.le.refl _), fI⟩ ?_
        rintro m211 f w192 ⟨s191, F15, hit212, hs193, le194, ⟨_, rfl⟩⟩
        obtain ⟨m213, fl214, rfl, hb215, hnx216⟩ := iter_step hit212
        refine Sq ?_
        refine Sq (Rg [0, 1, 2, 3] ?_)
        refine Vs 4 ?_
        refine Nt ?_
        refine Cd hb215 (fun hb217 h218 => ?_) (fun hb217 h219 => ?_)
        ·refine Sc ?_
         refine thenQ_nrm ?_
         refine Sq ?_
         refine Bk ?_
         refine Sq ?_
         obtain ⟨j225, hj236, h237⟩ := bind_some h218
         refine RD 11 11 [(sb b96 #[(vi r88.1.Lo), (vi r88.1.Hi)] 72), (sb b21 (kExpr x0 a0_2 n0_2) 33)] [] hs193 (fun f w => ∃ (F17 : Mem), HS w0 F0 w F17 [(sb b96 #[(vi r88.1.Lo), (vi r88.1.Hi)] 72), (sb b21 (kExpr x0 a0_2 n0_2) 33)] ∧ Mem.le F15 F17 ∧ FI f [] [(3, (pt b21 0)), (7, (.bool r27)), (10, (pt b96 0)), (18, (.bool s191.1)), (19, (.bool s191.2.1)), (20, (.slice ar180_0_0 r180.length nr180_0_0)), (21, (vi s191.2.2)), (22, (vi j225.1)), (23, (vi j225.2))]) (fun wd220 hw221 => ?_) ?_
         ·refine Dl 0 (fun _ hq => (hq.1.2 1 _ _ rfl)) ?_
          refine Dv [1, 2] ?_
          obtain ⟨x238, hx239, h241⟩ := bind_some hj236
          obtain ⟨hi240, hx239'⟩ := idx_spec hx239
          obtain ⟨b242, o243, C244, E245, fz246, rfl, hF248, hE249⟩ := SlA.open (SlA.mono hsr180_0_0 le194) hx239'
          obtain ⟨ae250_0, ne250_0, hc251, hbe250_0, hse250_0⟩ := hE249 _ _ hx239'
          refine Di 3 hi240 ?_
          refine Dx 4 0 (fun _ hq => hq.1.1 _ _ hF248) hc251 ?_
          refine D1 5 ?_
          obtain ⟨r252, hr253, h254⟩ := bind_some h241
          refine DCl co_rules_Eval hw221 (c_rules_Eval N wd220 F15 hw221.pers (x0) a0_2 n0_2 hb0_2 (SlA.mono hs0_2 (((((((le33.trans le37).trans le86).trans le94).trans le107).trans le163).trans le186).trans le194)) (x238) ae250_0 ne250_0 hbe250_0 hse250_0 _ hr253) ?_
          rintro _ F18 w256 hs257 le258 rfl
          refine Dv [6, 7, 8, 9, 10] ?_
          obtain rfl := some_inj h254
          exact DWP.done (by kernel_rfl) ⟨F18, hs257, le258, fI⟩
         ·rintro f w222 ⟨F17, hs223, le224, ⟨_, rfl⟩⟩
          refine thenQ_nrm ?_
          refine Sq ?_
          refine Sq (Rg [0, 1, 2, 3, 4, 5, 6, 7, 8, 9, 10, 11, 12, 13] ?_)
          refine RWP.cut (fun f w => ∃ (F19 : Mem), HS w0 F0 w F19 [(sb b96 #[(vi r88.1.Lo), (vi r88.1.Hi)] 72), (sb b21 (kExpr x0 a0_2 n0_2) 33)] ∧ Mem.le F17 F19 ∧ FI f [] [(3, (pt b21 0)), (7, (.bool r27)), (10, (pt b96 0)), (18, (.bool s191.1)), (19, (.bool s191.2.1)), (20, (.slice ar180_0_0 r180.length nr180_0_0)), (21, (vi s191.2.2)), (22, (vi j225.1)), (139, (.bool ((j225.2 != 0) || ((decide (j225.1 < r88.1.Lo)) || (decide (j225.1 > r88.1.Hi))))))]) ?_ ?_
          ·refine Vs 3 ?_
           refine RWP.split (j225.2 != 0) (fun hb273 => ?_) (fun hb273 => ?_)
           ·refine Ss hb273 4 ?_
            refine Pk1 hb273 ?_
            refine Vs 1 ?_
            refine Ss (rfl : true = true) 4 ?_
            refine Pk1 (rfl : true = true) ?_
            exact RWP.nil ⟨rfl, F17, hs223, (Mem.le.refl _), (fJ ⟨rfl, rfl, rfl, rfl, rfl, rfl, rfl, rfl, (congrArg Value.bool (or_t hb273 (rfl))), trivial⟩)⟩
           ·refine Vgs hb273 2 ?_
            refine Lg hb273 hs223.at0 ?_
            refine Vgs hb273 1 ?_
            refine Pk0 hb273 ?_
            refine Vs 1 ?_
            refine RWP.split (decide (j225.1 < r88.1.Lo)) (fun hb274 => ?_) (fun hb274 => ?_)
            ·refine Ss hb274 4 ?_
             refine Pk1 hb274 ?_
             exact RWP.nil ⟨rfl, F17, hs223, (Mem.le.refl _), (fJ ⟨rfl, rfl, rfl, rfl, rfl, rfl, rfl, rfl, (congrArg Value.bool (or_f hb273 (or_t hb274 (rfl)))), trivial⟩)⟩
            ·refine Vgs hb274 2 ?_
             refine Lg hb274 hs223.at0 ?_
             refine Vgs hb274 1 ?_
             refine Pk0 hb274 ?_
             exact RWP.nil ⟨rfl, F17, hs223, (Mem.le.refl _), (fJ ⟨rfl, rfl, rfl, rfl, rfl, rfl, rfl, rfl, (congrArg Value.bool (or_f hb273 (or_f hb274 (rfl)))), trivial⟩)⟩
          ·rintro f w260 ⟨F19, hs261, le262, ⟨_, rfl⟩⟩
           refine thenQ_nrm ?_
           refine Cd h237 (fun hb275 h276 => ?_) (fun hb275 h277 => ?_)
           ·refine Sq (Rg [0] ?_)
            refine Vs 1 ?_
            refine Nt ?_
            refine Rt ?_
            refine thenQ_ret ?_
            refine blockQ_ret ?_
            refine thenQ_ret ?_
            refine thenQ_ret ?_
            refine blockQ_ret ?_
            have hret := iter_ret h276 hnx216
            subst hret
            refine .inr ?_
            refine thenQ_ret ?_
            obtain rfl := some_inj h190
            exact Re [(.bool false)] hs261 rfl
           ·refine Sc ?_
            refine thenQ_nrm ?_
            refine Sq (Rg [0, 1, 2, 3, 4, 5, 6, 7] ?_)
            refine RWP.cut (fun f w => ∃ (F20 : Mem), HS w0 F0 w F20 [(sb b96 #[(vi r88.1.Lo), (vi r88.1.Hi)] 72), (sb b21 (kExpr x0 a0_2 n0_2) 33)] ∧ Mem.le F19 F20 ∧ FI f [] [(3, (pt b21 0)), (7, (.bool r27)), (10, (pt b96 0)), (18, (.bool (s191.1 || (j225.1 == r88.1.Lo)))), (19, (.bool s191.2.1)), (20, (.slice ar180_0_0 r180.length nr180_0_0)), (21, (vi s191.2.2)), (22, (vi j225.1))]) ?_ ?_
            ·refine Vs 2 ?_
             refine RWP.split s191.1 (fun hb290 => ?_) (fun hb290 => ?_)
             ·refine Ss hb290 4 ?_
              refine Pk1 hb290 ?_
              refine Vs 1 ?_
              exact RWP.nil ⟨rfl, F19, hs261, (Mem.le.refl _), (fJ ⟨rfl, rfl, rfl, (congrArg Value.bool (or_t hb290 (rfl))), rfl, rfl, rfl, rfl, trivial⟩)⟩
             ·refine Vgs hb290 2 ?_
              refine Lg hb290 hs261.at0 ?_
              refine Vgs hb290 1 ?_
              refine Pk0 hb290 ?_
              refine Vs 1 ?_
              exact RWP.nil ⟨rfl, F19, hs261, (Mem.le.refl _), (fJ ⟨rfl, rfl, rfl, (congrArg Value.bool (or_f hb290 (rfl))), rfl, rfl, rfl, rfl, trivial⟩)⟩
            ·rintro f w278 ⟨F20, hs279, le280, ⟨_, rfl⟩⟩
             refine thenQ_nrm ?_
             refine Rg [0, 1, 2, 3, 4, 5, 6, 7] ?_
             refine RWP.cut (fun f w => ∃ (F21 : Mem), HS w0 F0 w F21 [(sb b96 #[(vi r88.1.Lo), (vi r88.1.Hi)] 72), (sb b21 (kExpr x0 a0_2 n0_2) 33)] ∧ Mem.le F20 F21 ∧ FI f [] [(3, (pt b21 0)), (7, (.bool r27)), (10, (pt b96 0)), (18, (.bool (s191.1 || (j225.1 == r88.1.Lo)))), (19, (.bool (s191.2.1 || (j225.1 == r88.1.Hi)))), (20, (.slice ar180_0_0 r180.length nr180_0_0)), (21, (vi s191.2.2))]) ?_ ?_
             ·refine Vs 2 ?_
              refine RWP.split s191.2.1 (fun hb302 => ?_) (fun hb302 => ?_)
              ·refine Ss hb302 4 ?_
               refine Pk1 hb302 ?_
               refine Vs 1 ?_
               exact RWP.nil ⟨rfl, F20, hs279, (Mem.le.refl _), (fJ ⟨rfl, rfl, rfl, rfl, (congrArg Value.bool (or_t hb302 (rfl))), rfl, rfl, trivial⟩)⟩
              ·refine Vgs hb302 2 ?_
               refine Lg hb302 hs279.at0 ?_
               refine Vgs hb302 1 ?_
               refine Pk0 hb302 ?_
               refine Vs 1 ?_
               exact RWP.nil ⟨rfl, F20, hs279, (Mem.le.refl _), (fJ ⟨rfl, rfl, rfl, rfl, (congrArg Value.bool (or_f hb302 (rfl))), rfl, rfl, trivial⟩)⟩
             ·rintro f w291 ⟨F21, hs292, le293, ⟨_, rfl⟩⟩
              refine blockQ_nrm ?_
              refine thenQ_nrm ?_
              refine Rg [0, 1, 2] ?_
              refine Vs 3 ?_
              refine RWP.nil ?_
              have hn303 := iter_next h277 hnx216
              exact ⟨m213, Nat.lt_succ_self _, ((s191.1 || (j225.1 == r88.1.Lo)), (s191.2.1 || (j225.1 == r88.1.Hi)), (W64 (s191.2.2 + 1))), F21, hn303, hs292, ((((le194.trans le224).trans le262).trans le280).trans le293), fI⟩
        ·refine Ex ?_
         refine thenQ_ex ?_
         refine thenQ_ex ?_
         refine blockQ_hit rfl ?_
         have ho304 := iter_done h219 hnx216
         exact .inl ⟨rfl, (s191.1, s191.2.1, s191.2.2), F15, ho304, hs193.dr0.dr0, le194, fI⟩
       ·rintro f w204 ⟨s203, F16, rfl, hs205, le206, ⟨_, rfl⟩⟩
        have h305 := k_done h190
        refine thenQ_nrm ?_
        refine Sq (Rg [0, 1, 2, 3, 4, 5, 6, 7] ?_)
        refine RWP.cut (fun f w => ∃ (F22 : Mem), HS w0 F0 w F22 [] ∧ Mem.le F16 F22 ∧ FI f [] [(6, (.bool (r27 && (s203.1 && s203.2.1))))]) ?_ ?_
        ·refine Vs 2 ?_
         refine RWP.split r27 (fun hb311 => ?_) (fun hb311 => ?_)
         ·refine Vgs hb311 1 ?_
          refine Pk1 hb311 ?_
          refine Vs 1 ?_
          refine RWP.split s203.1 (fun hb312 => ?_) (fun hb312 => ?_)
          ·refine Vgs hb312 1 ?_
           refine Pk1 hb312 ?_
           refine Vs 1 ?_
           exact RWP.nil ⟨rfl, F16, hs205, (Mem.le.refl _), (fJ ⟨(congrArg Value.bool (and_t hb311 (and_t hb312 (rfl)))), trivial⟩)⟩
          ·refine Ss hb312 1 ?_
           refine Pk0 hb312 ?_
           refine Vs 1 ?_
           exact RWP.nil ⟨rfl, F16, hs205, (Mem.le.refl _), (fJ ⟨(congrArg Value.bool (and_t hb311 (and_f hb312 (rfl)))), trivial⟩)⟩
         ·refine Ss hb311 1 ?_
          refine Pk0 hb311 ?_
          refine Vs 1 ?_
          refine Ss (rfl : false = false) 1 ?_
          refine Pk0 (rfl : false = false) ?_
          refine Vs 1 ?_
          exact RWP.nil ⟨rfl, F16, hs205, (Mem.le.refl _), (fJ ⟨(congrArg Value.bool (and_f hb311 (rfl))), trivial⟩)⟩
        ·rintro f w306 ⟨F22, hs307, le308, ⟨_, rfl⟩⟩
         refine thenQ_nrm ?_
         refine Rt ?_
         obtain rfl := some_inj h305
         exact Re [(.bool (r27 && (s203.1 && s203.2.1)))] hs307 rfl
end Go.Proofs.YtaihlcdkcampbaaGreatDoor
namespace Go.Proofs.YtaihlcdkcampbaaGreatDoor
section
variable {N : Nat}
theorem s_in {d : List Span} {f : List Int} (hN : 100 < N) (hd : d.length = 14) (h : box d f) : law06_in N f d = some true := by
 have hl := box_len h
 unfold law06_in
 rw [show ((f.length : Int) != (d.length : Int)) = false by rw [hl]; simp, cond_false]
 rw [iter_first f (fun _ => false) (fun _ => false) (fun i hi => by
  have hb := box_get h i (by omega) hi
  unfold law06_in_L0
  rw [lt_t hi, cond_true]
  simp only [idx_nat hi, idx_nat (show i < d.length by omega), Option.bind_some]
  rw [decide_eq_false (by omega), cond_false, decide_eq_false (by omega), Option.bind_some, cond_false]) (by unfold law06_in_L0; rw [lt_f, cond_false]) (by omega) (by omega), any_none]
 rfl
theorem found_zero {o : Option (List Int)} (h : (found o).2 = 0) : ∃ f, o = some f ∧ found o = (f, 0) := by
 cases o with
 | none => simp [found] at h
 | some f => exact ⟨f, rfl, rfl⟩
theorem found_three {o : Option (List Int)} (h : (found o).2 = 3) : o = none := by
 cases o with
 | none => rfl
 | some f => simp [found] at h
theorem fold_min {e : Expr} : ∀ (L : List (List Int)) (s : Int), (L.foldl (fun a f => min a (val f e)) s ≤ s ∧ ∀ f, f ∈ L → L.foldl (fun a f => min a (val f e)) s ≤ val f e) ∧ (L.foldl (fun a f => min a (val f e)) s = s ∨ ∃ f, f ∈ L ∧ L.foldl (fun a f => min a (val f e)) s = val f e)
 | [], s => ⟨⟨Int.le_refl _, fun _ h => by cases h⟩, .inl rfl⟩
 | x :: L, s => by
  rw [List.foldl_cons]
  obtain ⟨⟨h1, h2⟩, h3⟩ := fold_min (e := e) L (min s (val x e))
  refine ⟨⟨by omega, fun f hf => ?_⟩, ?_⟩
  ·rcases List.mem_cons.1 hf with rfl | hf
   ·omega
   ·exact h2 f hf
  ·rcases h3 with h3 | ⟨f, hf, h3⟩
   ·by_cases h : s ≤ val x e
    ·exact .inl (by omega)
    ·exact .inr ⟨x, List.mem_cons_self .., by omega⟩
   ·exact .inr ⟨f, List.mem_cons_of_mem _ hf, h3⟩
theorem fold_max {e : Expr} : ∀ (L : List (List Int)) (s : Int), (s ≤ L.foldl (fun a f => max a (val f e)) s ∧ ∀ f, f ∈ L → val f e ≤ L.foldl (fun a f => max a (val f e)) s) ∧ (L.foldl (fun a f => max a (val f e)) s = s ∨ ∃ f, f ∈ L ∧ L.foldl (fun a f => max a (val f e)) s = val f e)
 | [], s => ⟨⟨Int.le_refl _, fun _ h => by cases h⟩, .inl rfl⟩
 | x :: L, s => by
  rw [List.foldl_cons]
  obtain ⟨⟨h1, h2⟩, h3⟩ := fold_max (e := e) L (max s (val x e))
  refine ⟨⟨by omega, fun f hf => ?_⟩, ?_⟩
  ·rcases List.mem_cons.1 hf with rfl | hf
   ·omega
   ·exact h2 f hf
  ·rcases h3 with h3 | ⟨f, hf, h3⟩
   ·by_cases h : val x e ≤ s
    ·exact .inl (by omega)
    ·exact .inr ⟨x, List.mem_cons_self .., by omega⟩
   ·exact .inr ⟨f, List.mem_cons_of_mem _ hf, h3⟩
theorem allL_ne {d : List Span} (hd : dom d = true) : ∃ f, f ∈ allL d := ⟨los d, mem_allL.2 (los_box (dom_okD hd))⟩
theorem mn_hit {e : Expr} {d : List Span} (hd : dom d = true) (he : Fit N e) (h0 : kd e ≠ 0) : ∃ f, f ∈ allL d ∧ mn e d = val f e := by
 obtain ⟨⟨h1, h2⟩, h3⟩ := fold_min (e := e) (allL d) 1000000
 rcases h3 with h3 | h3
 ·obtain ⟨f, hf⟩ := allL_ne hd
  have hb := val_bd (dom_fac hd hf) he h0
  have := h2 f hf
  exact ⟨f, hf, by unfold mn; omega⟩
 ·exact h3
theorem mx_hit {e : Expr} {d : List Span} (hd : dom d = true) (he : Fit N e) (h0 : kd e ≠ 0) : ∃ f, f ∈ allL d ∧ mx e d = val f e := by
 obtain ⟨⟨h1, h2⟩, h3⟩ := fold_max (e := e) (allL d) (-1000000)
 rcases h3 with h3 | h3
 ·obtain ⟨f, hf⟩ := allL_ne hd
  have hb := val_bd (dom_fac hd hf) he h0
  have := h2 f hf
  exact ⟨f, hf, by unfold mx; omega⟩
 ·exact h3
theorem mm_le {e : Expr} {d : List Span} {f : List Int} (hf : f ∈ allL d) : mn e d ≤ val f e ∧ val f e ≤ mx e d :=
 ⟨(fold_min (e := e) (allL d) 1000000).1.2 f hf, (fold_max (e := e) (allL d) (-1000000)).1.2 f hf⟩
theorem fold_congr {a b : Expr} {g : Int → Int → Int} : ∀ {L : List (List Int)} {s : Int}, (∀ f, f ∈ L → val f a = val f b) → L.foldl (fun s f => g s (val f a)) s = L.foldl (fun s f => g s (val f b)) s
 | [], _, _ => rfl
 | x :: L, s, h => by
  rw [List.foldl_cons, List.foldl_cons, h x (List.mem_cons_self ..)]
  exact fold_congr fun f hf => h f (List.mem_cons_of_mem _ hf)
theorem evalS_ok {e : Expr} {f : List Int} (h : snd0 e = true) (hf : fac f = true) : evalS e f = (val f e, 0) := by
 unfold evalS; rw [h, hf]; rfl
theorem diff_parts {a b : Expr} {d : List Span} (h : (diffS a b d).2 = 0 ∨ (diffS a b d).2 = 3) : snd0 a = true ∧ snd0 b = true ∧ dom d = true ∧ diffS a b d = found ((allL d).find? fun f => val f a != val f b) := by
 unfold diffS at h ⊢
 by_cases h1 : snd0 a = false ∨ snd0 b = false ∨ kd a ≠ kd b
 ·rw [if_pos h1] at h; simp at h
 ·rw [if_neg h1] at h ⊢
  cases hd : dom d with
  | false => rw [hd, if_pos rfl] at h; simp at h
  | true =>
   refine ⟨?_, ?_, rfl, ?_⟩
   ·cases hq : snd0 a with
    | true => rfl
    | false => exact absurd (.inl hq) h1
   ·cases hq : snd0 b with
    | true => rfl
    | false => exact absurd (.inr (.inl hq)) h1
   ·rw [if_neg tf]
theorem rangeS_ok {e : Expr} {d : List Span} (h : snd0 e = true) (hd : dom d = true) : rangeS e d = (⟨mn e d, mx e d⟩, 0) := by
 unfold rangeS; rw [h, hd, if_neg tf, if_neg tf]
theorem rangeS_zero {e : Expr} {d : List Span} (h : (rangeS e d).2 = 0) : snd0 e = true ∧ dom d = true := by
 unfold rangeS at h
 cases hs : snd0 e with
 | false => rw [hs, if_pos rfl] at h; simp at h
 | true =>
  rw [hs, if_neg tf] at h
  cases hd : dom d with
  | false => rw [hd, if_pos rfl] at h; simp at h
  | true => exact ⟨rfl, rfl⟩
theorem ends_iter {e : Expr} {L : List (List Int)} {lo hi : Int} {body : Bool × Bool × Int → Option (Flow Bool (Bool × Bool × Int))} (hN : 5000 < N) (hL : L.length ≤ 4096)
  (hb : ∀ (i : Nat) (p q : Bool) (h : i < L.length), body (p, q, (i : Int)) = some (.next (p || val L[i] e == lo, q || val L[i] e == hi, ((i + 1 : Nat) : Int)))) (he : ∀ p q, body (p, q, (L.length : Int)) = some (.done (p, q, (L.length : Int)))) :
  iter body N (false, false, 0) = some (.done (L.any (fun f => val f e == lo), L.any (fun f => val f e == hi), (L.length : Int))) := by
 obtain ⟨o, ho, rfl⟩ := iter_ex (body := body) L.length (fun i t => t = ((L.take i).any (fun f => val f e == lo), (L.take i).any (fun f => val f e == hi), (i : Int))) (fun o => o = .done (L.any (fun f => val f e == lo), L.any (fun f => val f e == hi), (L.length : Int))) (by
  rintro i t hi' rfl
  by_cases h : i < L.length
  ·refine .inl ⟨_, hb i _ _ h, ?_, h⟩
   rw [List.take_succ_eq_append_getElem h, List.any_append, List.any_append]
   simp
  ·have : i = L.length := by omega
   subst this
   refine .inr ⟨_, he _ _, (fun _ h => by cases h), ?_⟩
   rw [List.take_length]) L.length N 0 (false, false, 0) (by omega) (by simp) (by omega)
 exact ho
theorem equal_holds (a b : Expr) (d : List Span) (hN : 2000000 < N) (ha : Fit N a) (hb : Fit N b) : law06_RulesEqual N a b d = some true := by
 obtain ⟨w, hw, _⟩ := s_few (N := N) (by omega) d 100
 unfold law06_RulesEqual law06_awake
 rw [s_nodes ha, s_nodes hb, hw, s_Differ (by omega) ha hb, s_Range (by omega) ha, s_Range (by omega) hb]
 simp only [Option.bind_some]
 generalize decide (nd a > 60) = b1
 generalize decide (nd b > 60) = b2
 cases b1 with
 | true => rfl
 | false =>
  cases b2 with
  | true => rfl
  | false =>
   cases w with
   | false => rfl
   | true =>
    simp only [cond_false, Bool.not_true, Option.bind_some, cond_true]
    by_cases hz : (diffS a b d).2 = 0
    ·obtain ⟨h1, h2, hd, h4⟩ := diff_parts (.inl hz)
     rw [h4] at hz
     obtain ⟨f, h5, h6⟩ := found_zero hz
     have hf := List.mem_of_find?_eq_some h5
     have hv := List.find?_some h5
     have hfc := dom_fac hd hf
     rw [h4, h6, show ((0 : Int) == 0) = true from rfl, cond_true, s_Eval (by omega) ha, Option.bind_some, s_Eval (by omega) hb, Option.bind_some, s_in (by omega) (dom_len hd) (mem_allL.1 hf), Option.bind_some, cond_true, evalS_ok h1 hfc, evalS_ok h2 hfc]
     rw [show ((0 : Int) == 0) = true from rfl, cond_true, cond_true, Option.bind_some]
     exact congrArg some hv
    ·rw [show ((diffS a b d).2 == 0) = false by simpa using hz, cond_false]
     have e3 : ((diffS a b d).2 == 3 && ((rangeS a d).2 != 0 || ((rangeS b d).2 != 0 || !((rangeS a d).1.Lo == (rangeS b d).1.Lo && ((rangeS a d).1.Hi == (rangeS b d).1.Hi && true))))) = false := by
      by_cases ht : (diffS a b d).2 = 3
      ·obtain ⟨h1, h2, hd, h4⟩ := diff_parts (.inr ht)
       rw [h4] at ht
       have hn := List.find?_eq_none.1 (found_three ht)
       have hv : ∀ f, f ∈ allL d → val f a = val f b := fun f hf => by have := hn f hf; simpa using this
       have e1 : mn a d = mn b d := fold_congr (g := min) hv
       have e2 : mx a d = mx b d := fold_congr (g := max) hv
       rw [rangeS_ok h1 hd, rangeS_ok h2 hd, e1, e2]
       simp
      ·rw [show ((diffS a b d).2 == 3) = false by simpa using ht, Bool.false_and]
     rw [e3, cond_false]
     by_cases hr : (rangeS a d).2 = 0
     ·obtain ⟨h1, hd⟩ := rangeS_zero hr
      have hv : (allL d).length ≤ 4096 := by rw [allL_length]; exact dom_vol hd
      rw [rangeS_ok h1 hd, show ((0 : Int) != 0) = false from rfl, cond_false, s_All hd hN, Option.bind_some]
      rw [ends_iter (N := N) (e := a) (L := allL d) (lo := mn a d) (hi := mx a d) (by omega) hv (fun i p q hi => by
       have hm := List.getElem_mem hi
       have hle := mm_le (e := a) hm
       unfold law06_RulesEqual_L0
       simp only
       rw [lt_t hi, cond_true, idx_nat hi, Option.bind_some, s_Eval (by omega) ha, Option.bind_some, Option.bind_some, evalS_ok h1 (dom_fac hd hm)]
       rw [show ((0 : Int) != 0) = false from rfl, Bool.false_or, decide_eq_false (by simp only; omega), Bool.false_or, decide_eq_false (by simp only; omega), cond_false, W64_succ (by omega)]) (fun p q => by
       unfold law06_RulesEqual_L0
       simp only
       rw [lt_f, cond_false]), Option.bind_some]
      simp only [Flow.k]
      obtain ⟨f1, hf1, e1⟩ := mn_hit hd ha (snd0_k h1)
      obtain ⟨f2, hf2, e2⟩ := mx_hit hd ha (snd0_k h1)
      rw [show (allL d).any (fun f => val f a == mn a d) = true from List.any_eq_true.2 ⟨f1, hf1, by rw [e1]; simp⟩, show (allL d).any (fun f => val f a == mx a d) = true from List.any_eq_true.2 ⟨f2, hf2, by rw [e2]; simp⟩]
      rfl
     ·rw [show ((rangeS a d).2 != 0) = true by simpa using hr, cond_true]
end
end Go.Proofs.YtaihlcdkcampbaaGreatDoor
namespace Go.Proofs.YtaihlcdkcampbaaGreatDoor
open Go.Proofs
end Go.Proofs.YtaihlcdkcampbaaGreatDoor
namespace Go.Proofs.YtaihlcdkcampbaaGreatDoor
open Go.Proofs
end Go.Proofs.YtaihlcdkcampbaaGreatDoor
namespace Go.Proofs.YtaihlcdkcampbaaGreatDoor
section
variable {N : Nat}
end
end Go.Proofs.YtaihlcdkcampbaaGreatDoor
namespace Go.Proofs.YtaihlcdkcampbaaGreatDoor
open Go.Proofs
end Go.Proofs.YtaihlcdkcampbaaGreatDoor
namespace Go.Proofs.YtaihlcdkcampbaaGreatDoor
open Go.Proofs
end Go.Proofs.YtaihlcdkcampbaaGreatDoor
namespace Go.Proofs.YtaihlcdkcampbaaGreatDoor
section
variable {N : Nat}
end
end Go.Proofs.YtaihlcdkcampbaaGreatDoor
namespace Go.Proofs.YtaihlcdkcampbaaGreatDoor
theorem equal_row (a b : Expr) (d : List Span) (h0 : qExpr a) (h1 : qExpr b) (_ : qL qSpan d) : ∃ N, law06_RulesEqual N a b d = some true := by
 obtain ⟨m, hm⟩ := fit_ex h0
 obtain ⟨n, hn⟩ := fit_ex h1
 exact ⟨m + n + 2000001, equal_holds a b d (by omega) (hm _ (by omega)) (hn _ (by omega))⟩
end Go.Proofs.YtaihlcdkcampbaaGreatDoor
