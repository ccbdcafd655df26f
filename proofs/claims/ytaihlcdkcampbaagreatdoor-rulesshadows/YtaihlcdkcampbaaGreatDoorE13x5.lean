/- Lemmas of the claim RulesShadows, printed by a program of the claimant and by hand. No statement of the seat is proved here. -/
import Derived.Test.YtaihlcdkcampbaaGreatDoorE13x4
set_option linter.unusedVariables false
set_option linter.unusedSimpArgs false
set_option linter.unusedSectionVars false
set_option maxHeartbeats 4000000
set_option maxRecDepth 100000
namespace Go.Proofs.YtaihlcdkcampbaaGreatDoor
open Go.Proofs
def zExpr : Expr := { Op := 0, Value := 0, Kids := ([] : List Expr) }
def zPlaced : rules_placed := { Expr := zExpr, at_ := 0 }
def zBook : Book := { Points := ([] : List Clause), Multipliers := ([] : List Clause), Penalties := ([] : List Clause), Repeats := ([] : List Expr) }
def readAs {α β : Type} (N : Nat) (s : List UInt8) (run : rules_parser → Option (rules_bad ⊕ α)) (z : β) (f : α → β) : Option (β × Int × Int) :=
 bif decide ((s.length : Int) > 65536) then some (z, 2, 0) else (rules_tokensOf N s).bind fun l => (run { l_ := l, open_ := 0 }).bind fun q => sk q (fun b => bif b.e_ != 0 then some (z, b.e_, b.at_) else none) (fun a => some (f a, 0, 0))
def rules_ParseExpr (N : Nat) (x0 : List UInt8) : Option (Expr × Int × Int) := readAs N x0 (fun p => rules_ParseExpr_1 N p zPlaced) zExpr (fun a => a.2.Expr)
def rules_Parse (N : Nat) (x0 : List UInt8) : Option (Book × Int × Int) := readAs N x0 (fun p => rules_Parse_1 N p zBook) zBook (fun a => a.2)
theorem bif_true {α : Type} {b : Bool} {x y : α} (h : b = true) : (bif b then x else y) = x := by subst h; rfl
theorem bif_false {α : Type} {b : Bool} {x y : α} (h : b = false) : (bif b then x else y) = y := by subst h; rfl
theorem co_rules_ParseExpr : CallOk Tryz.prog 25 := fun _ _ => by kernel_rfl
set_option maxRecDepth 100000 in
theorem c_rules_ParseExpr (N : Nat) (w0 : World) (F0 : Mem) (hF : ∀ b o, F0 b = some o → w0.heap[b]? = some o) (hG : Glob F0) (x0 : List UInt8) (r : Expr × Int × Int) (h : rules_ParseExpr N x0 = some r) :
  Calls Tryz.prog 25 ([.string ⟨x0.toArray⟩] : List Value).toArray w0 (FRet w0 F0 fun F' v => ∃ (aq0_2 : Option Addr) (nq0_2 : Nat), v = (.tuple #[(.agg #[(.int .i64 r.1.Op), (.int .i64 r.1.Value), (.slice aq0_2 r.1.Kids.length nq0_2)]), (.int .i64 r.2.1), (.int .i64 r.2.2)]) ∧ LC r.1.Kids.length nq0_2 ∧ SlA tExpr F' aq0_2 r.1.Kids) := by
 have hs0 := HS.start hF
 refine calls_of (n := 21) (c := bodyOf Tryz.f25) Tryz.func25 (by kernel_rfl) (by kernel_rfl) (by kernel_rfl) ?_
 refine Sq ?_
 refine Rg [0, 1, 2] ?_
 refine RWP.alloc (dst := some 2) (ty := 0) (g := none) (by kernel_rfl) rfl (t := 33) (z := .agg #[.int .i64 0, .int .i64 0, .slice none 0 0]) (by kernel_rfl) (C := #[.int .i64 0, .int .i64 0, .slice none 0 0]) rfl hs0 (fun b2 w1 hs1 => ?_)
 refine V 3 27 (run_assign (x := .const (.int .i64 0)) (v := .int .i64 0) rfl) ?_
 refine V 4 3 (run_assign (x := .const (.int .i64 0)) (v := .int .i64 0) rfl) ?_
 refine RWP.nil ?_
 refine thenQ_nrm ?_
 refine Sq ?_
 refine Rg [0] ?_
 refine RWP.alloc (dst := some 5) (ty := 0) (g := none) (by kernel_rfl) rfl (t := 113) (z := .agg #[.int .i64 0, .int .i64 0, .slice none 0 0, .int .i64 0]) (by kernel_rfl) (C := #[.int .i64 0, .int .i64 0, .slice none 0 0, .int .i64 0]) rfl hs1 (fun b5 w2 hs2 => ?_)
 refine RWP.nil ?_
 refine thenQ_nrm ?_
 refine Sq ?_
 refine Rg [0, 1, 2, 3, 4, 5, 6, 7] ?_
 refine V 9 9 (run_move (x := .tmp 0) (v := .string ⟨x0.toArray⟩) rfl) ?_
 refine V 10 103 (run_makeFunc (fn := .func 85) (first := #[]) (cap := #[.tmp 5]) (fl := []) (cl := [.pointer (some ⟨b5, 0, none⟩)]) rfl rfl) ?_
 obtain ⟨X, hX⟩ : ∃ X : Own, X = [(some b2, .cells #[.int .i64 0, .int .i64 0, .slice none 0 0] 33 (0, 0))] := ⟨_, rfl⟩
 refine RWP.enter (dst := some 11) (ty := 88) (g := none) (by kernel_rfl) rfl (run_call (f := .func 78) (aos := #[.tmp 9, .tmp 10]) (ats := #[9, 103]) (g := 78) (first := #[]) (cap := #[]) (args := [.string ⟨x0.toArray⟩, .func (.func 85) #[] #[.pointer (some ⟨b5, 0, none⟩)]]) rfl co_rules_read rfl)
  (c_rules_read N hs2 x0 (g := 85) (cap := [.pointer (some ⟨b5, 0, none⟩)]) co_rules_ParseExpr_1 (fun o F' L' => match o with
   | none => ∃ (e : Expr) (at_ : Int) (a : Option Addr) (n : Nat), L' = (some b5, .cells #[.int .i64 e.Op, .int .i64 e.Value, .slice a e.Kids.length n, .int .i64 at_] 113 (0, 0)) :: X ∧ LC e.Kids.length n ∧ SlA tExpr F' a e.Kids ∧ some (e, (0 : Int), (0 : Int)) = some r
   | some x => (bif x.e_ != 0 then some (zExpr, x.e_, x.at_) else none) = some r ∧ (L' = X ∨ ∃ o, L' = (some b5, o) :: X)) ?_ ?_) ?_
 ·intro hc F'
  unfold rules_ParseExpr readAs at h
  rw [bif_true hc] at h
  exact ⟨h, .inr ⟨_, by rw [hX]⟩⟩
 ·intro hc
  unfold rules_ParseExpr readAs at h
  rw [bif_false hc] at h
  obtain ⟨l, hl, h⟩ := bind_some h
  obtain ⟨q, hq, h⟩ := bind_some h
  refine ⟨l, hl, fun w3 F3 be_ ba_ bp a n le3 hb hsl hs3 => ?_⟩
  have hs4 : HS w0 F0 w3 F3 ((some bp, .cells #[.slice a l.length n, .int .i64 0] 100 (0, 0)) :: (some b5, .cells #[.int .i64 0, .int .i64 0, .slice none 0 0, .int .i64 0] 113 (0, 0)) :: (some ba_, ba 0) :: (some be_, be 0) :: X) := by
   rw [hX]; exact (hs3.pick (k := 3) rfl).pick (k := 1) rfl
  refine (c_rules_ParseExpr_1 N (hG.mono (hs3.le)) bp { l_ := l, open_ := 0 } a n hb hsl b5 zPlaced none 0 LC.nil (.inl rfl) hs4 q hq).mono ?_
  rintro e w4 (⟨a1, F4, v, L', rfl, rfl, hs5, le5, aq, nq, az, nz, rfl, rfl, h1, h2, h3, h4⟩ | ⟨x, F4, rfl, rfl, hs5, le5⟩)
  ·exact .inl ⟨_, F4, _, rfl, ((hs5.drop 0).pick (k := 2) rfl).pick (k := 2) rfl, le5, _, _, az, nz, rfl, h3, h4, h⟩
  ·exact .inr ⟨x, F4, _, rfl, hs5, le5, h, .inl rfl⟩
 ·rintro e w5 ⟨o, F5, L5, rfl, hs5, le5, hK⟩
  cases o with
  | none =>
   obtain ⟨e, at_, a, n, rfl, hb, hsl, hr⟩ := hK
   simp only
   refine V 8 88 (run_move (x := .tmp 11) (v := .tuple #[.int .i64 0, .int .i64 0]) rfl) ?_
   refine V 12 27 (run_extract (x := .tmp 8) (vs := #[.int .i64 0, .int .i64 0]) (i := 0) (v := .int .i64 0) rfl rfl) ?_
   refine V 13 3 (run_extract (x := .tmp 8) (vs := #[.int .i64 0, .int .i64 0]) (i := 1) (v := .int .i64 0) rfl rfl) ?_
   refine V 6 27 (run_assign (x := .tmp 12) (v := .int .i64 0) rfl) ?_
   refine V 7 3 (run_assign (x := .tmp 13) (v := .int .i64 0) rfl) ?_
   refine RWP.nil ?_
   refine thenQ_nrm ?_
   refine Sq ?_
   refine Sq ?_
   refine Rg [0, 1] ?_
   refine V 14 27 (run_move (x := .tmp 6) (v := .int .i64 0) rfl) ?_
   refine V 15 4 (run_neq (t := 27) (t' := 27) (x := .tmp 14) (y := .const (.int .i64 0)) (k := .i64) (a := 0) (b := 0) rfl rfl) ?_
   refine RWP.nil ?_
   refine thenQ_nrm ?_
   refine CWP.cond0 (t := false) (by kernel_rfl) rfl rfl ?_
   refine CWP.skip (by kernel_rfl) ?_
   refine thenQ_nrm ?_
   refine Sq ?_
   refine Rg [0, 1, 2, 3, 4] ?_
   refine V 19 0 (run_fieldAddr (s := 113) (x := .tmp 5) (i := 0) (o := 0) (k := 3) (b := b5) (o0 := 0) rfl (by kernel_rfl) rfl (o1 := 0) rfl) ?_
   refine V 20 33 (run_load' (t := 33) (x := .tmp 19) (b := b5) (o := 0) (g := true) (s := 3) (C := #[.int .i64 e.Op, .int .i64 e.Value, .slice a e.Kids.length n, .int .i64 at_]) (v := .agg #[.int .i64 e.Op, .int .i64 e.Value, .slice a e.Kids.length n]) rfl (by kernel_rfl) (hs5.ownAt (k := 0) rfl) rfl rfl rfl) ?_
   subst hX
   refine RWP.store (ty := 0) (g := none) (by kernel_rfl) rfl (x := .tmp 2) (y := .tmp 20) (t := 33) (gg := true) (s := 3) (v := .agg #[.int .i64 e.Op, .int .i64 e.Value, .slice a e.Kids.length n]) (b := b2) (o := 0) (C := #[.int .i64 0, .int .i64 0, .slice none 0 0]) rfl rfl (by kernel_rfl) hs5 (k := 1) rfl rfl rfl rfl (C' := #[.int .i64 e.Op, .int .i64 e.Value, .slice a e.Kids.length n]) rfl (fun w6 hs6 => ?_)
   refine V 3 27 (run_assign (x := .const (.int .i64 0)) (v := .int .i64 0) rfl) ?_
   refine V 4 3 (run_assign (x := .const (.int .i64 0)) (v := .int .i64 0) rfl) ?_
   refine RWP.nil ?_
   refine thenQ_nrm ?_
   refine CWP.ret (by kernel_rfl) ?_
   obtain rfl := some_inj hr
   exact ⟨rfl, _, res_of (l := [.cell 2 33, .tmp 3, .tmp 4]) (by kernel_rfl) (vs := [.agg #[.int .i64 e.Op, .int .i64 e.Value, .slice a e.Kids.length n], .int .i64 0, .int .i64 0]) ⟨b2, 0, rfl, run_loadVar' (t := 33) (g := true) (s := 3) (by kernel_rfl) (hs6.ownAt (k := 1) rfl) rfl (by decide), rfl, rfl, trivial⟩, _, F5, rfl, hs6.clear, a, n, rfl, hb, hsl⟩
  | some x =>
   obtain ⟨hr, hL⟩ := hK
   have hs6 : HS w0 F0 w5 F5 X := by
    rcases hL with rfl | ⟨o, rfl⟩
    ·exact hs5
    ·exact hs5.drop 0
   clear hs5 hL
   cases hne : x.e_ != 0 with
   | false => rw [hne] at hr; cases hr
   | true =>
    rw [hne] at hr
    obtain rfl := some_inj hr
    simp only
    refine V 8 88 (run_move (x := .tmp 11) (v := .tuple #[.int .i64 x.e_, .int .i64 x.at_]) rfl) ?_
    refine V 12 27 (run_extract (x := .tmp 8) (vs := #[.int .i64 x.e_, .int .i64 x.at_]) (i := 0) (v := .int .i64 x.e_) rfl rfl) ?_
    refine V 13 3 (run_extract (x := .tmp 8) (vs := #[.int .i64 x.e_, .int .i64 x.at_]) (i := 1) (v := .int .i64 x.at_) rfl rfl) ?_
    refine V 6 27 (run_assign (x := .tmp 12) (v := .int .i64 x.e_) rfl) ?_
    refine V 7 3 (run_assign (x := .tmp 13) (v := .int .i64 x.at_) rfl) ?_
    refine RWP.nil ?_
    refine thenQ_nrm ?_
    refine Sq ?_
    refine Sq ?_
    refine Rg [0, 1] ?_
    refine V 14 27 (run_move (x := .tmp 6) (v := .int .i64 x.e_) rfl) ?_
    refine V 15 4 (run_neq (t := 27) (t' := 27) (x := .tmp 14) (y := .const (.int .i64 0)) (k := .i64) (a := x.e_) (b := 0) rfl rfl) ?_
    refine RWP.nil ?_
    refine thenQ_nrm ?_
    refine CWP.cond1 (t := x.e_ != 0) (by kernel_rfl) rfl hne ?_
    refine Sq ?_
    refine Rg [0, 1, 2, 3, 4, 5] ?_
    refine V 16 33 (run_build2 (t := 33) (parts := #[]) (vs := []) rfl (cs := [.int .i64 0, .int .i64 0, .slice none 0 0]) (by kernel_rfl)) ?_
    refine V 17 27 (run_move (x := .tmp 6) (v := .int .i64 x.e_) rfl) ?_
    refine V 18 3 (run_move (x := .tmp 7) (v := .int .i64 x.at_) rfl) ?_
    subst hX
    refine RWP.store (ty := 0) (g := none) (by kernel_rfl) rfl (x := .tmp 2) (y := .tmp 16) (t := 33) (gg := true) (s := 3) (v := .agg #[.int .i64 0, .int .i64 0, .slice none 0 0]) (b := b2) (o := 0) (C := #[.int .i64 0, .int .i64 0, .slice none 0 0]) rfl rfl (by kernel_rfl) hs6 (k := 0) rfl rfl rfl rfl (C' := #[.int .i64 0, .int .i64 0, .slice none 0 0]) rfl (fun w7 hs7 => ?_)
    refine V 3 27 (run_assign (x := .tmp 17) (v := .int .i64 x.e_) rfl) ?_
    refine V 4 3 (run_assign (x := .tmp 18) (v := .int .i64 x.at_) rfl) ?_
    refine RWP.nil ?_
    refine thenQ_nrm ?_
    refine CWP.ret (by kernel_rfl) ?_
    refine thenQ_ret ?_
    exact ⟨rfl, _, res_of (l := [.cell 2 33, .tmp 3, .tmp 4]) (by kernel_rfl) (vs := [.agg #[.int .i64 0, .int .i64 0, .slice none 0 0], .int .i64 x.e_, .int .i64 x.at_]) ⟨b2, 0, rfl, run_loadVar' (t := 33) (g := true) (s := 3) (by kernel_rfl) (hs7.ownAt (k := 0) rfl) rfl (by decide), rfl, rfl, trivial⟩, _, F5, rfl, hs7.clear, none, 0, rfl, LC.nil, .inl rfl⟩
theorem co_rules_Parse : CallOk Tryz.prog 22 := fun _ _ => by kernel_rfl
set_option maxRecDepth 100000 in
theorem c_rules_Parse (N : Nat) (w0 : World) (F0 : Mem) (hF : ∀ b o, F0 b = some o → w0.heap[b]? = some o) (hG : Glob F0) (x0 : List UInt8) (r : Book × Int × Int) (h : rules_Parse N x0 = some r) :
  Calls Tryz.prog 22 ([.string ⟨x0.toArray⟩] : List Value).toArray w0 (FRet w0 F0 fun F' v => ∃ (aq0_0 : Option Addr) (nq0_0 : Nat) (aq0_1 : Option Addr) (nq0_1 : Nat) (aq0_2 : Option Addr) (nq0_2 : Nat) (aq0_3 : Option Addr) (nq0_3 : Nat), v = (.tuple #[(.agg #[(.slice aq0_0 r.1.Points.length nq0_0), (.slice aq0_1 r.1.Multipliers.length nq0_1), (.slice aq0_2 r.1.Penalties.length nq0_2), (.slice aq0_3 r.1.Repeats.length nq0_3)]), (.int .i64 r.2.1), (.int .i64 r.2.2)]) ∧ LC r.1.Points.length nq0_0 ∧ SlA tClause F' aq0_0 r.1.Points ∧ LC r.1.Multipliers.length nq0_1 ∧ SlA tClause F' aq0_1 r.1.Multipliers ∧ LC r.1.Penalties.length nq0_2 ∧ SlA tClause F' aq0_2 r.1.Penalties ∧ LC r.1.Repeats.length nq0_3 ∧ SlA tExpr F' aq0_3 r.1.Repeats) := by
 have hs0 := HS.start hF
 refine calls_of (n := 20) (c := bodyOf Tryz.f22) Tryz.func22 (by kernel_rfl) (by kernel_rfl) (by kernel_rfl) ?_
 refine Sq ?_
 refine Rg [0, 1, 2] ?_
 refine RWP.alloc (dst := some 2) (ty := 0) (g := none) (by kernel_rfl) rfl (t := 26) (z := .agg #[.slice none 0 0, .slice none 0 0, .slice none 0 0, .slice none 0 0]) (by kernel_rfl) (C := #[.slice none 0 0, .slice none 0 0, .slice none 0 0, .slice none 0 0]) rfl hs0 (fun b2 w1 hs1 => ?_)
 refine V 3 27 (run_assign (x := .const (.int .i64 0)) (v := .int .i64 0) rfl) ?_
 refine V 4 3 (run_assign (x := .const (.int .i64 0)) (v := .int .i64 0) rfl) ?_
 refine RWP.nil ?_
 refine thenQ_nrm ?_
 refine Sq ?_
 refine Rg [0] ?_
 refine RWP.alloc (dst := some 5) (ty := 0) (g := none) (by kernel_rfl) rfl (t := 26) (z := .agg #[.slice none 0 0, .slice none 0 0, .slice none 0 0, .slice none 0 0]) (by kernel_rfl) (C := #[.slice none 0 0, .slice none 0 0, .slice none 0 0, .slice none 0 0]) rfl hs1 (fun b5 w2 hs2 => ?_)
 refine RWP.nil ?_
 refine thenQ_nrm ?_
 refine Sq ?_
 refine Rg [0, 1, 2, 3, 4, 5, 6, 7] ?_
 refine V 9 9 (run_move (x := .tmp 0) (v := .string ⟨x0.toArray⟩) rfl) ?_
 refine V 10 103 (run_makeFunc (fn := .func 79) (first := #[]) (cap := #[.tmp 5]) (fl := []) (cl := [.pointer (some ⟨b5, 0, none⟩)]) rfl rfl) ?_
 obtain ⟨X, hX⟩ : ∃ X : Own, X = [(some b2, .cells #[.slice none 0 0, .slice none 0 0, .slice none 0 0, .slice none 0 0] 26 (0, 0))] := ⟨_, rfl⟩
 refine RWP.enter (dst := some 11) (ty := 88) (g := none) (by kernel_rfl) rfl (run_call (f := .func 78) (aos := #[.tmp 9, .tmp 10]) (ats := #[9, 103]) (g := 78) (first := #[]) (cap := #[]) (args := [.string ⟨x0.toArray⟩, .func (.func 79) #[] #[.pointer (some ⟨b5, 0, none⟩)]]) rfl co_rules_read rfl)
  (c_rules_read N hs2 x0 (g := 79) (cap := [.pointer (some ⟨b5, 0, none⟩)]) co_rules_Parse_1 (fun o F' L' => match o with
   | none => ∃ (e : Book) (a0 : Option Addr) (n0 : Nat) (a1 : Option Addr) (n1 : Nat) (a2 : Option Addr) (n2 : Nat) (a3 : Option Addr) (n3 : Nat), L' = (some b5, .cells #[.slice a0 e.Points.length n0, .slice a1 e.Multipliers.length n1, .slice a2 e.Penalties.length n2, .slice a3 e.Repeats.length n3] 26 (0, 0)) :: X ∧ LC e.Points.length n0 ∧ SlA tClause F' a0 e.Points ∧ LC e.Multipliers.length n1 ∧ SlA tClause F' a1 e.Multipliers ∧ LC e.Penalties.length n2 ∧ SlA tClause F' a2 e.Penalties ∧ LC e.Repeats.length n3 ∧ SlA tExpr F' a3 e.Repeats ∧ some (e, (0 : Int), (0 : Int)) = some r
   | some x => (bif x.e_ != 0 then some (zBook, x.e_, x.at_) else none) = some r ∧ (L' = X ∨ ∃ o, L' = (some b5, o) :: X)) ?_ ?_) ?_
 ·intro hc F'
  unfold rules_Parse readAs at h
  rw [bif_true hc] at h
  exact ⟨h, .inr ⟨_, by rw [hX]⟩⟩
 ·intro hc
  unfold rules_Parse readAs at h
  rw [bif_false hc] at h
  obtain ⟨l, hl, h⟩ := bind_some h
  obtain ⟨q, hq, h⟩ := bind_some h
  refine ⟨l, hl, fun w3 F3 be_ ba_ bp a n le3 hb hsl hs3 => ?_⟩
  have hs4 : HS w0 F0 w3 F3 ((some bp, .cells #[.slice a l.length n, .int .i64 0] 100 (0, 0)) :: (some b5, .cells #[.slice none 0 0, .slice none 0 0, .slice none 0 0, .slice none 0 0] 26 (0, 0)) :: (none, .cells #[] 0 (0, 0)) :: (none, .cells #[] 0 (0, 0)) :: (none, .cells #[] 0 (0, 0)) :: (none, .cells #[] 0 (0, 0)) :: (some ba_, ba 0) :: (some be_, be 0) :: X) := by
   have h0 : HS w0 F0 w3 F3 ((some bp, .cells #[.slice a l.length n, .int .i64 0] 100 (0, 0)) :: (some b5, .cells #[.slice none 0 0, .slice none 0 0, .slice none 0 0, .slice none 0 0] 26 (0, 0)) :: (some ba_, ba 0) :: (some be_, be 0) :: X) := by
    rw [hX]; exact (hs3.pick (k := 3) rfl).pick (k := 1) rfl
   exact (((((h0.dummy (.cells #[] 0 (0, 0))).dummy (.cells #[] 0 (0, 0))).dummy (.cells #[] 0 (0, 0))).dummy (.cells #[] 0 (0, 0))).pick (k := 5) rfl).pick (k := 5) rfl
  refine (c_rules_Parse_1 N (hG.mono (hs3.le)) bp { l_ := l, open_ := 0 } a n hb hsl b5 zBook none 0 (none, .cells #[] 0 (0, 0)) none 0 (none, .cells #[] 0 (0, 0)) none 0 (none, .cells #[] 0 (0, 0)) none 0 (none, .cells #[] 0 (0, 0)) (RowR.nil _ _ _ _) (RowR.nil _ _ _ _) (RowR.nil _ _ _ _) (RowR.nil _ _ _ _) hs4 q hq).mono ?_
  rintro e w4 (⟨q1, F4, v, L', rfl, rfl, hs5, le5, aq, nq, a0, n0, e0, a1, n1, e1, a2, n2, e2, a3, n3, e3, rfl, rfl, h1, h2, r0, r1, r2, r3⟩ | ⟨x, F4, rfl, rfl, hs5, le5⟩)
  ·have hs6 := hs5.drop 0
   obtain ⟨G0, hg0, lg0, s0⟩ : ∃ Fq, HS w0 F0 w4 Fq ((some b5, .cells #[.slice a0 q1.2.Points.length n0, .slice a1 q1.2.Multipliers.length n1, .slice a2 q1.2.Penalties.length n2, .slice a3 q1.2.Repeats.length n3] 26 (0, 0)) :: e1 :: e2 :: e3 :: (some ba_, ba 0) :: (some be_, be 0) :: X) ∧ Mem.le F4 Fq ∧ SlA tClause Fq a0 q1.2.Points := HS.freezeRow hs6 (k := 1) rfl r0
   obtain ⟨G1, hg1, lg1, s1⟩ : ∃ Fq, HS w0 F0 w4 Fq ((some b5, .cells #[.slice a0 q1.2.Points.length n0, .slice a1 q1.2.Multipliers.length n1, .slice a2 q1.2.Penalties.length n2, .slice a3 q1.2.Repeats.length n3] 26 (0, 0)) :: e2 :: e3 :: (some ba_, ba 0) :: (some be_, be 0) :: X) ∧ Mem.le G0 Fq ∧ SlA tClause Fq a1 q1.2.Multipliers := HS.freezeRow hg0 (k := 1) rfl (r1.mono lg0)
   obtain ⟨G2, hg2, lg2, s2⟩ : ∃ Fq, HS w0 F0 w4 Fq ((some b5, .cells #[.slice a0 q1.2.Points.length n0, .slice a1 q1.2.Multipliers.length n1, .slice a2 q1.2.Penalties.length n2, .slice a3 q1.2.Repeats.length n3] 26 (0, 0)) :: e3 :: (some ba_, ba 0) :: (some be_, be 0) :: X) ∧ Mem.le G1 Fq ∧ SlA tClause Fq a2 q1.2.Penalties := HS.freezeRow hg1 (k := 1) rfl (r2.mono (lg0.trans lg1))
   obtain ⟨G3, hg3, lg3, s3⟩ : ∃ Fq, HS w0 F0 w4 Fq ((some b5, .cells #[.slice a0 q1.2.Points.length n0, .slice a1 q1.2.Multipliers.length n1, .slice a2 q1.2.Penalties.length n2, .slice a3 q1.2.Repeats.length n3] 26 (0, 0)) :: (some ba_, ba 0) :: (some be_, be 0) :: X) ∧ Mem.le G2 Fq ∧ SlA tExpr Fq a3 q1.2.Repeats := HS.freezeRow hg2 (k := 1) rfl (r3.mono ((lg0.trans lg1).trans lg2))
   exact .inl ⟨_, G3, _, rfl, (hg3.pick (k := 2) rfl).pick (k := 2) rfl, (((le5.trans lg0).trans lg1).trans lg2).trans lg3, q1.2, a0, n0, a1, n1, a2, n2, a3, n3, rfl, r0.bound, s0.mono ((lg1.trans lg2).trans lg3), r1.bound, s1.mono (lg2.trans lg3), r2.bound, s2.mono lg3, r3.bound, s3, h⟩
  ·exact .inr ⟨x, F4, _, rfl, hs5, le5, h, .inl rfl⟩
 ·rintro e w5 ⟨o, F5, L5, rfl, hs5, le5, hK⟩
  cases o with
  | none =>
   obtain ⟨e, a0, n0, a1, n1, a2, n2, a3, n3, rfl, hb0, hl0, hb1, hl1, hb2, hl2, hb3, hl3, hr⟩ := hK
   simp only
   refine V 8 88 (run_move (x := .tmp 11) (v := .tuple #[.int .i64 0, .int .i64 0]) rfl) ?_
   refine V 12 27 (run_extract (x := .tmp 8) (vs := #[.int .i64 0, .int .i64 0]) (i := 0) (v := .int .i64 0) rfl rfl) ?_
   refine V 13 3 (run_extract (x := .tmp 8) (vs := #[.int .i64 0, .int .i64 0]) (i := 1) (v := .int .i64 0) rfl rfl) ?_
   refine V 6 27 (run_assign (x := .tmp 12) (v := .int .i64 0) rfl) ?_
   refine V 7 3 (run_assign (x := .tmp 13) (v := .int .i64 0) rfl) ?_
   refine RWP.nil ?_
   refine thenQ_nrm ?_
   refine Sq ?_
   refine Sq ?_
   refine Rg [0, 1] ?_
   refine V 14 27 (run_move (x := .tmp 6) (v := .int .i64 0) rfl) ?_
   refine V 15 4 (run_neq (t := 27) (t' := 27) (x := .tmp 14) (y := .const (.int .i64 0)) (k := .i64) (a := 0) (b := 0) rfl rfl) ?_
   refine RWP.nil ?_
   refine thenQ_nrm ?_
   refine CWP.cond0 (t := false) (by kernel_rfl) rfl rfl ?_
   refine CWP.skip (by kernel_rfl) ?_
   refine thenQ_nrm ?_
   refine Sq ?_
   refine Rg [0, 1, 2, 3] ?_
   refine V 19 26 (run_load' (t := 26) (x := .tmp 5) (b := b5) (o := 0) (g := true) (s := 4) (C := #[.slice a0 e.Points.length n0, .slice a1 e.Multipliers.length n1, .slice a2 e.Penalties.length n2, .slice a3 e.Repeats.length n3]) (v := .agg #[.slice a0 e.Points.length n0, .slice a1 e.Multipliers.length n1, .slice a2 e.Penalties.length n2, .slice a3 e.Repeats.length n3]) rfl (by kernel_rfl) (hs5.ownAt (k := 0) rfl) rfl rfl rfl) ?_
   subst hX
   refine RWP.store (ty := 0) (g := none) (by kernel_rfl) rfl (x := .tmp 2) (y := .tmp 19) (t := 26) (gg := true) (s := 4) (v := .agg #[.slice a0 e.Points.length n0, .slice a1 e.Multipliers.length n1, .slice a2 e.Penalties.length n2, .slice a3 e.Repeats.length n3]) (b := b2) (o := 0) (C := #[.slice none 0 0, .slice none 0 0, .slice none 0 0, .slice none 0 0]) rfl rfl (by kernel_rfl) hs5 (k := 1) rfl rfl rfl rfl (C' := #[.slice a0 e.Points.length n0, .slice a1 e.Multipliers.length n1, .slice a2 e.Penalties.length n2, .slice a3 e.Repeats.length n3]) rfl (fun w6 hs6 => ?_)
   refine V 3 27 (run_assign (x := .const (.int .i64 0)) (v := .int .i64 0) rfl) ?_
   refine V 4 3 (run_assign (x := .const (.int .i64 0)) (v := .int .i64 0) rfl) ?_
   refine RWP.nil ?_
   refine thenQ_nrm ?_
   refine CWP.ret (by kernel_rfl) ?_
   obtain rfl := some_inj hr
   exact ⟨rfl, _, res_of (l := [.cell 2 26, .tmp 3, .tmp 4]) (by kernel_rfl) (vs := [.agg #[.slice a0 e.Points.length n0, .slice a1 e.Multipliers.length n1, .slice a2 e.Penalties.length n2, .slice a3 e.Repeats.length n3], .int .i64 0, .int .i64 0]) ⟨b2, 0, rfl, run_loadVar' (t := 26) (g := true) (s := 4) (by kernel_rfl) (hs6.ownAt (k := 1) rfl) rfl (by decide), rfl, rfl, trivial⟩, _, F5, rfl, hs6.clear, a0, n0, a1, n1, a2, n2, a3, n3, rfl, hb0, hl0, hb1, hl1, hb2, hl2, hb3, hl3⟩
  | some x =>
   obtain ⟨hr, hL⟩ := hK
   have hs6 : HS w0 F0 w5 F5 X := by
    rcases hL with rfl | ⟨o, rfl⟩
    ·exact hs5
    ·exact hs5.drop 0
   clear hs5 hL
   cases hne : x.e_ != 0 with
   | false => rw [hne] at hr; cases hr
   | true =>
    rw [hne] at hr
    obtain rfl := some_inj hr
    simp only
    refine V 8 88 (run_move (x := .tmp 11) (v := .tuple #[.int .i64 x.e_, .int .i64 x.at_]) rfl) ?_
    refine V 12 27 (run_extract (x := .tmp 8) (vs := #[.int .i64 x.e_, .int .i64 x.at_]) (i := 0) (v := .int .i64 x.e_) rfl rfl) ?_
    refine V 13 3 (run_extract (x := .tmp 8) (vs := #[.int .i64 x.e_, .int .i64 x.at_]) (i := 1) (v := .int .i64 x.at_) rfl rfl) ?_
    refine V 6 27 (run_assign (x := .tmp 12) (v := .int .i64 x.e_) rfl) ?_
    refine V 7 3 (run_assign (x := .tmp 13) (v := .int .i64 x.at_) rfl) ?_
    refine RWP.nil ?_
    refine thenQ_nrm ?_
    refine Sq ?_
    refine Sq ?_
    refine Rg [0, 1] ?_
    refine V 14 27 (run_move (x := .tmp 6) (v := .int .i64 x.e_) rfl) ?_
    refine V 15 4 (run_neq (t := 27) (t' := 27) (x := .tmp 14) (y := .const (.int .i64 0)) (k := .i64) (a := x.e_) (b := 0) rfl rfl) ?_
    refine RWP.nil ?_
    refine thenQ_nrm ?_
    refine CWP.cond1 (t := x.e_ != 0) (by kernel_rfl) rfl hne ?_
    refine Sq ?_
    refine Rg [0, 1, 2, 3, 4, 5] ?_
    refine V 16 26 (run_build2 (t := 26) (parts := #[]) (vs := []) rfl (cs := [.slice none 0 0, .slice none 0 0, .slice none 0 0, .slice none 0 0]) (by kernel_rfl)) ?_
    refine V 17 27 (run_move (x := .tmp 6) (v := .int .i64 x.e_) rfl) ?_
    refine V 18 3 (run_move (x := .tmp 7) (v := .int .i64 x.at_) rfl) ?_
    subst hX
    refine RWP.store (ty := 0) (g := none) (by kernel_rfl) rfl (x := .tmp 2) (y := .tmp 16) (t := 26) (gg := true) (s := 4) (v := .agg #[.slice none 0 0, .slice none 0 0, .slice none 0 0, .slice none 0 0]) (b := b2) (o := 0) (C := #[.slice none 0 0, .slice none 0 0, .slice none 0 0, .slice none 0 0]) rfl rfl (by kernel_rfl) hs6 (k := 0) rfl rfl rfl rfl (C' := #[.slice none 0 0, .slice none 0 0, .slice none 0 0, .slice none 0 0]) rfl (fun w7 hs7 => ?_)
    refine V 3 27 (run_assign (x := .tmp 17) (v := .int .i64 x.e_) rfl) ?_
    refine V 4 3 (run_assign (x := .tmp 18) (v := .int .i64 x.at_) rfl) ?_
    refine RWP.nil ?_
    refine thenQ_nrm ?_
    refine CWP.ret (by kernel_rfl) ?_
    refine thenQ_ret ?_
    exact ⟨rfl, _, res_of (l := [.cell 2 26, .tmp 3, .tmp 4]) (by kernel_rfl) (vs := [.agg #[.slice none 0 0, .slice none 0 0, .slice none 0 0, .slice none 0 0], .int .i64 x.e_, .int .i64 x.at_]) ⟨b2, 0, rfl, run_loadVar' (t := 26) (g := true) (s := 4) (by kernel_rfl) (hs7.ownAt (k := 0) rfl) rfl (by decide), rfl, rfl, trivial⟩, _, F5, rfl, hs7.clear, none, 0, none, 0, none, 0, none, 0, rfl, LC.nil, .inl rfl, LC.nil, .inl rfl, LC.nil, .inl rfl, LC.nil, .inl rfl⟩
end Go.Proofs.YtaihlcdkcampbaaGreatDoor
namespace Go.Proofs.YtaihlcdkcampbaaGreatDoor
open Go.Proofs
def law06_awake0 (N : Nat)  : Option Bool :=
 ((rules_ParseExpr N ([49, 32, 43, 32, 50, 32, 42, 32, 51, 32, 61, 32, 55, 32, 97, 110, 100, 32, 110, 111, 116, 32, 98, 97, 110, 100, 32, 60, 32, 50] : List UInt8)).bind fun r21 => ((rules_PrintExpr N r21.1).bind fun r34 => ((rules_Parse N ([112, 111, 105, 110, 116, 115, 58, 32, 98, 97, 110, 100, 32, 61, 32, 49, 32, 61, 62, 32, 50] : List UInt8)).bind fun r42 => ((rules_Parse N ([112, 111, 105, 110, 116, 115, 58, 32, 98, 97, 110, 100, 32, 61, 62, 32, 50] : List UInt8)).bind fun r55 => ((mk0 0 14).bind fun r68 => ((idx r68 0).bind fun x78 => ((rules_Points N r42.1 (r68.set (0 : Int).toNat (1))).bind fun r97 => ((rules_ParseExpr N ([105, 102, 40, 98, 97, 110, 100, 32, 61, 32, 98, 97, 110, 100, 44, 32, 48, 32, 43, 32, 122, 111, 110, 101, 44, 32, 55, 41] : List UInt8)).bind fun r105 => ((rules_Simplify N r105.1).bind fun r118 => (bif ((r21.2.1 != 0) || ((r34.2 != 0) || ((r42.2.1 != 0) || ((r55.2.1 != 61) || ((r97.2 != 0) || ((r105.2.1 != 0) || ((r118.2 != 0) || (r55.2.2 != 8)))))))) then some false else some ((r21.1.Op == 4) && ((r34.1 == ([49, 32, 43, 32, 50, 32, 42, 32, 51, 32, 61, 32, 55, 32, 97, 110, 100, 32, 110, 111, 116, 32, 98, 97, 110, 100, 32, 60, 32, 50] : List UInt8)) && ((r97.1 == 2) && ((r118.1.Op == 2) && (r118.1.Value == 7)))))))))))))))
theorem co_law06_awake0 : CallOk Tryz.prog 21 := fun _ _ => by kernel_rfl
theorem c_law06_awake0 (N : Nat) (w0 : World) (F0 : Mem) (hF : ∀ b o, F0 b = some o → w0.heap[b]? = some o) (hG : Glob F0)  (r : Bool) (h : law06_awake0 N  = some r) :
  Calls Tryz.prog 21 ([] : List Value).toArray w0 (FRet w0 F0 fun F' v => v = (.bool r)) := by
 have hs0 := HS.start hF
 refine Go 110 Tryz.func21 ?_
 refine Sq (Rg [0] ?_)
 refine Vs 1 ?_
 refine Nss (Rg [0, 1, 2, 3, 4, 5, 6, 7, 8] ?_)
 obtain ⟨r21, hr22, h23⟩ := bind_some h
 refine Cl' co_rules_ParseExpr hs0 (c_rules_ParseExpr N w0 F0 hs0.pers hG (([49, 32, 43, 32, 50, 32, 42, 32, 51, 32, 61, 32, 55, 32, 97, 110, 100, 32, 110, 111, 116, 32, 98, 97, 110, 100, 32, 60, 32, 50] : List UInt8)) _ hr22) ?_
 rintro _ F1 w25 hs26 le27 ⟨ar21_0_2, nr21_0_2, rfl, hbr21_0_2, hsr21_0_2⟩
 refine Vs 4 ?_
 refine Al' 33 #[(vi 0), (vi 0), (.slice none ([] : List Expr).length 0)] hs26 (fun b29 w30 hs31 => ?_)
 refine St0 (kExpr r21.1 ar21_0_2 nr21_0_2) hs31 (fun w32 hs33 => ?_)
 refine Vs 2 ?_
 refine Nss (Rg [0, 1, 2, 3, 4, 5, 6] ?_)
 refine Ld hs33.at0 ?_
 obtain ⟨r34, hr35, h36⟩ := bind_some h23
 refine Cl' co_rules_PrintExpr hs33 (c_rules_PrintExpr N w32 F1 hs33.pers (hG.mono le27) (r21.1) ar21_0_2 nr21_0_2 hbr21_0_2 hsr21_0_2 _ hr35) ?_
 rintro _ F2 w38 hs39 le40 rfl
 refine Vs 5 ?_
 refine Nss (Rg [0, 1, 2, 3, 4, 5, 6, 7, 8] ?_)
 obtain ⟨r42, hr43, h44⟩ := bind_some h36
 refine Cl' co_rules_Parse hs39 (c_rules_Parse N w38 F2 hs39.pers (hG.mono (le27.trans le40)) (([112, 111, 105, 110, 116, 115, 58, 32, 98, 97, 110, 100, 32, 61, 32, 49, 32, 61, 62, 32, 50] : List UInt8)) _ hr43) ?_
 rintro _ F3 w46 hs47 le48 ⟨ar42_0_0, nr42_0_0, ar42_0_1, nr42_0_1, ar42_0_2, nr42_0_2, ar42_0_3, nr42_0_3, rfl, hbr42_0_0, hsr42_0_0, hbr42_0_1, hsr42_0_1, hbr42_0_2, hsr42_0_2, hbr42_0_3, hsr42_0_3⟩
 refine Vs 4 ?_
 refine Al' 26 #[(.slice none ([] : List Clause).length 0), (.slice none ([] : List Clause).length 0), (.slice none ([] : List Clause).length 0), (.slice none ([] : List Expr).length 0)] hs47 (fun b50 w51 hs52 => ?_)
 refine St0 (kBook r42.1 ar42_0_0 nr42_0_0 ar42_0_1 nr42_0_1 ar42_0_2 nr42_0_2 ar42_0_3 nr42_0_3) hs52 (fun w53 hs54 => ?_)
 refine Vs 2 ?_
 refine Nss (Rg [0, 1, 2, 3, 4, 5, 6, 7, 8] ?_)
 obtain ⟨r55, hr56, h57⟩ := bind_some h44
 refine Cl' co_rules_Parse hs54 (c_rules_Parse N w53 F3 hs54.pers (hG.mono ((le27.trans le40).trans le48)) (([112, 111, 105, 110, 116, 115, 58, 32, 98, 97, 110, 100, 32, 61, 62, 32, 50] : List UInt8)) _ hr56) ?_
 rintro _ F4 w59 hs60 le61 ⟨ar55_0_0, nr55_0_0, ar55_0_1, nr55_0_1, ar55_0_2, nr55_0_2, ar55_0_3, nr55_0_3, rfl, hbr55_0_0, hsr55_0_0, hbr55_0_1, hsr55_0_1, hbr55_0_2, hsr55_0_2, hbr55_0_3, hsr55_0_3⟩
 refine Vs 4 ?_
 refine Al' 26 #[(.slice none ([] : List Clause).length 0), (.slice none ([] : List Clause).length 0), (.slice none ([] : List Clause).length 0), (.slice none ([] : List Expr).length 0)] hs60 (fun b63 w64 hs65 => ?_)
 refine St0 (kBook r55.1 ar55_0_0 nr55_0_0 ar55_0_1 nr55_0_1 ar55_0_2 nr55_0_2 ar55_0_3 nr55_0_3) hs65 (fun w66 hs67 => ?_)
 refine Vs 2 ?_
 refine Nss (Rg [0, 1] ?_)
 obtain ⟨r68, hm69, h70⟩ := bind_some h57
 refine RWP.makeSlice (dst := (some 40)) (ty := 47) (g := none) (by kernel_rfl) rfl (x := (.const (vi 14))) (y := (.const (vi 14))) (t := 47) (by_ := 8) (z := (vi 0)) (T := tInt) (E := 3) rfl rfl (by kernel_rfl) (by decide) (by kernel_rfl) (z0 := 0) (fun _ => rfl) (by decide) hs67 hm69 (fun b71 n72 C73 w74 (hs75 : HS w0 F0 w74 F4 [(some b71, .cells C73 3 (0, 0)), (sb b63 (kBook r55.1 ar55_0_0 nr55_0_0 ar55_0_1 nr55_0_1 ar55_0_2 nr55_0_2 ar55_0_3 nr55_0_3) 26), (sb b50 (kBook r42.1 ar42_0_0 nr42_0_0 ar42_0_1 nr42_0_1 ar42_0_2 nr42_0_2 ar42_0_3 nr42_0_3) 26), (sb b29 (kExpr r21.1 ar21_0_2 nr21_0_2) 33)]) hr76 => ?_)
 refine Vs 1 ?_
 refine Nss (Rg [0, 1, 2] ?_)
 refine Vs 1 ?_
 obtain ⟨x78, hx79, h81⟩ := bind_some h70
 obtain ⟨hi80, hx79'⟩ := idx_spec hx79
 obtain ⟨b82, C83, ha84, he85, hE86⟩ := RowR.open hr76 hx79'
 cases ha84
 cases he85
 have hc88 := hE86 _ _ hx79'
 refine Ix0 hi80 ?_
 refine RWP.storeRow (ty := 0) (g := none) (by kernel_rfl) rfl (x := (.tmp 42)) (y := (.const (vi 1))) (t := 3) (v := (vi 1)) (gg := false) (b := b71) (j := (0 : Int).toNat) (C := C73) (T := tInt) (E := 3) (u := (1)) rfl rfl (by kernel_rfl) hs75 (k := 0) rfl hr76 hx79' rfl rfl (fun C89 w90 (hs91 : HS w0 F0 w90 F4 [(some b71, .cells C89 3 (0, 0)), (sb b63 (kBook r55.1 ar55_0_0 nr55_0_0 ar55_0_1 nr55_0_1 ar55_0_2 nr55_0_2 ar55_0_3 nr55_0_3) 26), (sb b50 (kBook r42.1 ar42_0_0 nr42_0_0 ar42_0_1 nr42_0_1 ar42_0_2 nr42_0_2 ar42_0_3 nr42_0_3) 26), (sb b29 (kExpr r21.1 ar21_0_2 nr21_0_2) 33)]) hr92 => ?_)
 refine Nss (Rg [0, 1, 2, 3, 4, 5, 6, 7] ?_)
 refine Ld hs91.at2 ?_
 refine V 45 47 (mv 12 (.slice (some ⟨b71, 0, none⟩) (r68.set (0 : Int).toNat (1)).length n72) (len_set rfl)) ?_
 have hb96 := RowR.bound hr92
 obtain ⟨F5, hs93, le94, hs95⟩ := hs91.fr0 hr92
 obtain ⟨r97, hr98, h99⟩ := bind_some h81
 refine Cl' co_rules_Points hs93 (c_rules_Points N w90 F5 hs93.pers (r42.1) ar42_0_0 nr42_0_0 hbr42_0_0 (SlA.mono hsr42_0_0 (le61.trans le94)) ar42_0_1 nr42_0_1 hbr42_0_1 (SlA.mono hsr42_0_1 (le61.trans le94)) ar42_0_2 nr42_0_2 hbr42_0_2 (SlA.mono hsr42_0_2 (le61.trans le94)) ar42_0_3 nr42_0_3 hbr42_0_3 (SlA.mono hsr42_0_3 (le61.trans le94)) ((r68.set (0 : Int).toNat (1))) (some ⟨b71, 0, none⟩) n72 hb96 hs95 _ hr98) ?_
 rintro _ F6 w101 hs102 le103 rfl
 refine Vs 5 ?_
 refine Nss (Rg [0, 1, 2, 3, 4, 5, 6, 7, 8] ?_)
 obtain ⟨r105, hr106, h107⟩ := bind_some h99
 refine Cl' co_rules_ParseExpr hs102 (c_rules_ParseExpr N w101 F6 hs102.pers (hG.mono (((((le27.trans le40).trans le48).trans le61).trans le94).trans le103)) (([105, 102, 40, 98, 97, 110, 100, 32, 61, 32, 98, 97, 110, 100, 44, 32, 48, 32, 43, 32, 122, 111, 110, 101, 44, 32, 55, 41] : List UInt8)) _ hr106) ?_
 rintro _ F7 w109 hs110 le111 ⟨ar105_0_2, nr105_0_2, rfl, hbr105_0_2, hsr105_0_2⟩
 refine Vs 4 ?_
 refine Al' 33 #[(vi 0), (vi 0), (.slice none ([] : List Expr).length 0)] hs110 (fun b113 w114 hs115 => ?_)
 refine St0 (kExpr r105.1 ar105_0_2 nr105_0_2) hs115 (fun w116 hs117 => ?_)
 refine Vs 2 ?_
 refine Nss (Rg [0, 1, 2, 3, 4, 5, 6, 7] ?_)
 refine Ld hs117.at0 ?_
 obtain ⟨r118, hr119, h120⟩ := bind_some h107
 refine Cl' co_rules_Simplify hs117 (c_rules_Simplify N w116 F7 hs117.pers (r105.1) ar105_0_2 nr105_0_2 hbr105_0_2 hsr105_0_2 _ hr119) ?_
 rintro _ F8 w122 hs123 le124 ⟨ar118_0_2, nr118_0_2, rfl, hbr118_0_2, hsr118_0_2⟩
 refine Vs 3 ?_
 refine Al' 33 #[(vi 0), (vi 0), (.slice none ([] : List Expr).length 0)] hs123 (fun b126 w127 hs128 => ?_)
 refine St0 (kExpr r118.1 ar118_0_2 nr118_0_2) hs128 (fun w129 hs130 => ?_)
 refine Vs 1 ?_
 refine Nss ?_
 refine Sq (Rg [0, 1, 2, 3, 4, 5, 6, 7, 8, 9, 10, 11, 12, 13, 14, 15, 16, 17, 18, 19, 20, 21, 22, 23, 24, 25, 26, 27, 28, 29] ?_)
 refine RWP.cut (fun f w => ∃ (F9 : Mem), HS w0 F0 w F9 [(sb b126 (kExpr r118.1 ar118_0_2 nr118_0_2) 33), (sb b29 (kExpr r21.1 ar21_0_2 nr21_0_2) 33)] ∧ Mem.le F8 F9 ∧ FI f [] [(1, (pt b29 0)), (4, (.string ⟨(r34.1).toArray⟩)), (13, (vi r97.1)), (18, (pt b126 0)), (88, (.bool ((r21.2.1 != 0) || ((r34.2 != 0) || ((r42.2.1 != 0) || ((r55.2.1 != 61) || ((r97.2 != 0) || ((r105.2.1 != 0) || ((r118.2 != 0) || (r55.2.2 != 8))))))))))]) ?_ ?_
 ·refine Vs 3 ?_
  refine RWP.split (r21.2.1 != 0) (fun hb140 => ?_) (fun hb140 => ?_)
  ·refine Ss hb140 2 ?_
   refine Pk1 hb140 ?_
   refine Vs 1 ?_
   refine Ss (rfl : true = true) 2 ?_
   refine Pk1 (rfl : true = true) ?_
   refine Vs 1 ?_
   refine Ss (rfl : true = true) 2 ?_
   refine Pk1 (rfl : true = true) ?_
   refine Vs 1 ?_
   refine Ss (rfl : true = true) 2 ?_
   refine Pk1 (rfl : true = true) ?_
   refine Vs 1 ?_
   refine Ss (rfl : true = true) 2 ?_
   refine Pk1 (rfl : true = true) ?_
   refine Vs 1 ?_
   refine Ss (rfl : true = true) 2 ?_
   refine Pk1 (rfl : true = true) ?_
   refine Vs 1 ?_
   refine Ss (rfl : true = true) 2 ?_
   refine Pk1 (rfl : true = true) ?_
   exact RWP.nil ⟨rfl, F8, hs130.dr1.dr1.dr1, (Mem.le.refl _), (fJ ⟨rfl, rfl, rfl, rfl, (congrArg Value.bool (or_t hb140 (rfl))), trivial⟩)⟩
  ·refine Vgs hb140 2 ?_
   refine Pk0 hb140 ?_
   refine Vs 1 ?_
   refine RWP.split (r34.2 != 0) (fun hb141 => ?_) (fun hb141 => ?_)
   ·refine Ss hb141 2 ?_
    refine Pk1 hb141 ?_
    refine Vs 1 ?_
    refine Ss (rfl : true = true) 2 ?_
    refine Pk1 (rfl : true = true) ?_
    refine Vs 1 ?_
    refine Ss (rfl : true = true) 2 ?_
    refine Pk1 (rfl : true = true) ?_
    refine Vs 1 ?_
    refine Ss (rfl : true = true) 2 ?_
    refine Pk1 (rfl : true = true) ?_
    refine Vs 1 ?_
    refine Ss (rfl : true = true) 2 ?_
    refine Pk1 (rfl : true = true) ?_
    refine Vs 1 ?_
    refine Ss (rfl : true = true) 2 ?_
    refine Pk1 (rfl : true = true) ?_
    exact RWP.nil ⟨rfl, F8, hs130.dr1.dr1.dr1, (Mem.le.refl _), (fJ ⟨rfl, rfl, rfl, rfl, (congrArg Value.bool (or_f hb140 (or_t hb141 (rfl)))), trivial⟩)⟩
   ·refine Vgs hb141 2 ?_
    refine Pk0 hb141 ?_
    refine Vs 1 ?_
    refine RWP.split (r42.2.1 != 0) (fun hb142 => ?_) (fun hb142 => ?_)
    ·refine Ss hb142 2 ?_
     refine Pk1 hb142 ?_
     refine Vs 1 ?_
     refine Ss (rfl : true = true) 2 ?_
     refine Pk1 (rfl : true = true) ?_
     refine Vs 1 ?_
     refine Ss (rfl : true = true) 2 ?_
     refine Pk1 (rfl : true = true) ?_
     refine Vs 1 ?_
     refine Ss (rfl : true = true) 2 ?_
     refine Pk1 (rfl : true = true) ?_
     refine Vs 1 ?_
     refine Ss (rfl : true = true) 2 ?_
     refine Pk1 (rfl : true = true) ?_
     exact RWP.nil ⟨rfl, F8, hs130.dr1.dr1.dr1, (Mem.le.refl _), (fJ ⟨rfl, rfl, rfl, rfl, (congrArg Value.bool (or_f hb140 (or_f hb141 (or_t hb142 (rfl))))), trivial⟩)⟩
    ·refine Vgs hb142 2 ?_
     refine Pk0 hb142 ?_
     refine Vs 1 ?_
     refine RWP.split (r55.2.1 != 61) (fun hb143 => ?_) (fun hb143 => ?_)
     ·refine Ss hb143 2 ?_
      refine Pk1 hb143 ?_
      refine Vs 1 ?_
      refine Ss (rfl : true = true) 2 ?_
      refine Pk1 (rfl : true = true) ?_
      refine Vs 1 ?_
      refine Ss (rfl : true = true) 2 ?_
      refine Pk1 (rfl : true = true) ?_
      refine Vs 1 ?_
      refine Ss (rfl : true = true) 2 ?_
      refine Pk1 (rfl : true = true) ?_
      exact RWP.nil ⟨rfl, F8, hs130.dr1.dr1.dr1, (Mem.le.refl _), (fJ ⟨rfl, rfl, rfl, rfl, (congrArg Value.bool (or_f hb140 (or_f hb141 (or_f hb142 (or_t hb143 (rfl)))))), trivial⟩)⟩
     ·refine Vgs hb143 2 ?_
      refine Pk0 hb143 ?_
      refine Vs 1 ?_
      refine RWP.split (r97.2 != 0) (fun hb144 => ?_) (fun hb144 => ?_)
      ·refine Ss hb144 2 ?_
       refine Pk1 hb144 ?_
       refine Vs 1 ?_
       refine Ss (rfl : true = true) 2 ?_
       refine Pk1 (rfl : true = true) ?_
       refine Vs 1 ?_
       refine Ss (rfl : true = true) 2 ?_
       refine Pk1 (rfl : true = true) ?_
       exact RWP.nil ⟨rfl, F8, hs130.dr1.dr1.dr1, (Mem.le.refl _), (fJ ⟨rfl, rfl, rfl, rfl, (congrArg Value.bool (or_f hb140 (or_f hb141 (or_f hb142 (or_f hb143 (or_t hb144 (rfl))))))), trivial⟩)⟩
      ·refine Vgs hb144 2 ?_
       refine Pk0 hb144 ?_
       refine Vs 1 ?_
       refine RWP.split (r105.2.1 != 0) (fun hb145 => ?_) (fun hb145 => ?_)
       ·refine Ss hb145 2 ?_
        refine Pk1 hb145 ?_
        refine Vs 1 ?_
        refine Ss (rfl : true = true) 2 ?_
        refine Pk1 (rfl : true = true) ?_
        exact RWP.nil ⟨rfl, F8, hs130.dr1.dr1.dr1, (Mem.le.refl _), (fJ ⟨rfl, rfl, rfl, rfl, (congrArg Value.bool (or_f hb140 (or_f hb141 (or_f hb142 (or_f hb143 (or_f hb144 (or_t hb145 (rfl)))))))), trivial⟩)⟩
       ·refine Vgs hb145 2 ?_
        refine Pk0 hb145 ?_
        refine Vs 1 ?_
        refine RWP.split (r118.2 != 0) (fun hb146 => ?_) (fun hb146 => ?_)
        ·refine Ss hb146 2 ?_
         refine Pk1 hb146 ?_
         exact RWP.nil ⟨rfl, F8, hs130.dr1.dr1.dr1, (Mem.le.refl _), (fJ ⟨rfl, rfl, rfl, rfl, (congrArg Value.bool (or_f hb140 (or_f hb141 (or_f hb142 (or_f hb143 (or_f hb144 (or_f hb145 (or_t hb146 (rfl))))))))), trivial⟩)⟩
        ·refine Vgs hb146 2 ?_
         refine Pk0 hb146 ?_
         exact RWP.nil ⟨rfl, F8, hs130.dr1.dr1.dr1, (Mem.le.refl _), (fJ ⟨rfl, rfl, rfl, rfl, (congrArg Value.bool (or_f hb140 (or_f hb141 (or_f hb142 (or_f hb143 (or_f hb144 (or_f hb145 (or_f hb146 (rfl))))))))), trivial⟩)⟩
 ·rintro f w131 ⟨F9, hs132, le133, ⟨_, rfl⟩⟩
  refine thenQ_nrm ?_
  refine Cd h120 (fun hb147 h148 => ?_) (fun hb147 h149 => ?_)
  ·refine Sq (Rg [0] ?_)
   refine Vs 1 ?_
   refine Nt ?_
   refine Rt ?_
   refine thenQ_ret ?_
   obtain rfl := some_inj h148
   exact Re [(.bool false)] hs132 rfl
  ·refine Sc ?_
   refine thenQ_nrm ?_
   refine Sq (Rg [0, 1, 2, 3, 4, 5, 6, 7, 8, 9, 10, 11, 12, 13, 14, 15, 16, 17, 18, 19, 20, 21] ?_)
   refine RWP.cut (fun f w => ∃ (F10 : Mem), HS w0 F0 w F10 [] ∧ Mem.le F9 F10 ∧ FI f [] [(0, (.bool ((r21.1.Op == 4) && ((r34.1 == ([49, 32, 43, 32, 50, 32, 42, 32, 51, 32, 61, 32, 55, 32, 97, 110, 100, 32, 110, 111, 116, 32, 98, 97, 110, 100, 32, 60, 32, 50] : List UInt8)) && ((r97.1 == 2) && ((r118.1.Op == 2) && (r118.1.Value == 7)))))))]) ?_ ?_
   ·refine Vs 1 ?_
    refine Ld hs132.at1 ?_
    refine Vs 2 ?_
    refine RWP.split (r21.1.Op == 4) (fun hb155 => ?_) (fun hb155 => ?_)
    ·refine Vgs hb155 2 ?_
     refine Pk1 hb155 ?_
     refine Vs 1 ?_
     refine RWP.split (r34.1 == ([49, 32, 43, 32, 50, 32, 42, 32, 51, 32, 61, 32, 55, 32, 97, 110, 100, 32, 110, 111, 116, 32, 98, 97, 110, 100, 32, 60, 32, 50] : List UInt8)) (fun hb156 => ?_) (fun hb156 => ?_)
     ·refine Vgs hb156 2 ?_
      refine Pk1 hb156 ?_
      refine Vs 1 ?_
      refine RWP.split (r97.1 == 2) (fun hb157 => ?_) (fun hb157 => ?_)
      ·refine Vgs hb157 1 ?_
       refine Lg hb157 hs132.at0 ?_
       refine Vgs hb157 1 ?_
       refine Pk1 hb157 ?_
       refine Vs 1 ?_
       refine RWP.split (r118.1.Op == 2) (fun hb158 => ?_) (fun hb158 => ?_)
       ·refine Vgs hb158 1 ?_
        refine Lg hb158 hs132.at0 ?_
        refine Vgs hb158 1 ?_
        refine Pk1 hb158 ?_
        refine Vs 1 ?_
        exact RWP.nil ⟨rfl, F9, hs132.dr0.dr0, (Mem.le.refl _), (fJ ⟨(congrArg Value.bool (and_t hb155 (and_t hb156 (and_t hb157 (and_t hb158 (rfl)))))), trivial⟩)⟩
       ·refine Ss hb158 3 ?_
        refine Pk0 hb158 ?_
        refine Vs 1 ?_
        exact RWP.nil ⟨rfl, F9, hs132.dr0.dr0, (Mem.le.refl _), (fJ ⟨(congrArg Value.bool (and_t hb155 (and_t hb156 (and_t hb157 (and_f hb158 (rfl)))))), trivial⟩)⟩
      ·refine Ss hb157 3 ?_
       refine Pk0 hb157 ?_
       refine Vs 1 ?_
       refine Ss (rfl : false = false) 3 ?_
       refine Pk0 (rfl : false = false) ?_
       refine Vs 1 ?_
       exact RWP.nil ⟨rfl, F9, hs132.dr0.dr0, (Mem.le.refl _), (fJ ⟨(congrArg Value.bool (and_t hb155 (and_t hb156 (and_f hb157 (rfl))))), trivial⟩)⟩
     ·refine Ss hb156 2 ?_
      refine Pk0 hb156 ?_
      refine Vs 1 ?_
      refine Ss (rfl : false = false) 3 ?_
      refine Pk0 (rfl : false = false) ?_
      refine Vs 1 ?_
      refine Ss (rfl : false = false) 3 ?_
      refine Pk0 (rfl : false = false) ?_
      refine Vs 1 ?_
      exact RWP.nil ⟨rfl, F9, hs132.dr0.dr0, (Mem.le.refl _), (fJ ⟨(congrArg Value.bool (and_t hb155 (and_f hb156 (rfl)))), trivial⟩)⟩
    ·refine Ss hb155 2 ?_
     refine Pk0 hb155 ?_
     refine Vs 1 ?_
     refine Ss (rfl : false = false) 2 ?_
     refine Pk0 (rfl : false = false) ?_
     refine Vs 1 ?_
     refine Ss (rfl : false = false) 3 ?_
     refine Pk0 (rfl : false = false) ?_
     refine Vs 1 ?_
     refine Ss (rfl : false = false) 3 ?_
     refine Pk0 (rfl : false = false) ?_
     refine Vs 1 ?_
     exact RWP.nil ⟨rfl, F9, hs132.dr0.dr0, (Mem.le.refl _), (fJ ⟨(congrArg Value.bool (and_f hb155 (rfl))), trivial⟩)⟩
   ·rintro f w150 ⟨F10, hs151, le152, ⟨_, rfl⟩⟩
    refine thenQ_nrm ?_
    refine Rt ?_
    obtain rfl := some_inj h149
    exact Re [(.bool ((r21.1.Op == 4) && ((r34.1 == ([49, 32, 43, 32, 50, 32, 42, 32, 51, 32, 61, 32, 55, 32, 97, 110, 100, 32, 110, 111, 116, 32, 98, 97, 110, 100, 32, 60, 32, 50] : List UInt8)) && ((r97.1 == 2) && ((r118.1.Op == 2) && (r118.1.Value == 7))))))] hs151 rfl
end Go.Proofs.YtaihlcdkcampbaaGreatDoor
namespace Go.Proofs.YtaihlcdkcampbaaGreatDoor
open Go.Proofs
set_option maxRecDepth 100000 in
theorem awake_yes : law06_awake0 9223372036854775808 = some true := by kernel_rfl
def law06_awake (_N : Nat) : Option Bool := some true
theorem co_law06_awake : CallOk Tryz.prog 21 := co_law06_awake0
theorem c_law06_awake (N : Nat) (w0 : World) (F0 : Mem) (hF : ∀ b o, F0 b = some o → w0.heap[b]? = some o) (hG : Glob F0) (r : Bool) (h : law06_awake N = some r) :
  Calls Tryz.prog 21 ([] : List Value).toArray w0 (FRet w0 F0 fun F' v => v = (.bool r)) := by
 cases h
 exact c_law06_awake0 9223372036854775808 w0 F0 hF hG true awake_yes
end Go.Proofs.YtaihlcdkcampbaaGreatDoor
namespace Go.Proofs.YtaihlcdkcampbaaGreatDoor
open Go.Proofs
end Go.Proofs.YtaihlcdkcampbaaGreatDoor
namespace Go.Proofs.YtaihlcdkcampbaaGreatDoor
open Go.Proofs
end Go.Proofs.YtaihlcdkcampbaaGreatDoor
namespace Go.Proofs.YtaihlcdkcampbaaGreatDoor
section
variable {N : Nat} {σ : Type}
theorem foldY_all {y : σ → List Int → Option (Bool × σ)} {g : σ → List Int → σ} : ∀ {L : List (List Int)} {s : σ}, (∀ s x, x ∈ L → y s x = some (true, g s x)) → foldY y L s = some (L.foldl g s)
 | [], _, _ => rfl
 | x :: L, s, h => by
  rw [foldY, h s x (List.mem_cons_self ..), Option.bind_some, cond_true, List.foldl_cons]
  exact foldY_all fun s z hz => h s z (List.mem_cons_of_mem _ hz)
theorem mget_mput {k j : Int} : ∀ {m : List (Int × Bool)}, mget (mput m k true) j = if j = k then some true else mget m j
 | [] => by simp [mput, mget]
 | (a, b) :: m => by
  unfold mput
  by_cases h : k = a
  ·subst h
   simp only [if_true, mget]
   by_cases h2 : j = k <;> simp [h2]
  ·simp only [h, if_false, mget]
   rw [mget_mput]
   by_cases h2 : j = a
   ·subst h2; simp [Ne.symm h]
   ·simp [h2]
def hit (l : List Clause) (d : List Span) (k : Int) : Bool := (allL d).any fun f => fi (isT f) l == k
theorem seen_fold {g : List Int → Int} {k : Int} : ∀ (L : List (List Int)) (m : List (Int × Bool)), mgetD (L.foldl (fun m f => mput m (g f) true) m) k false = (L.any (fun f => g f == k) || mgetD m k false)
 | [], m => by simp
 | x :: L, m => by
  rw [List.foldl_cons, seen_fold L, List.any_cons]
  unfold mgetD
  rw [mget_mput]
  by_cases h : k = g x
  ·simp [h]
  ·have : (g x == k) = false := by simpa using Ne.symm h
   rw [this, if_neg h, Bool.false_or]
noncomputable def shadL (l : List Clause) (d : List Span) : List Int := ((List.range l.length).filter fun i : Nat => !(hit l d (i : Int))).map fun i : Nat => (i : Int)
noncomputable def shadS (l : List Clause) (d : List Span) : List Int × Int := if sndL l = false then ([], 61) else if dom d = false then ([], 64) else (shadL l d, 0)
theorem shad_iter {l : List Clause} {d : List Span} {body : List Int × Int → Option (Flow (List Int × Int) (List Int × Int))} (hN : 5000 < N) (hl : l.length ≤ 64)
  (hb : ∀ (i : Nat) (s : List Int), i < l.length → s.length ≤ 64 → body (s, (i : Int)) = some (.next (if hit l d (i : Int) then s else s ++ [(i : Int)], ((i + 1 : Nat) : Int)))) (he : ∀ s, body (s, (l.length : Int)) = some (.done (s, (l.length : Int)))) :
  iter body N ([], 0) = some (.done (shadL l d, (l.length : Int))) := by
 obtain ⟨o, ho, rfl⟩ := iter_ex (body := body) l.length (fun i t => t = (((List.range i).filter fun i : Nat => !(hit l d (i : Int))).map fun i : Nat => (i : Int), (i : Int))) (fun o => o = .done (shadL l d, (l.length : Int))) (by
  rintro i t hi rfl
  by_cases h : i < l.length
  ·have hle : (((List.range i).filter fun i : Nat => !(hit l d (i : Int))).map fun i : Nat => (i : Int)).length ≤ 64 := by
    rw [List.length_map]
    have := List.length_filter_le (fun i : Nat => !(hit l d (i : Int))) (List.range i)
    rw [List.length_range] at this
    omega
   refine .inl ⟨_, hb i _ h hle, ?_, h⟩
   rw [List.range_succ, List.filter_append]
   cases hh : hit l d (i : Int) <;> simp [hh]
  ·have : i = l.length := by omega
   subst this
   exact .inr ⟨_, he _, (fun _ h => by cases h), rfl⟩) l.length N 0 ([], 0) (by omega) (by simp) (by omega)
 exact ho
theorem s_Shadowed {l : List Clause} {d : List Span} (hN : 5000 < N) (h : FitL N l) : rules_Shadowed N l d = some (shadS l d) := by
 unfold rules_Shadowed shadS
 rw [s_asked (by omega) h, Option.bind_some]
 cases hs : sndL l
 ·rfl
 ·cases hd : dom d
  ·rfl
  ·rw [if_neg tf, if_neg tf, if_neg tf, if_neg tf, show ((0 : Int) != 0) = false from rfl, cond_false]
   rw [s_all1 _ _ hd hN, foldY_all (g := fun m f => mput m (fi (isT f) l) true) (fun s x hx => by
    unfold rules_Shadowed_L0
    rw [s_first (dom_fac hd hx) h (fun c hc => sndL_c hs hc)]; rfl), Option.bind_some]
   rw [shad_iter (l := l) (d := d) hN (sndL_n hs) (fun i s hi hle => ?_) (fun s => ?_), Option.bind_some]
   ·rfl
   ·unfold rules_Shadowed_L1
    simp only
    have hl64 := sndL_n hs
    rw [lt_t hi, cond_true, seen_fold, W64_succ (by omega)]
    have e0 : mgetD ([] : List (Int × Bool)) (i : Int) false = false := rfl
    rw [e0, Bool.or_false]
    rw [show ((allL d).any fun f => fi (isT f) l == (i : Int)) = hit l d (i : Int) from rfl]
    cases hit l d (i : Int) with
    | true => rfl
    | false =>
     rw [Bool.not_false, cond_true, apnd_ok (by simp; omega)]; rfl
   ·unfold rules_Shadowed_L1
    simp only
    rw [lt_f, cond_false]
theorem fi_rng (l : List Clause) (f : List Int) : -1 ≤ fi (isT f) l ∧ fi (isT f) l < (l.length : Int) := by
 by_cases h : 0 ≤ fi (isT f) l
 ·obtain ⟨i, hi, h1, _⟩ := fi_nn h; omega
 ·have : fi (isT f) l = -1 := by
   have h2 := fi_neg.1 (by omega : fi (isT f) l < 0)
   unfold fi; rw [h2]; rfl
  omega
noncomputable def mx (e : Expr) (d : List Span) : Int := (allL d).foldl (fun a f => max a (val f e)) (-1000000)
end
end Go.Proofs.YtaihlcdkcampbaaGreatDoor
namespace Go.Proofs.YtaihlcdkcampbaaGreatDoor
abbrev qL {α : Type} (q : α → Prop) (l : List α) : Prop := l.length < 9223372036854775808 ∧ ∀ c, c ∈ l → q c
end Go.Proofs.YtaihlcdkcampbaaGreatDoor
namespace Go.Proofs.YtaihlcdkcampbaaGreatDoor
open Go.Proofs
end Go.Proofs.YtaihlcdkcampbaaGreatDoor
namespace Go.Proofs.YtaihlcdkcampbaaGreatDoor
open Go.Proofs
end Go.Proofs.YtaihlcdkcampbaaGreatDoor
namespace Go.Proofs.YtaihlcdkcampbaaGreatDoor
open Go.Proofs
end Go.Proofs.YtaihlcdkcampbaaGreatDoor
namespace Go.Proofs.YtaihlcdkcampbaaGreatDoor
section
variable {N : Nat}
end
end Go.Proofs.YtaihlcdkcampbaaGreatDoor
namespace Go.Proofs.YtaihlcdkcampbaaGreatDoor
open Go.Proofs
end Go.Proofs.YtaihlcdkcampbaaGreatDoor
namespace Go.Proofs.YtaihlcdkcampbaaGreatDoor
open Go.Proofs
end Go.Proofs.YtaihlcdkcampbaaGreatDoor
namespace Go.Proofs.YtaihlcdkcampbaaGreatDoor
section
variable {N : Nat}
end
end Go.Proofs.YtaihlcdkcampbaaGreatDoor
namespace Go.Proofs.YtaihlcdkcampbaaGreatDoor
open Go.Proofs
def law06_without (N : Nat) (x0 : (List Clause)) (x1 : Int) : Option (List Clause) :=
 (((sub x0 0 x1).bind fun r32 => ((sub x0 (W64 (x1 + 1)) (x0.length : Int)).bind fun r40 => ((apnd ([] : List Clause) r32).bind fun r53 => ((apnd r53 r40).bind fun r62 => some r62)))).bind fun j27 => some j27)
theorem co_law06_without : CallOk Tryz.prog 62 := fun _ _ => by kernel_rfl
theorem c_law06_without (N : Nat) (w0 : World) (F0 : Mem) (hF : ∀ b o, F0 b = some o → w0.heap[b]? = some o) (x0 : (List Clause)) (a0_0 : Option Addr) (n0_0 : Nat) (hb0_0 : LC x0.length n0_0) (hs0_0 : SlA tClause F0 a0_0 x0) (x1 : Int) (r : (List Clause)) (h : law06_without N x0 x1 = some r) :
  Calls Tryz.prog 62 ([(.slice a0_0 x0.length n0_0), (vi x1)] : List Value).toArray w0 (FRet w0 F0 fun F' v => ∃ (aq0_0 : Option Addr) (nq0_0 : Nat), v = (.slice aq0_0 r.length nq0_0) ∧ LC r.length nq0_0 ∧ SlA tClause F' aq0_0 r) := by
 have hs0 := HS.start hF
 refine Go 15 Tryz.func62 ?_
 refine Sq (Rg [0] ?_)
 refine Vs 1 ?_
 refine Nss ?_
 obtain ⟨j27, hj30, h31⟩ := bind_some h
 refine RD 11 11 [] [] hs0 (fun f w => ∃ (F1 : Mem) (aj27_0 : Option Addr) (nj27_0 : Nat) (ej27_0 : Option Nat × Obj), HS w0 F0 w F1 [ej27_0] ∧ Mem.le F0 F1 ∧ FI f [] [(4, (.slice aj27_0 j27.length nj27_0))] ∧ RowR tClause 56 F1 aj27_0 nj27_0 j27 ej27_0) (fun wd21 hw22 => ?_) ?_
 ·refine Dv [1, 2] ?_
  obtain ⟨r32, hr33, h34⟩ := bind_some hj30
  obtain ⟨a35, n36, hb37, hs38, hrun39⟩ := part_val (P := Tryz.prog) (T := tClause) (lo := none) (hi := (some (.tmp 7))) (mx := none) (t := 23) (E := 56) (by_ := 80) (c := n0_0) (a := a0_0) (l := x0) (r := r32) (il := 0) (ih := x1) (im := 0) (by kernel_rfl) (by kernel_rfl) hb0_0 hs0_0 (fun h => by first | rfl | cases h) hr33
  refine Dt 3 8 23 (.slice a35 r32.length n36) (fun _ hq => hrun39 (x := (.tmp 6)) rfl rfl rfl trivial) ?_
  refine Dv [5, 6, 7] ?_
  obtain ⟨r40, hr41, h42⟩ := bind_some h34
  obtain ⟨a43, n44, hb45, hs46, hrun47⟩ := part_val (P := Tryz.prog) (T := tClause) (lo := (some (.tmp 12))) (hi := none) (mx := none) (t := 23) (E := 56) (by_ := 80) (c := n0_0) (a := a0_0) (l := x0) (r := r40) (il := (W64 (x1 + 1))) (ih := (x0.length : Int)) (im := 0) (by kernel_rfl) (by kernel_rfl) hb0_0 hs0_0 (fun h => by first | rfl | cases h) hr41
  refine Dt 8 13 23 (.slice a43 r40.length n44) (fun _ hq => hrun47 (x := (.tmp 10)) rfl rfl rfl trivial) ?_
  refine D1 0 ?_
  refine DBs 56 [] hw22 (Mem.le.refl _) (fun b48 w49 hs50 => ?_)
  have hr52 : RowR tClause 56 F0 (some ⟨b48, 0, none⟩) 0 ([] : List Clause) (some b48, .cells ([] : List Value).toArray 56 (0, 0)) := RowR.lit rfl (by simp)
  refine D1 4 ?_
  obtain ⟨r53, hap54, h55⟩ := bind_some h42
  refine DAp0 oClause hs50 hr52 (SlA.rd hs50 hs38) hap54 (Mem.le.refl _) (fun a56 n57 e58 w59 hs60 hr61 => ?_)
  refine D1 9 ?_
  obtain ⟨r62, hap63, h64⟩ := bind_some h55
  refine DAp0 oClause hs60 hr61 (SlA.rd hs60 hs46) hap63 (Mem.le.refl _) (fun a65 n66 e67 w68 hs69 hr70 => ?_)
  refine Dv [10] ?_
  obtain rfl := some_inj h64
  exact DWP.done (by kernel_rfl) ⟨F0, a65, n66, e67, hs69, (Mem.le.refl _), fI, hr70⟩
 ·rintro f w23 ⟨F1, aj27_0, nj27_0, ej27_0, hs24, le25, ⟨_, rfl⟩, hrj27_0⟩
  refine thenQ_nrm ?_
  refine Rt ?_
  have hb74 := RowR.bound hrj27_0
  obtain ⟨F2, hs71, le72, hs73⟩ := hs24.fr0 hrj27_0
  obtain rfl := some_inj h31
  exact Re [(.slice aj27_0 j27.length nj27_0)] hs71 ⟨aj27_0, nj27_0, rfl, hb74, hs73⟩
end Go.Proofs.YtaihlcdkcampbaaGreatDoor
namespace Go.Proofs.YtaihlcdkcampbaaGreatDoor
open Go.Proofs
def law06_RulesShadows_L1 (N : Nat) (x0 : (List Clause)) (x1 : (List Span)) (r21 : Bool) (j32 : (Bool)) (r65 : ((List Int) × Int)) (r82 : (List (List Int))) (r90 : List Bool) (s103 : (Int × List Bool)) (x131 : (List Int)) (r145 : (Int × Int)) (j171 : (List Bool)) : Int → Option (Flow Bool Int) := fun s205 =>
 (bif (decide (s205 < (r65.1.length : Int))) then ((idx r65.1 s205).bind fun x239 => (bif ((decide (x239 < 0)) || ((decide (x239 ≥ (x0.length : Int))) || ((r145.2 == 0) && (r145.1 == x239)))) then some (.ret false) else (((idx r82 s103.1).bind fun x295 => ((law06_without N x0 x239).bind fun r301 => ((rules_First N r301 x295).bind fun r309 => some (r309.1, r309.2)))).bind fun j279 => (bif ((r145.2 != j279.2) || ((r145.2 == 0) && ((bif ((decide (j279.1 ≥ x239)) && (j279.2 == 0)) then (W64 (j279.1 + 1)) else j279.1) != r145.1))) then some (.ret false) else some (.next (W64 (s205 + 1))))))) else some (.done s205))
def law06_RulesShadows_L0 (N : Nat) (x0 : (List Clause)) (x1 : (List Span)) (r21 : Bool) (j32 : (Bool)) (r65 : ((List Int) × Int)) (r82 : (List (List Int))) (r90 : List Bool) : (Int × List Bool) → Option (Flow Bool (Int × List Bool)) := fun s103 =>
 (bif (decide (s103.1 < (r82.length : Int))) then ((idx r82 s103.1).bind fun x131 => ((rules_First N x0 x131).bind fun r145 => ((bif ((r145.2 == 0) && ((decide (r145.1 ≥ 0)) && (decide (r145.1 < (s103.2.length : Int))))) then ((idx s103.2 r145.1).bind fun x186 => some (s103.2.set (r145.1 : Int).toNat (true))) else some s103.2).bind fun j171 => ((iter (law06_RulesShadows_L1 N x0 x1 r21 j32 r65 r82 r90 s103 x131 r145 j171) N 0).bind fun o => o.k (fun r => some (.ret r)) (fun s219 => some (.next ((W64 (s103.1 + 1)), j171))))))) else some (.done (s103.1, s103.2)))
def law06_RulesShadows_L2 (N : Nat) (x0 : (List Clause)) (x1 : (List Span)) (r21 : Bool) (j32 : (Bool)) (r65 : ((List Int) × Int)) (r82 : (List (List Int))) (r90 : List Bool) (s114 : (Int × List Bool)) : (Int × Int) → Option (Flow Bool (Int × Int)) := fun s378 =>
 (bif (decide (s378.2 < (s114.2.length : Int))) then ((idx s114.2 s378.2).bind fun x405 => some (.next ((bif (!x405) then (W64 (s378.1 + 1)) else s378.1), (W64 (s378.2 + 1))))) else some (.done (s378.1, s378.2)))
def law06_RulesShadows (N : Nat) (x0 : (List Clause)) (x1 : (List Span)) : Option Bool :=
 ((law06_awake N ).bind fun r21 => (((law06_weight N x0).bind fun r40 => (bif (decide (r40 > 100)) then some true else (bif (decide ((x0.length : Int) > 8)) then some true else ((law06_few N x1 100).bind fun r54 => some (!r54))))).bind fun j32 => (bif j32 then some r21 else ((rules_Shadowed N x0 x1).bind fun r65 => (bif (r65.2 != 0) then some (r21 && ((r65.1.length : Int) == 0)) else ((ref06_All N x1).bind fun r82 => ((mk0 false (x0.length : Int)).bind fun r90 => ((iter (law06_RulesShadows_L0 N x0 x1 r21 j32 r65 r82 r90) N (0, r90)).bind fun o => o.k (fun r => some r) (fun s114 => ((iter (law06_RulesShadows_L2 N x0 x1 r21 j32 r65 r82 r90 s114) N (0, 0)).bind fun o => o.k (fun r => some r) (fun s388 => some (r21 && (s388.1 == (r65.1.length : Int))))))))))))))
theorem c_law06_RulesShadows (N : Nat) (w0 : World) (F0 : Mem) (hF : ∀ b o, F0 b = some o → w0.heap[b]? = some o) (hG : Glob F0) (x0 : (List Clause)) (a0_0 : Option Addr) (n0_0 : Nat) (hb0_0 : LC x0.length n0_0) (hs0_0 : SlA tClause F0 a0_0 x0) (x1 : (List Span)) (a1_0 : Option Addr) (n1_0 : Nat) (hb1_0 : LC x1.length n1_0) (hs1_0 : SlA tSpan F0 a1_0 x1) (r : Bool) (h : law06_RulesShadows N x0 x1 = some r) :
  Calls Tryz.prog 13 ([(.slice a0_0 x0.length n0_0), (.slice a1_0 x1.length n1_0)] : List Value).toArray w0 (FRet w0 F0 fun F' v => v = (.bool r)) := by
 have hs0 := HS.start hF
 refine Go 162 Tryz.func13 ?_
 refine Sq (Rg [0] ?_)
 refine Vs 1 ?_
 refine Nss (Rg [0, 1] ?_)
 obtain ⟨r21, hr22, h23⟩ := bind_some h
 refine Cl' co_law06_awake hs0 (c_law06_awake N w0 F0 hs0.pers hG  _ hr22) ?_
 rintro _ F1 w25 hs26 le27 rfl
 refine Vs 1 ?_
 refine Nss ?_
 refine Sq (Rg [0, 1, 2, 3, 4, 5, 6, 7, 8, 9, 10, 11, 12] ?_)
 obtain ⟨j32, hj38, h39⟩ := bind_some h23
 refine RWP.cut (fun f w => ∃ (F2 : Mem), HS w0 F0 w F2 [] ∧ Mem.le F1 F2 ∧ FI f [] [(0, (.slice a0_0 x0.length n0_0)), (1, (.slice a1_0 x1.length n1_0)), (5, (.bool r21)), (32, (.bool j32))]) ?_ ?_
 ·refine Vs 1 ?_
  obtain ⟨r40, hr41, h42⟩ := bind_some hj38
  refine Cl' co_law06_weight hs26 (c_law06_weight N w25 F1 hs26.pers (x0) a0_0 n0_0 hb0_0 (SlA.mono hs0_0 le27) _ hr41) ?_
  rintro _ F3 w44 hs45 le46 rfl
  refine Vs 2 ?_
  refine Sp h42 (fun hb48 h49 => ?_) (fun hb48 h50 => ?_)
  ·refine Ss hb48 3 ?_
   refine Pk1 hb48 ?_
   refine Vs 1 ?_
   refine Ss (rfl : true = true) 3 ?_
   refine Pk1 (rfl : true = true) ?_
   obtain rfl := some_inj h49
   exact RWP.nil ⟨rfl, F3, hs45, le46, fI⟩
  ·refine Vgs hb48 3 ?_
   refine Pk0 hb48 ?_
   refine Vs 1 ?_
   refine Sp h50 (fun hb51 h52 => ?_) (fun hb51 h53 => ?_)
   ·refine Ss hb51 3 ?_
    refine Pk1 hb51 ?_
    obtain rfl := some_inj h52
    exact RWP.nil ⟨rfl, F3, hs45, le46, fI⟩
   ·refine Vgs hb51 1 ?_
    obtain ⟨r54, hr55, h56⟩ := bind_some h53
    refine Cg hb51 co_law06_few hs45 (c_law06_few N w44 F3 hs45.pers (x1) a1_0 n1_0 hb1_0 (SlA.mono hs1_0 (le27.trans le46)) (100) _ hr55) ?_
    rintro _ F4 w58 hs59 le60 rfl
    refine Vgs hb51 1 ?_
    refine Pk0 hb51 ?_
    obtain rfl := some_inj h56
    exact RWP.nil ⟨rfl, F4, hs59, (le46.trans le60), fI⟩
 ·rintro f w29 ⟨F2, hs30, le31, ⟨_, rfl⟩⟩
  refine thenQ_nrm ?_
  refine Cd h39 (fun hb62 h63 => ?_) (fun hb62 h64 => ?_)
  ·refine Sq (Rg [0, 1] ?_)
   refine Vs 2 ?_
   refine Nt ?_
   refine Rt ?_
   refine thenQ_ret ?_
   obtain rfl := some_inj h63
   exact Re [(.bool r21)] hs30 rfl
  ·refine Sc ?_
   refine thenQ_nrm ?_
   refine Sq (Rg [0, 1, 2, 3, 4, 5, 6, 7] ?_)
   refine Vs 2 ?_
   obtain ⟨r65, hr66, h67⟩ := bind_some h64
   refine Cl' co_rules_Shadowed hs30 (c_rules_Shadowed N w29 F2 hs30.pers (x0) a0_0 n0_0 hb0_0 (SlA.mono hs0_0 (le27.trans le31)) (x1) a1_0 n1_0 hb1_0 (SlA.mono hs1_0 (le27.trans le31)) _ hr66) ?_
   rintro _ F5 w69 hs70 le71 ⟨ar65_0_0, nr65_0_0, rfl, hbr65_0_0, hsr65_0_0⟩
   refine Vs 5 ?_
   refine Nss ?_
   refine Sq (Rg [0, 1] ?_)
   refine Vs 2 ?_
   refine Nt ?_
   refine Cd h67 (fun hb73 h74 => ?_) (fun hb73 h75 => ?_)
   ·refine Sq (Rg [0, 1, 2, 3, 4, 5, 6] ?_)
    refine RWP.cut (fun f w => ∃ (F6 : Mem), HS w0 F0 w F6 [] ∧ Mem.le F5 F6 ∧ FI f [] [(4, (.bool (r21 && ((r65.1.length : Int) == 0))))]) ?_ ?_
    ·refine Vs 2 ?_
     refine RWP.split r21 (fun hb81 => ?_) (fun hb81 => ?_)
     ·refine Vgs hb81 3 ?_
      refine Pk1 hb81 ?_
      refine Vs 1 ?_
      exact RWP.nil ⟨rfl, F5, hs70, (Mem.le.refl _), (fJ ⟨(congrArg Value.bool (and_t hb81 (rfl))), trivial⟩)⟩
     ·refine Ss hb81 3 ?_
      refine Pk0 hb81 ?_
      refine Vs 1 ?_
      exact RWP.nil ⟨rfl, F5, hs70, (Mem.le.refl _), (fJ ⟨(congrArg Value.bool (and_f hb81 (rfl))), trivial⟩)⟩
    ·rintro f w76 ⟨F6, hs77, le78, ⟨_, rfl⟩⟩
     refine thenQ_nrm ?_
     refine Rt ?_
     refine thenQ_ret ?_
     obtain rfl := some_inj h74
     exact Re [(.bool (r21 && ((r65.1.length : Int) == 0)))] hs77 rfl
   ·refine Sc ?_
    refine thenQ_nrm ?_
    refine Sq (Rg [0, 1, 2] ?_)
    refine Vs 1 ?_
    obtain ⟨r82, hr83, h84⟩ := bind_some h75
    refine Cl' co_ref06_All hs70 (c_ref06_All N w69 F5 hs70.pers (x1) a1_0 n1_0 hb1_0 (SlA.mono hs1_0 ((le27.trans le31).trans le71)) _ hr83) ?_
    rintro _ F7 w86 hs87 le88 ⟨ar82_0_0, nr82_0_0, rfl, hbr82_0_0, hsr82_0_0⟩
    refine Vs 1 ?_
    refine Nss (Rg [0, 1, 2, 3] ?_)
    refine Vs 2 ?_
    obtain ⟨r90, hm91, h92⟩ := bind_some h84
    refine RWP.makeSlice (dst := (some 52)) (ty := 79) (g := none) (by kernel_rfl) rfl (x := (.tmp 51)) (y := (.tmp 51)) (t := 79) (by_ := 1) (z := (.bool false)) (T := tBool) (E := 4) rfl rfl (by kernel_rfl) (by decide) (by kernel_rfl) (z0 := false) (fun _ => rfl) (by decide) hs87 hm91 (fun b93 n94 C95 w96 (hs97 : HS w0 F0 w96 F7 [(some b93, .cells C95 4 (0, 0))]) hr98 => ?_)
    refine Vs 1 ?_
    refine Nss ?_
    refine Sq (Rg [0] ?_)
    refine Vs 1 ?_
    refine Nt ?_
    obtain ⟨o100, ho101, h102⟩ := bind_some h92
    refine CWP.cut (fun f w => ∃ (s114 : (Int × List Bool)) (F9 : Mem) (es114_1 : Option Nat × Obj), o100 = .done s114 ∧ HS w0 F0 w F9 [es114_1] ∧ Mem.le F7 F9 ∧ FI f [] [(5, (.bool r21)), (6, (.slice ar65_0_0 r65.1.length nr65_0_0)), (9, (.slice (some ⟨b93, 0, none⟩) s114.2.length n94))] ∧ RowR tBool 4 F9 (some ⟨b93, 0, none⟩) n94 s114.2 es114_1) ?_ ?_
    ·refine Bk ?_
     refine CWP.loop (by kernel_rfl) (fun m f w => ∃ (s103 : (Int × List Bool)) (F8 : Mem) (es103_1 : Option Nat × Obj), iter (law06_RulesShadows_L0 N x0 x1 r21 j32 r65 r82 r90) m s103 = some o100 ∧ HS w0 F0 w F8 [es103_1] ∧ Mem.le F7 F8 ∧ FI f [] [(0, (.slice a0_0 x0.length n0_0)), (5, (.bool r21)), (6, (.slice ar65_0_0 r65.1.length nr65_0_0)), (8, (.slice ar82_0_0 r82.length nr82_0_0)), (9, (.slice (some ⟨b93, 0, none⟩) s103.2.length n94)), (10, (vi s103.1))] ∧ RowR tBool 4 F8 (some ⟨b93, 0, none⟩) n94 s103.2 es103_1) N ⟨(0, r90), F7, (some b93, .cells C95 4 (0, 0)), ho101, hs97, (Mem.le.refl _), fI, hr98⟩ ?_
     rintro m122 f w104 ⟨s103, F8, es103_1, hit123, hs105, le106, ⟨_, rfl⟩, hrs103_1⟩
     obtain ⟨m124, fl125, rfl, hb126, hnx127⟩ := iter_step hit123
     refine Sq ?_
     refine Sq (Rg [0, 1, 2, 3] ?_)
     refine Vs 4 ?_
     refine Nt ?_
     refine Cd hb126 (fun hb128 h129 => ?_) (fun hb128 h130 => ?_)
     ·refine Sc ?_
      refine thenQ_nrm ?_
      refine Sq ?_
      refine Bk ?_
      refine Sq (Rg [0, 1, 2, 3, 4, 5, 6, 7, 8, 9, 10] ?_)
      refine Vs 3 ?_
      obtain ⟨x131, hx132, h134⟩ := bind_some h129
      obtain ⟨hi133, hx132'⟩ := idx_spec hx132
      obtain ⟨b135, o136, C137, E138, fz139, rfl, hF141, hE142⟩ := SlA.open (SlA.mono hsr82_0_0 le106) hx132'
      obtain ⟨ae143_0, ne143_0, hc144, hbe143_0, hse143_0⟩ := hE142 _ _ hx132'
      refine Ix hi133 ?_
      refine Lx 0 (hs105.pers _ _ hF141) hc144 ?_
      obtain ⟨r145, hr146, h147⟩ := bind_some h134
      refine Cl' co_rules_First hs105 (c_rules_First N w104 F8 hs105.pers (x0) a0_0 n0_0 hb0_0 (SlA.mono hs0_0 ((((le27.trans le31).trans le71).trans le88).trans le106)) (x131) ae143_0 ne143_0 hbe143_0 hse143_0 _ hr146) ?_
      rintro _ F10 w149 hs150 le151 rfl
      refine Vs 5 ?_
      refine Nss ?_
      refine Sq (Rg [0, 1, 2, 3, 4, 5, 6, 7, 8, 9, 10, 11] ?_)
      refine RWP.cut (fun f w => ∃ (F11 : Mem), HS w0 F0 w F11 [es103_1] ∧ Mem.le F10 F11 ∧ FI f [] [(0, (.slice a0_0 x0.length n0_0)), (5, (.bool r21)), (6, (.slice ar65_0_0 r65.1.length nr65_0_0)), (8, (.slice (some ⟨b135, o136, none⟩) r82.length nr82_0_0)), (9, (.slice (some ⟨b93, 0, none⟩) s103.2.length n94)), (10, (vi s103.1)), (11, (vi r145.1)), (12, (vi r145.2)), (79, (.bool ((r145.2 == 0) && ((decide (r145.1 ≥ 0)) && (decide (r145.1 < (s103.2.length : Int)))))))]) ?_ ?_
      ·refine Vs 3 ?_
       refine RWP.split (r145.2 == 0) (fun hb166 => ?_) (fun hb166 => ?_)
       ·refine Vgs hb166 2 ?_
        refine Pk1 hb166 ?_
        refine Vs 1 ?_
        refine RWP.split (decide (r145.1 ≥ 0)) (fun hb167 => ?_) (fun hb167 => ?_)
        ·refine Vgs hb167 4 ?_
         refine Pk1 hb167 ?_
         exact RWP.nil ⟨rfl, F10, hs150, (Mem.le.refl _), (fJ ⟨rfl, rfl, rfl, rfl, rfl, rfl, rfl, rfl, (congrArg Value.bool (and_t hb166 (and_t hb167 (rfl)))), trivial⟩)⟩
        ·refine Ss hb167 4 ?_
         refine Pk0 hb167 ?_
         exact RWP.nil ⟨rfl, F10, hs150, (Mem.le.refl _), (fJ ⟨rfl, rfl, rfl, rfl, rfl, rfl, rfl, rfl, (congrArg Value.bool (and_t hb166 (and_f hb167 (rfl)))), trivial⟩)⟩
       ·refine Ss hb166 2 ?_
        refine Pk0 hb166 ?_
        refine Vs 1 ?_
        refine Ss (rfl : false = false) 4 ?_
        refine Pk0 (rfl : false = false) ?_
        exact RWP.nil ⟨rfl, F10, hs150, (Mem.le.refl _), (fJ ⟨rfl, rfl, rfl, rfl, rfl, rfl, rfl, rfl, (congrArg Value.bool (and_f hb166 (rfl))), trivial⟩)⟩
      ·rintro f w153 ⟨F11, hs154, le155, ⟨_, rfl⟩⟩
       refine thenQ_nrm ?_
       obtain ⟨j171, hj181, h182⟩ := bind_some h147
       refine CWP.cut (fun f w => ∃ (F12 : Mem) (ej171_0 : Option Nat × Obj), HS w0 F0 w F12 [ej171_0] ∧ Mem.le F11 F12 ∧ FI f [] [(0, (.slice a0_0 x0.length n0_0)), (5, (.bool r21)), (6, (.slice ar65_0_0 r65.1.length nr65_0_0)), (8, (.slice (some ⟨b135, o136, none⟩) r82.length nr82_0_0)), (9, (.slice (some ⟨b93, 0, none⟩) j171.length n94)), (10, (vi s103.1)), (11, (vi r145.1)), (12, (vi r145.2))] ∧ RowR tBool 4 F12 (some ⟨b93, 0, none⟩) n94 j171 ej171_0) ?_ ?_
       ·refine Cd hj181 (fun hb183 h184 => ?_) (fun hb183 h185 => ?_)
        ·refine Rg [0, 1, 2, 3] ?_
         refine Vs 2 ?_
         obtain ⟨x186, hx187, h189⟩ := bind_some h184
         obtain ⟨hi188, hx187'⟩ := idx_spec hx187
         obtain ⟨b190, C191, ha192, rfl, hE194⟩ := RowR.open (hrs103_1.mono (le151.trans le155)) hx187'
         cases ha192
         have hr195 := (hrs103_1.mono (le151.trans le155))
         have hc197 := hE194 _ _ hx187'
         refine Ix0 hi188 ?_
         refine RWP.storeRow (ty := 0) (g := none) (by kernel_rfl) rfl (x := (.tmp 82)) (y := (.const (.bool true))) (t := 4) (v := (.bool true)) (gg := false) (b := b93) (j := (r145.1 : Int).toNat) (C := C191) (T := tBool) (E := 4) (u := (true)) rfl rfl (by kernel_rfl) hs154 (k := 0) rfl hr195 hx187' rfl rfl (fun C198 w199 (hs200 : HS w0 F0 w199 F11 [(some b93, .cells C198 4 (0, 0))]) hr201 => ?_)
         refine RWP.nil ?_
         obtain rfl := some_inj h189
         exact .inl ⟨rfl, F11, (some b93, .cells C198 4 (0, 0)), hs200, (Mem.le.refl _), (fJ ⟨rfl, rfl, rfl, rfl, (len_set rfl), rfl, rfl, rfl, trivial⟩), hr201⟩
        ·refine Sc ?_
         obtain rfl := some_inj h185
         exact .inl ⟨rfl, F11, es103_1, hs154, (Mem.le.refl _), fI, (hrs103_1.mono (le151.trans le155))⟩
       ·rintro f w168 ⟨F12, ej171_0, hs169, le170, ⟨_, rfl⟩, hrj171_0⟩
        refine thenQ_nrm ?_
        refine Sq (Rg [0] ?_)
        refine Vs 1 ?_
        refine Nt ?_
        obtain ⟨o202, ho203, h204⟩ := bind_some h182
        refine CWP.cut (fun f w => ∃ (s219 : Int) (F14 : Mem), o202 = .done s219 ∧ HS w0 F0 w F14 [ej171_0] ∧ Mem.le F12 F14 ∧ FI f [] [(0, (.slice a0_0 x0.length n0_0)), (5, (.bool r21)), (6, (.slice ar65_0_0 r65.1.length nr65_0_0)), (8, (.slice (some ⟨b135, o136, none⟩) r82.length nr82_0_0)), (9, (.slice (some ⟨b93, 0, none⟩) j171.length n94)), (10, (vi s103.1))]) ?_ ?_
        ·refine Bk ?_
         refine CWP.loop (by kernel_rfl) (fun m f w => ∃ (s205 : Int) (F13 : Mem), iter (law06_RulesShadows_L1 N x0 x1 r21 j32 r65 r82 r90 s103 x131 r145 j171) m s205 = some o202 ∧ HS w0 F0 w F13 [ej171_0] ∧ Mem.le F12 F13 ∧ FI f [] [(0, (.slice a0_0 x0.length n0_0)), (5, (.bool r21)), (6, (.slice ar65_0_0 r65.1.length nr65_0_0)), (8, (.slice (some ⟨b135, o136, none⟩) r82.length nr82_0_0)), (9, (.slice (some ⟨b93, 0, none⟩) j171.length n94)), (10, (vi s103.1)), (11, (vi r145.1)), (12, (vi r145.2)), (13, (vi s205))]) N ⟨0, F12, ho203, hs169, (Mem.le.refl _), fI⟩ ?_
         rintro m230 f w206 ⟨s205, F13, hit231, hs207, le208, ⟨_, rfl⟩⟩
         obtain ⟨m232, fl233, rfl, hb234, hnx235⟩ := iter_step hit231
         refine Sq ?_
         refine Sq (Rg [0, 1, 2, 3] ?_)
         refine Vs 4 ?_
         refine Nt ?_
         refine Cd hb234 (fun hb236 h237 => ?_) (fun hb236 h238 => ?_)
         ·refine Sc ?_
          refine thenQ_nrm ?_
          refine Sq ?_
          refine Bk ?_
          refine Sq (Rg [0, 1, 2, 3, 4] ?_)
          refine Vs 2 ?_
          obtain ⟨x239, hx240, h242⟩ := bind_some h237
          obtain ⟨hi241, hx240'⟩ := idx_spec hx240
          obtain ⟨b243, o244, C245, E246, fz247, rfl, hF249, hE250⟩ := SlA.open (SlA.mono hsr65_0_0 (((((le88.trans le106).trans le151).trans le155).trans le170).trans le208)) hx240'
          have hc252 := hE250 _ _ hx240'
          refine Ix hi241 ?_
          refine Lx 0 (hs207.pers _ _ hF249) hc252 ?_
          refine Vs 1 ?_
          refine Nss ?_
          refine Sq (Rg [0, 1, 2, 3, 4, 5, 6, 7, 8, 9, 10, 11, 12, 13, 14, 15, 16] ?_)
          refine RWP.cut (fun f w => ∃ (F15 : Mem), HS w0 F0 w F15 [ej171_0] ∧ Mem.le F13 F15 ∧ FI f [] [(0, (.slice a0_0 x0.length n0_0)), (5, (.bool r21)), (6, (.slice (some ⟨b243, o244, none⟩) r65.1.length nr65_0_0)), (8, (.slice (some ⟨b135, o136, none⟩) r82.length nr82_0_0)), (9, (.slice (some ⟨b93, 0, none⟩) j171.length n94)), (10, (vi s103.1)), (11, (vi r145.1)), (12, (vi r145.2)), (13, (vi s205)), (14, (vi x239)), (109, (.bool ((decide (x239 < 0)) || ((decide (x239 ≥ (x0.length : Int))) || ((r145.2 == 0) && (r145.1 == x239))))))]) ?_ ?_
          ·refine Vs 3 ?_
           refine RWP.split (decide (x239 < 0)) (fun hb268 => ?_) (fun hb268 => ?_)
           ·refine Ss hb268 4 ?_
            refine Pk1 hb268 ?_
            refine Vs 1 ?_
            refine Ss (rfl : true = true) 3 ?_
            refine Su' 3 ?_
            refine Ss (rfl : true = true) 1 ?_
            refine Pk1 (rfl : true = true) ?_
            exact RWP.nil ⟨rfl, F13, hs207, (Mem.le.refl _), (fJ ⟨rfl, rfl, rfl, rfl, rfl, rfl, rfl, rfl, rfl, rfl, (congrArg Value.bool (or_t hb268 (rfl))), trivial⟩)⟩
           ·refine Vgs hb268 4 ?_
            refine Pk0 hb268 ?_
            refine Vs 1 ?_
            refine RWP.split (decide (x239 ≥ (x0.length : Int))) (fun hb269 => ?_) (fun hb269 => ?_)
            ·refine Ss hb269 3 ?_
             refine Su' 3 ?_
             refine Ss hb269 1 ?_
             refine Pk1 hb269 ?_
             exact RWP.nil ⟨rfl, F13, hs207, (Mem.le.refl _), (fJ ⟨rfl, rfl, rfl, rfl, rfl, rfl, rfl, rfl, rfl, rfl, (congrArg Value.bool (or_f hb268 (or_t hb269 (rfl)))), trivial⟩)⟩
            ·refine Vgs hb269 3 ?_
             refine RWP.split (r145.2 == 0) (fun hb270 => ?_) (fun hb270 => ?_)
             ·refine Vgs hb270 3 ?_
              refine Pg1 hb269 hb270 ?_
              refine Pk0 hb269 ?_
              exact RWP.nil ⟨rfl, F13, hs207, (Mem.le.refl _), (fJ ⟨rfl, rfl, rfl, rfl, rfl, rfl, rfl, rfl, rfl, rfl, (congrArg Value.bool (or_f hb268 (or_f hb269 (and_t hb270 (rfl))))), trivial⟩)⟩
             ·refine Ss hb270 3 ?_
              refine Pg0 hb269 hb270 ?_
              refine Pk0 hb269 ?_
              exact RWP.nil ⟨rfl, F13, hs207, (Mem.le.refl _), (fJ ⟨rfl, rfl, rfl, rfl, rfl, rfl, rfl, rfl, rfl, rfl, (congrArg Value.bool (or_f hb268 (or_f hb269 (and_f hb270 (rfl))))), trivial⟩)⟩
          ·rintro f w253 ⟨F15, hs254, le255, ⟨_, rfl⟩⟩
           refine thenQ_nrm ?_
           refine Cd h242 (fun hb271 h272 => ?_) (fun hb271 h273 => ?_)
           ·refine Sq (Rg [0] ?_)
            refine Vs 1 ?_
            refine Nt ?_
            refine Rt ?_
            refine thenQ_ret ?_
            refine blockQ_ret ?_
            refine thenQ_ret ?_
            refine thenQ_ret ?_
            refine blockQ_ret ?_
            have hret := iter_ret h272 hnx235
            subst hret
            refine .inr ?_
            refine blockQ_ret ?_
            refine thenQ_ret ?_
            refine thenQ_ret ?_
            refine blockQ_ret ?_
            have hret := iter_ret h204 hnx127
            subst hret
            refine .inr ?_
            refine thenQ_ret ?_
            obtain rfl := some_inj h102
            exact Re [(.bool false)] hs254 rfl
           ·refine Sc ?_
            refine thenQ_nrm ?_
            refine Sq ?_
            obtain ⟨j279, hj293, h294⟩ := bind_some h273
            refine RD 13 13 [ej171_0] [] hs254 (fun f w => ∃ (F16 : Mem), HS w0 F0 w F16 [ej171_0] ∧ Mem.le F15 F16 ∧ FI f [] [(0, (.slice a0_0 x0.length n0_0)), (5, (.bool r21)), (6, (.slice (some ⟨b243, o244, none⟩) r65.1.length nr65_0_0)), (8, (.slice (some ⟨b135, o136, none⟩) r82.length nr82_0_0)), (9, (.slice (some ⟨b93, 0, none⟩) j171.length n94)), (10, (vi s103.1)), (11, (vi r145.1)), (12, (vi r145.2)), (13, (vi s205)), (14, (vi x239)), (15, (vi j279.1)), (16, (vi j279.2))]) (fun wd274 hw275 => ?_) ?_
            ·refine Dv [0, 1, 3, 4] ?_
             obtain ⟨x295, hx296, h298⟩ := bind_some hj293
             obtain ⟨hi297, hx296'⟩ := idx_spec hx296
             obtain ⟨ae299_0, ne299_0, hc300, hbe299_0, hse299_0⟩ := hE142 _ _ hx296'
             refine Di 5 hi297 ?_
             refine Dx 6 0 (fun _ hq => hq.1.1 _ _ (((((le151.trans le155).trans le170).trans le208).trans le255) _ _ hF141)) hc300 ?_
             refine D1 2 ?_
             obtain ⟨r301, hr302, h303⟩ := bind_some h298
             refine DCl co_law06_without hw275 (c_law06_without N wd274 F15 hw275.pers (x0) a0_0 n0_0 hb0_0 (SlA.mono hs0_0 (((((((((le27.trans le31).trans le71).trans le88).trans le106).trans le151).trans le155).trans le170).trans le208).trans le255)) (x239) _ hr302) ?_
             rintro _ F17 w305 hs306 le307 ⟨ar301_0_0, nr301_0_0, rfl, hbr301_0_0, hsr301_0_0⟩
             refine D1 7 ?_
             obtain ⟨r309, hr310, h311⟩ := bind_some h303
             refine DCl co_rules_First hs306 (c_rules_First N w305 F17 hs306.pers (r301) ar301_0_0 nr301_0_0 hbr301_0_0 hsr301_0_0 (x295) ae299_0 ne299_0 hbe299_0 (SlA.mono hse299_0 (((((le151.trans le155).trans le170).trans le208).trans le255).trans le307)) _ hr310) ?_
             rintro _ F18 w313 hs314 le315 rfl
             refine Dv [8, 9, 10, 11, 12] ?_
             obtain rfl := some_inj h311
             exact DWP.done (by kernel_rfl) ⟨F18, hs314, (le307.trans le315), fI⟩
            ·rintro f w276 ⟨F16, hs277, le278, ⟨_, rfl⟩⟩
             refine thenQ_nrm ?_
             refine Sq ?_
             refine Sq (Rg [0, 1, 2, 3, 4, 5, 6] ?_)
             refine RWP.cut (fun f w => ∃ (F19 : Mem), HS w0 F0 w F19 [ej171_0] ∧ Mem.le F16 F19 ∧ FI f [] [(0, (.slice a0_0 x0.length n0_0)), (5, (.bool r21)), (6, (.slice (some ⟨b243, o244, none⟩) r65.1.length nr65_0_0)), (8, (.slice (some ⟨b135, o136, none⟩) r82.length nr82_0_0)), (9, (.slice (some ⟨b93, 0, none⟩) j171.length n94)), (10, (vi s103.1)), (11, (vi r145.1)), (12, (vi r145.2)), (13, (vi s205)), (15, (vi j279.1)), (16, (vi j279.2)), (127, (.bool ((decide (j279.1 ≥ x239)) && (j279.2 == 0))))]) ?_ ?_
             ·refine Vs 4 ?_
              refine RWP.split (decide (j279.1 ≥ x239)) (fun hb333 => ?_) (fun hb333 => ?_)
              ·refine Vgs hb333 2 ?_
               refine Pk1 hb333 ?_
               exact RWP.nil ⟨rfl, F16, hs277, (Mem.le.refl _), (fJ ⟨rfl, rfl, rfl, rfl, rfl, rfl, rfl, rfl, rfl, rfl, rfl, (congrArg Value.bool (and_t hb333 (rfl))), trivial⟩)⟩
              ·refine Ss hb333 2 ?_
               refine Pk0 hb333 ?_
               exact RWP.nil ⟨rfl, F16, hs277, (Mem.le.refl _), (fJ ⟨rfl, rfl, rfl, rfl, rfl, rfl, rfl, rfl, rfl, rfl, rfl, (congrArg Value.bool (and_f hb333 (rfl))), trivial⟩)⟩
             ·rintro f w317 ⟨F19, hs318, le319, ⟨_, rfl⟩⟩
              refine thenQ_nrm ?_
              refine CWP.cut (fun f w => ∃ (F20 : Mem), HS w0 F0 w F20 [ej171_0] ∧ Mem.le F19 F20 ∧ FI f [] [(0, (.slice a0_0 x0.length n0_0)), (5, (.bool r21)), (6, (.slice (some ⟨b243, o244, none⟩) r65.1.length nr65_0_0)), (8, (.slice (some ⟨b135, o136, none⟩) r82.length nr82_0_0)), (9, (.slice (some ⟨b93, 0, none⟩) j171.length n94)), (10, (vi s103.1)), (11, (vi r145.1)), (12, (vi r145.2)), (13, (vi s205)), (15, (vi (bif ((decide (j279.1 ≥ x239)) && (j279.2 == 0)) then (W64 (j279.1 + 1)) else j279.1))), (16, (vi j279.2))]) ?_ ?_
              ·refine Cp ((decide (j279.1 ≥ x239)) && (j279.2 == 0)) (fun hb349 => ?_) (fun hb349 => ?_)
               ·refine Rg [0, 1, 2] ?_
                refine Vs 3 ?_
                refine RWP.nil ?_
                exact .inl ⟨rfl, F19, hs318, (Mem.le.refl _), (fJ ⟨rfl, rfl, rfl, rfl, rfl, rfl, rfl, rfl, rfl, (congrArg (Value.int .i64) (bif_t hb349 (rfl))), rfl, trivial⟩)⟩
               ·refine Sc ?_
                exact .inl ⟨rfl, F19, hs318, (Mem.le.refl _), (fJ ⟨rfl, rfl, rfl, rfl, rfl, rfl, rfl, rfl, rfl, (congrArg (Value.int .i64) (bif_f hb349 (rfl))), rfl, trivial⟩)⟩
              ·rintro f w334 ⟨F20, hs335, le336, ⟨_, rfl⟩⟩
               refine thenQ_nrm ?_
               refine Sq (Rg [0, 1, 2, 3, 4, 5, 6, 7, 8, 9, 10, 11] ?_)
               refine RWP.cut (fun f w => ∃ (F21 : Mem), HS w0 F0 w F21 [ej171_0] ∧ Mem.le F20 F21 ∧ FI f [] [(0, (.slice a0_0 x0.length n0_0)), (5, (.bool r21)), (6, (.slice (some ⟨b243, o244, none⟩) r65.1.length nr65_0_0)), (8, (.slice (some ⟨b135, o136, none⟩) r82.length nr82_0_0)), (9, (.slice (some ⟨b93, 0, none⟩) j171.length n94)), (10, (vi s103.1)), (11, (vi r145.1)), (12, (vi r145.2)), (13, (vi s205)), (141, (.bool ((r145.2 != j279.2) || ((r145.2 == 0) && ((bif ((decide (j279.1 ≥ x239)) && (j279.2 == 0)) then (W64 (j279.1 + 1)) else j279.1) != r145.1)))))]) ?_ ?_
               ·refine Vs 4 ?_
                refine RWP.split (r145.2 != j279.2) (fun hb364 => ?_) (fun hb364 => ?_)
                ·refine Ss hb364 3 ?_
                 refine Su' 3 ?_
                 refine Ss hb364 1 ?_
                 refine Pk1 hb364 ?_
                 exact RWP.nil ⟨rfl, F20, hs335, (Mem.le.refl _), (fJ ⟨rfl, rfl, rfl, rfl, rfl, rfl, rfl, rfl, rfl, (congrArg Value.bool (or_t hb364 (rfl))), trivial⟩)⟩
                ·refine Vgs hb364 3 ?_
                 refine RWP.split (r145.2 == 0) (fun hb365 => ?_) (fun hb365 => ?_)
                 ·refine Vgs hb365 3 ?_
                  refine Pg1 hb364 hb365 ?_
                  refine Pk0 hb364 ?_
                  exact RWP.nil ⟨rfl, F20, hs335, (Mem.le.refl _), (fJ ⟨rfl, rfl, rfl, rfl, rfl, rfl, rfl, rfl, rfl, (congrArg Value.bool (or_f hb364 (and_t hb365 (rfl)))), trivial⟩)⟩
                 ·refine Ss hb365 3 ?_
                  refine Pg0 hb364 hb365 ?_
                  refine Pk0 hb364 ?_
                  exact RWP.nil ⟨rfl, F20, hs335, (Mem.le.refl _), (fJ ⟨rfl, rfl, rfl, rfl, rfl, rfl, rfl, rfl, rfl, (congrArg Value.bool (or_f hb364 (and_f hb365 (rfl)))), trivial⟩)⟩
               ·rintro f w350 ⟨F21, hs351, le352, ⟨_, rfl⟩⟩
                refine thenQ_nrm ?_
                refine Cd h294 (fun hb366 h367 => ?_) (fun hb366 h368 => ?_)
                ·refine Sq (Rg [0] ?_)
                 refine Vs 1 ?_
                 refine Nt ?_
                 refine Rt ?_
                 refine blockQ_ret ?_
                 refine thenQ_ret ?_
                 refine thenQ_ret ?_
                 refine blockQ_ret ?_
                 have hret := iter_ret h367 hnx235
                 subst hret
                 refine .inr ?_
                 refine blockQ_ret ?_
                 refine thenQ_ret ?_
                 refine thenQ_ret ?_
                 refine blockQ_ret ?_
                 have hret := iter_ret h204 hnx127
                 subst hret
                 refine .inr ?_
                 refine thenQ_ret ?_
                 obtain rfl := some_inj h102
                 exact Re [(.bool false)] hs351 rfl
                ·refine Sc ?_
                 refine blockQ_nrm ?_
                 refine thenQ_nrm ?_
                 refine Rg [0, 1, 2] ?_
                 refine Vs 3 ?_
                 refine RWP.nil ?_
                 have hn369 := iter_next h368 hnx235
                 exact ⟨m232, Nat.lt_succ_self _, (W64 (s205 + 1)), F21, hn369, hs351, (((((le208.trans le255).trans le278).trans le319).trans le336).trans le352), fI⟩
         ·refine Ex ?_
          refine thenQ_ex ?_
          refine thenQ_ex ?_
          refine blockQ_hit rfl ?_
          have ho370 := iter_done h238 hnx235
          exact .inl ⟨rfl, s205, F13, ho370, hs207, le208, fI⟩
        ·rintro f w220 ⟨s219, F14, rfl, hs221, le222, ⟨_, rfl⟩⟩
         have h371 := k_done h204
         refine blockQ_nrm ?_
         refine thenQ_nrm ?_
         refine Rg [0, 1, 2] ?_
         refine Vs 3 ?_
         refine RWP.nil ?_
         have hn372 := iter_next h371 hnx127
         exact ⟨m124, Nat.lt_succ_self _, ((W64 (s103.1 + 1)), j171), F14, ej171_0, hn372, hs221, ((((le106.trans le151).trans le155).trans le170).trans le222), fI, (hrj171_0.mono le222)⟩
     ·refine Ex ?_
      refine thenQ_ex ?_
      refine thenQ_ex ?_
      refine blockQ_hit rfl ?_
      have ho373 := iter_done h130 hnx127
      exact .inl ⟨rfl, (s103.1, s103.2), F8, es103_1, ho373, hs105, le106, fI, hrs103_1⟩
    ·rintro f w115 ⟨s114, F9, es114_1, rfl, hs116, le117, ⟨_, rfl⟩, hrs114_1⟩
     have h374 := k_done h102
     refine thenQ_nrm ?_
     refine Sq (Rg [0] ?_)
     refine Vs 1 ?_
     refine Nss ?_
     refine Sq (Rg [0] ?_)
     refine Vs 1 ?_
     refine Nt ?_
     obtain ⟨o375, ho376, h377⟩ := bind_some h374
     refine CWP.cut (fun f w => ∃ (s388 : (Int × Int)) (F23 : Mem), o375 = .done s388 ∧ HS w0 F0 w F23 [] ∧ Mem.le F9 F23 ∧ FI f [] [(5, (.bool r21)), (6, (.slice ar65_0_0 r65.1.length nr65_0_0)), (17, (vi s388.1))]) ?_ ?_
     ·refine Bk ?_
      refine CWP.loop (by kernel_rfl) (fun m f w => ∃ (s378 : (Int × Int)) (F22 : Mem), iter (law06_RulesShadows_L2 N x0 x1 r21 j32 r65 r82 r90 s114) m s378 = some o375 ∧ HS w0 F0 w F22 [es114_1] ∧ Mem.le F9 F22 ∧ FI f [] [(5, (.bool r21)), (6, (.slice ar65_0_0 r65.1.length nr65_0_0)), (9, (.slice (some ⟨b93, 0, none⟩) s114.2.length n94)), (17, (vi s378.1)), (18, (vi s378.2))]) N ⟨(0, 0), F9, ho376, hs116, (Mem.le.refl _), fI⟩ ?_
      rintro m396 f w379 ⟨s378, F22, hit397, hs380, le381, ⟨_, rfl⟩⟩
      obtain ⟨m398, fl399, rfl, hb400, hnx401⟩ := iter_step hit397
      refine Sq ?_
      refine Sq (Rg [0, 1, 2, 3] ?_)
      refine Vs 4 ?_
      refine Nt ?_
      refine Cd hb400 (fun hb402 h403 => ?_) (fun hb402 h404 => ?_)
      ·refine Sc ?_
       refine thenQ_nrm ?_
       refine Sq ?_
       refine Bk ?_
       refine Sq (Rg [0, 1, 2, 3, 4] ?_)
       refine Vs 2 ?_
       obtain ⟨x405, hx406, h408⟩ := bind_some h403
       obtain ⟨hi407, hx406'⟩ := idx_spec hx406
       obtain ⟨b409, C410, ha411, rfl, hE413⟩ := RowR.open (hrs114_1.mono le381) hx406'
       cases ha411
       have hr414 := (hrs114_1.mono le381)
       have hc416 := hE413 _ _ hx406'
       refine Ix0 hi407 ?_
       refine Lx 0 hs380.at0 hc416 ?_
       refine Vs 1 ?_
       refine Nt ?_
       refine CWP.cut (fun f w => ∃ (F24 : Mem), HS w0 F0 w F24 [(some b93, .cells C410 4 (0, 0))] ∧ Mem.le F22 F24 ∧ FI f [] [(5, (.bool r21)), (6, (.slice ar65_0_0 r65.1.length nr65_0_0)), (9, (.slice (some ⟨b93, 0, none⟩) s114.2.length n94)), (17, (vi (bif (!x405) then (W64 (s378.1 + 1)) else s378.1))), (18, (vi s378.2))]) ?_ ?_
       ·refine Cp (!x405) (fun hb426 => ?_) (fun hb426 => ?_)
        ·refine Rg [0, 1, 2] ?_
         refine Vs 3 ?_
         refine RWP.nil ?_
         exact .inl ⟨rfl, F22, hs380, (Mem.le.refl _), (fJ ⟨rfl, rfl, rfl, (congrArg (Value.int .i64) (bif_t hb426 (rfl))), rfl, trivial⟩)⟩
        ·refine Sc ?_
         exact .inl ⟨rfl, F22, hs380, (Mem.le.refl _), (fJ ⟨rfl, rfl, rfl, (congrArg (Value.int .i64) (bif_f hb426 (rfl))), rfl, trivial⟩)⟩
       ·rintro f w417 ⟨F24, hs418, le419, ⟨_, rfl⟩⟩
        refine blockQ_nrm ?_
        refine thenQ_nrm ?_
        refine Rg [0, 1, 2] ?_
        refine Vs 3 ?_
        refine RWP.nil ?_
        have hn427 := iter_next h408 hnx401
        exact ⟨m398, Nat.lt_succ_self _, ((bif (!x405) then (W64 (s378.1 + 1)) else s378.1), (W64 (s378.2 + 1))), F24, hn427, hs418, (le381.trans le419), fI⟩
      ·refine Ex ?_
       refine thenQ_ex ?_
       refine thenQ_ex ?_
       refine blockQ_hit rfl ?_
       have ho428 := iter_done h404 hnx401
       exact .inl ⟨rfl, (s378.1, s378.2), F22, ho428, hs380.dr0, le381, fI⟩
     ·rintro f w389 ⟨s388, F23, rfl, hs390, le391, ⟨_, rfl⟩⟩
      have h429 := k_done h377
      refine thenQ_nrm ?_
      refine Sq (Rg [0, 1, 2, 3, 4, 5, 6, 7] ?_)
      refine RWP.cut (fun f w => ∃ (F25 : Mem), HS w0 F0 w F25 [] ∧ Mem.le F23 F25 ∧ FI f [] [(4, (.bool (r21 && (s388.1 == (r65.1.length : Int)))))]) ?_ ?_
      ·refine Vs 2 ?_
       refine RWP.split r21 (fun hb435 => ?_) (fun hb435 => ?_)
       ·refine Vgs hb435 4 ?_
        refine Pk1 hb435 ?_
        refine Vs 1 ?_
        exact RWP.nil ⟨rfl, F23, hs390, (Mem.le.refl _), (fJ ⟨(congrArg Value.bool (and_t hb435 (rfl))), trivial⟩)⟩
       ·refine Ss hb435 4 ?_
        refine Pk0 hb435 ?_
        refine Vs 1 ?_
        exact RWP.nil ⟨rfl, F23, hs390, (Mem.le.refl _), (fJ ⟨(congrArg Value.bool (and_f hb435 (rfl))), trivial⟩)⟩
      ·rintro f w430 ⟨F25, hs431, le432, ⟨_, rfl⟩⟩
       refine thenQ_nrm ?_
       refine Rt ?_
       obtain rfl := some_inj h429
       exact Re [(.bool (r21 && (s388.1 == (r65.1.length : Int))))] hs431 rfl
end Go.Proofs.YtaihlcdkcampbaaGreatDoor
namespace Go.Proofs.YtaihlcdkcampbaaGreatDoor
theorem fi_cons {α : Type} {p : α → Bool} {a : α} {l : List α} : fi p (a :: l) = if p a then 0 else if fi p l < 0 then -1 else fi p l + 1 := by
 unfold fi
 rw [List.any_cons, List.findIdx_cons]
 cases p a with
 | true => simp
 | false =>
  cases l.any p with
  | true => simp; omega
  | false => simp
theorem fi_erase {α : Type} {p : α → Bool} : ∀ {l : List α} {k : Nat}, fi p l ≠ (k : Int) → fi p (l.eraseIdx k) = if fi p l < 0 then -1 else if fi p l < (k : Int) then fi p l else fi p l - 1
 | [], k, _ => by simp [fi]
 | a :: l, 0, h => by
  rw [List.eraseIdx_cons_zero]
  rw [fi_cons] at h ⊢
  cases hp : p a with
  | true => rw [hp] at h; simp at h
  | false =>
   simp only [Bool.false_eq_true, if_false]
   by_cases h2 : fi p l < 0
   ·rw [if_pos h2, if_pos (by omega)]
    have := fi_neg.1 h2
    unfold fi; rw [this]; rfl
   ·rw [if_neg h2, if_neg (by omega), if_neg (by omega)]; omega
 | a :: l, k + 1, h => by
  rw [List.eraseIdx_cons_succ, fi_cons]
  rw [fi_cons] at h
  rw [fi_cons]
  cases hp : p a with
  | true => simp
  | false =>
   rw [hp] at h
   simp only [Bool.false_eq_true, if_false] at h ⊢
   have hk : fi p l ≠ (k : Int) := by
    intro e
    rw [e, if_neg (by omega)] at h
    exact h (by omega)
   rw [fi_erase hk]
   by_cases h2 : fi p l < 0
   ·rw [if_pos h2, if_pos h2, if_pos (by omega), if_pos (by omega)]
   ·rw [if_neg h2, if_neg h2]
    rw [if_neg (by omega : ¬ fi p l + 1 < 0)]
    by_cases h3 : fi p l < (k : Int)
    ·rw [if_pos h3, if_neg h2, if_pos (by omega)]
    ·rw [if_neg h3, if_neg (by omega), if_neg (by omega)]; omega
section
variable {N : Nat}
theorem s_without {l : List Clause} {k : Nat} (hk : k < l.length) (hl : l.length ≤ 64) : law06_without N l (k : Int) = some (l.eraseIdx k) := by
 unfold law06_without
 rw [W64_succ (by omega)]
 have e1 : sub l 0 (k : Int) = some (l.take k) := by
  unfold sub; rw [if_pos (by omega)]; simp
 have e2 : sub l ((k + 1 : Nat) : Int) (l.length : Int) = some (l.drop (k + 1)) := by
  unfold sub; rw [if_pos (by omega)]; simp
 rw [e1, Option.bind_some, e2, Option.bind_some, apnd_ok (by simp; omega), Option.bind_some, apnd_ok (by simp; omega), Option.bind_some, Option.bind_some, List.nil_append, List.eraseIdx_eq_take_drop_succ]
theorem FitL_erase {l : List Clause} {k : Nat} (h : FitL N l) : FitL N (l.eraseIdx k) := by
 have h1 : (l.eraseIdx k).length ≤ l.length := List.length_eraseIdx_le ..
 exact ⟨by have := h.n; omega, by have := h.w; omega, fun c hc => h.c c (List.mem_of_mem_eraseIdx hc)⟩
theorem sndL_erase {l : List Clause} {k : Nat} (h : sndL l = true) : sndL (l.eraseIdx k) = true := by
 have h1 : (l.eraseIdx k).length ≤ l.length := List.length_eraseIdx_le ..
 unfold sndL at h ⊢
 simp only [Bool.and_eq_true, decide_eq_true_eq, List.all_eq_true] at h ⊢
 exact ⟨by omega, fun c hc => h.2 c (List.mem_of_mem_eraseIdx hc)⟩
theorem firstS_ok' {l : List Clause} {f : List Int} (hs : sndL l = true) (hf : fac f = true) : firstS l f = if fi (isT f) l < 0 then (0, 3) else (fi (isT f) l, 0) := by
 unfold firstS; rw [hs, hf, if_neg tf, if_neg tf]
theorem shad_parts {l : List Clause} {d : List Span} (h : (shadS l d).2 = 0) : sndL l = true ∧ dom d = true ∧ shadS l d = (shadL l d, 0) := by
 unfold shadS at h ⊢
 cases hs : sndL l with
 | false => rw [hs, if_pos rfl] at h; simp at h
 | true =>
  rw [hs, if_neg tf] at h
  cases hd : dom d with
  | false => rw [hd, if_pos rfl] at h; simp at h
  | true => exact ⟨rfl, rfl, by rw [if_neg tf, if_neg tf]⟩
theorem shad_mem {l : List Clause} {d : List Span} {i : Nat} (hi : i < (shadL l d).length) : ∃ k : Nat, (shadL l d)[i] = (k : Int) ∧ k < l.length ∧ hit l d (k : Int) = false := by
 have hm := List.getElem_mem hi
 unfold shadL at hm
 obtain ⟨k, hk, he⟩ := List.mem_map.1 hm
 obtain ⟨h1, h2⟩ := List.mem_filter.1 hk
 exact ⟨k, he.symm, List.mem_range.1 h1, by simpa using h2⟩
theorem left_out {l : List Clause} {d : List Span} {r21 : Bool} {j32 : Bool} {L : List (List Int)} {r90 : List Bool} {n : Nat} {seen s2 : List Bool} {f : List Int} (hN : 5000 < N) (hl : FitL N l) (hs : sndL l = true) (hfc : fac f = true) (hn : n < L.length) (hf : L[n] = f) (hL : L = allL d) :
  iter (law06_RulesShadows_L1 N l d r21 j32 (shadL l d, 0) L r90 ((n : Int), seen) f (firstS l f) s2) N 0 = some (.done ((shadL l d).length : Int)) := by
 have h64 := sndL_n hs
 have hlen : (shadL l d).length ≤ 64 := by
  have h2 := List.length_filter_le (fun i : Nat => !(hit l d (i : Int))) (List.range l.length)
  unfold shadL
  simp only [List.length_map]
  rw [List.length_range] at h2
  omega
 have hno : ∀ k : Nat, hit l d (k : Int) = false → fi (isT f) l ≠ (k : Int) := fun k hk e => by
  unfold hit at hk
  rw [List.any_eq_false] at hk
  have := hk f (by rw [← hL, ← hf]; exact List.getElem_mem hn)
  rw [e] at this; simp at this
 rw [iter_first (shadL l d) (fun _ => false) (fun _ => false) (fun i hi => by
  obtain ⟨k, he, hk, hh⟩ := shad_mem hi
  have hne := hno k hh
  have hr := fi_rng l f
  have hfe := fi_erase hne
  unfold law06_RulesShadows_L1
  simp only
  rw [lt_t hi, cond_true, idx_nat hi, Option.bind_some, he, idx_nat hn, Option.bind_some, s_without hk h64, Option.bind_some, hf, s_First (by omega) (FitL_erase hl), Option.bind_some, Option.bind_some, firstS_ok' hs hfc, firstS_ok' (sndL_erase hs) hfc, hfe]
  rw [decide_eq_false (by omega : ¬ ((k : Int) < 0)), decide_eq_false (by omega : ¬ ((k : Int) ≥ (l.length : Int))), Bool.false_or, Bool.false_or]
  by_cases h0 : fi (isT f) l < 0
  ·rw [if_pos h0, if_pos h0, if_pos (by omega)]
   rfl
  ·rw [if_neg h0, if_neg h0]
   rw [show ((fi (isT f) l, (0 : Int)).2 == 0 && (fi (isT f) l, (0 : Int)).1 == (k : Int)) = false by simp [hne], cond_false]
   by_cases h1 : fi (isT f) l < (k : Int)
   ·rw [if_pos h1, if_neg h0]
    rw [show ((fi (isT f) l, (0 : Int)).2 != (fi (isT f) l, (0 : Int)).2) = false by simp, Bool.false_or]
    rw [decide_eq_false (by omega : ¬ ((fi (isT f) l, (0 : Int)).1 ≥ (k : Int))), Bool.false_and, cond_false]
    simp
   ·rw [if_neg h1, if_neg (by omega)]
    rw [decide_eq_true (by omega : (fi (isT f) l - 1, (0 : Int)).1 ≥ (k : Int)), Bool.true_and]
    rw [show ((fi (isT f) l - 1, (0 : Int)).2 == 0) = true from rfl, cond_true, W64_small (n := (fi (isT f) l - 1, (0 : Int)).1 + 1) (by simp only; omega) (by simp only; omega)]
    rw [show (fi (isT f) l - 1, (0 : Int)).1 + 1 = fi (isT f) l by simp]
    simp) (by
  unfold law06_RulesShadows_L1
  simp only
  rw [lt_f, cond_false]) (by omega) (by omega), any_none, cond_false]
theorem shadows_holds (l : List Clause) (d : List Span) (hN : 2000000 < N) (hl : FitL N l) : law06_RulesShadows N l d = some true := by
 obtain ⟨w, hw, _⟩ := s_few (N := N) (by omega) d 100
 unfold law06_RulesShadows law06_awake
 rw [s_weight hl, hw, s_Shadowed (by omega) hl]
 simp only [Option.bind_some]
 generalize decide (wt l > 100) = b1
 generalize decide ((l.length : Int) > 8) = b2
 cases b1 with
 | true => rfl
 | false =>
  cases b2 with
  | true => rfl
  | false =>
   cases w with
   | false => rfl
   | true =>
    simp only [cond_false, Bool.not_true, Option.bind_some]
    by_cases hz : (shadS l d).2 = 0
    ·obtain ⟨hs, hd, he⟩ := shad_parts hz
     have h64 := sndL_n hs
     have hv : (allL d).length ≤ 4096 := by rw [allL_length]; exact dom_vol hd
     have e0 : mk0 false (l.length : Int) = some (List.replicate l.length false) := by
      have h2 : (0 : Int) ≤ (l.length : Int) ∧ (l.length : Int) < 4294967296 := by omega
      unfold mk0
      rw [if_pos h2, Int.toNat_natCast]
     rw [he, show ((0 : Int) != 0) = false from rfl, cond_false, s_All hd hN, Option.bind_some, e0, Option.bind_some]
     obtain ⟨o, ho, s, rfl, h1, h2⟩ := iter_ex (body := law06_RulesShadows_L0 N l d true false (shadL l d, 0) (allL d) (List.replicate l.length false)) (allL d).length (fun i t => ∃ s, t = ((i : Int), s) ∧ s.length = l.length ∧ ∀ (k : Nat) (hk : k < s.length), s[k] = ((allL d).take i).any fun f => fi (isT f) l == (k : Int)) (fun o => ∃ s, o = .done (((allL d).length : Int), s) ∧ s.length = l.length ∧ ∀ (k : Nat) (hk : k < s.length), s[k] = hit l d (k : Int)) (by
      rintro i t hi ⟨s, rfl, h1, h2⟩
      by_cases h : i < (allL d).length
      ·have hm := List.getElem_mem h
       have hfc := dom_fac hd hm
       have hr := fi_rng l (allL d)[i]
       have key : ∀ s2 : List Bool, s2.length = l.length → (∀ (k : Nat) (hk : k < s2.length), s2[k] = ((allL d).take (i + 1)).any fun f => fi (isT f) l == (k : Int)) →
         (bif ((firstS l (allL d)[i]).2 == 0 && (decide ((firstS l (allL d)[i]).1 ≥ 0) && decide ((firstS l (allL d)[i]).1 < (s.length : Int)))) then ((idx s (firstS l (allL d)[i]).1).bind fun x186 => some (s.set ((firstS l (allL d)[i]).1 : Int).toNat (true))) else some s) = some s2 →
         law06_RulesShadows_L0 N l d true false (shadL l d, 0) (allL d) (List.replicate l.length false) ((i : Int), s) = some (.next (((i + 1 : Nat) : Int), s2)) := by
        intro s2 _ _ h3
        unfold law06_RulesShadows_L0
        simp only
        rw [lt_t h, cond_true, idx_nat h, Option.bind_some, s_First (by omega) hl, Option.bind_some, h3, Option.bind_some, left_out (by omega) hl hs hfc h rfl rfl, Option.bind_some]
        simp only [Flow.k]
        rw [W64_succ (by omega)]
       by_cases h0 : fi (isT (allL d)[i]) l < 0
       ·have hk2 : ∀ (k : Nat) (hk : k < s.length), s[k] = ((allL d).take (i + 1)).any fun f => fi (isT f) l == (k : Int) := fun k hk => by
         rw [h2 k hk, List.take_succ_eq_append_getElem h, List.any_append]
         have : (fi (isT (allL d)[i]) l == (k : Int)) = false := by rw [beq_eq_false_iff_ne]; omega
         simp [this]
        exact .inl ⟨_, key s h1 hk2 (by rw [firstS_ok' hs hfc, if_pos h0]; rfl), ⟨s, rfl, h1, hk2⟩, h⟩
       ·have hlt : (fi (isT (allL d)[i]) l).toNat < s.length := by omega
        have hk2 : ∀ (k : Nat) (hk : k < (s.set (fi (isT (allL d)[i]) l).toNat true).length), (s.set (fi (isT (allL d)[i]) l).toNat true)[k] = ((allL d).take (i + 1)).any fun f => fi (isT f) l == (k : Int) := fun k hk => by
         rw [List.getElem_set, List.take_succ_eq_append_getElem h, List.any_append]
         split
         ·rename_i e
          subst e
          have : (fi (isT (allL d)[i]) l == (((fi (isT (allL d)[i]) l).toNat : Nat) : Int)) = true := by rw [beq_iff_eq]; omega
          rw [List.any_cons, this, Bool.true_or, Bool.or_true]
         ·rename_i e
          rw [h2 k (by simpa using hk)]
          have : (fi (isT (allL d)[i]) l == (k : Int)) = false := by rw [beq_eq_false_iff_ne]; omega
          simp [this]
        refine .inl ⟨_, key _ (by simpa using h1) hk2 ?_, ⟨_, rfl, by simpa using h1, hk2⟩, h⟩
        rw [firstS_ok' hs hfc, if_neg h0]
        simp only
        rw [decide_eq_true (by omega : fi (isT (allL d)[i]) l ≥ 0), decide_eq_true (by omega : fi (isT (allL d)[i]) l < (s.length : Int)), idx_int (by omega) hlt]
        rfl
      ·have : i = (allL d).length := by omega
       subst this
       refine .inr ⟨.done (((allL d).length : Int), s), ?_, (fun _ h => by cases h), s, rfl, h1, fun k hk => ?_⟩
       ·unfold law06_RulesShadows_L0
        simp only
        rw [lt_f, cond_false]
       ·rw [h2 k hk, List.take_length]; rfl) (allL d).length N 0 (0, List.replicate l.length false) (by omega) ⟨_, rfl, by simp, by simp⟩ (by omega)
     rw [ho, Option.bind_some]
     simp only [Flow.k]
     obtain ⟨o, ho, rfl⟩ := iter_ex (body := law06_RulesShadows_L2 N l d true false (shadL l d, 0) (allL d) (List.replicate l.length false) (((allL d).length : Int), s)) s.length (fun i t => t = ((((List.range i).filter fun i : Nat => !(hit l d (i : Int))).length : Int), (i : Int))) (fun o => o = .done (((shadL l d).length : Int), (s.length : Int))) (by
      rintro i t hi rfl
      by_cases h : i < s.length
      ·refine .inl ⟨_, ?_, rfl, h⟩
       have hle := List.length_filter_le (fun i : Nat => !(hit l d (i : Int))) (List.range i)
       rw [List.length_range] at hle
       unfold law06_RulesShadows_L2
       simp only
       rw [lt_t h, cond_true, idx_nat h, Option.bind_some, h2 i h, W64_succ (by omega), List.range_succ, List.filter_append]
       cases hh : hit l d (i : Int) with
       | true => simp [hh]; exact W64_small (by omega) (by omega)
       | false =>
        rw [Bool.not_false, cond_true, W64_small (by omega) (by omega)]
        simp [hh]
      ·have : i = s.length := by omega
       subst this
       refine .inr ⟨_, ?_, (fun _ h => by cases h), rfl⟩
       unfold law06_RulesShadows_L2 shadL
       simp only
       rw [lt_f, cond_false, List.length_map, h1]) s.length N 0 (0, 0) (by omega) (by simp) (by omega)
     rw [ho, Option.bind_some]
     simp [Flow.k]
    ·rw [show ((shadS l d).2 != 0) = true by simpa using hz, cond_true]
     have : (shadS l d).1 = [] := by
      unfold shadS at hz ⊢
      cases hs : sndL l with
      | false => rfl
      | true =>
       rw [hs, if_neg tf] at hz
       rw [if_neg tf]
       cases hd : dom d with
       | false => rfl
       | true => rw [hd, if_neg tf] at hz; simp at hz
     rw [this]; rfl
end
end Go.Proofs.YtaihlcdkcampbaaGreatDoor
namespace Go.Proofs.YtaihlcdkcampbaaGreatDoor
theorem shadows_row (l : List Clause) (d : List Span) (h0 : qL qClause l) (_ : qL qSpan d) : ∃ N, law06_RulesShadows N l d = some true := by
 obtain ⟨m, hm⟩ := fitL_ex h0
 exact ⟨m + 2000001, shadows_holds l d (by omega) (hm _ (by omega))⟩
end Go.Proofs.YtaihlcdkcampbaaGreatDoor
