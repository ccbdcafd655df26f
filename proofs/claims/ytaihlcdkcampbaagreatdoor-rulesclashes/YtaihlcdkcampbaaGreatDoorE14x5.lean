/- Lemmas of the claim RulesClashes, printed by a program of the claimant and by hand. No statement of the seat is proved here. -/
import Derived.Test.YtaihlcdkcampbaaGreatDoorE14x4
set_option linter.unusedVariables false
set_option linter.unusedSimpArgs false
set_option linter.unusedSectionVars false
set_option maxHeartbeats 4000000
set_option maxRecDepth 100000
namespace Go.Proofs.YtaihlcdkcampbaaGreatDoor
open Go.Proofs
def zExpr : Expr := { Op := 0, Value := 0, Kids := ([] : List Expr) }
def zPlaced : rules_placed := { Expr := zExpr, at_ := 0 }
def zBook : Book := { Points := ([] : List Clause), Multipliers := ([] : List Clause), Penalties := ([] : List Clause), Repeats := ([] : List Expr) }
def readAs {α β : Type} (N : Nat) (s : List UInt8) (run : rules_parser → Option (rules_bad ⊕ α)) (z : β) (f : α → β) : Option (β × Int × Int) :=
 bif decide ((s.length : Int) > 65536) then some (z, 2, 0) else (rules_tokensOf N s).bind fun l => (run { l_ := l, open_ := 0 }).bind fun q => sk q (fun b => bif b.e_ != 0 then some (z, b.e_, b.at_) else none) (fun a => some (f a, 0, 0))
def rules_ParseExpr (N : Nat) (x0 : List UInt8) : Option (Expr × Int × Int) := readAs N x0 (fun p => rules_ParseExpr_1 N p zPlaced) zExpr (fun a => a.2.Expr)
def rules_Parse (N : Nat) (x0 : List UInt8) : Option (Book × Int × Int) := readAs N x0 (fun p => rules_Parse_1 N p zBook) zBook (fun a => a.2)
theorem bif_true {α : Type} {b : Bool} {x y : α} (h : b = true) : (bif b then x else y) = x := by subst h; rfl
theorem bif_false {α : Type} {b : Bool} {x y : α} (h : b = false) : (bif b then x else y) = y := by subst h; rfl
theorem co_rules_ParseExpr : CallOk Tryz.prog 25 := fun _ _ => by kernel_rfl
set_option maxRecDepth 100000 in
theorem c_rules_ParseExpr (N : Nat) (w0 : World) (F0 : Mem) (hF : ∀ b o, F0 b = some o → w0.heap[b]? = some o) (hG : Glob F0) (x0 : List UInt8) (r : Expr × Int × Int) (h : rules_ParseExpr N x0 = some r) :
  Calls Tryz.prog 25 ([.string ⟨x0.toArray⟩] : List Value).toArray w0 (FRet w0 F0 fun F' v => ∃ (aq0_2 : Option Addr) (nq0_2 : Nat), v = (.tuple #[(.agg #[(.int .i64 r.1.Op), (.int .i64 r.1.Value), (.slice aq0_2 r.1.Kids.length nq0_2)]), (.int .i64 r.2.1), (.int .i64 r.2.2)]) ∧ LC r.1.Kids.length nq0_2 ∧ SlA tExpr F' aq0_2 r.1.Kids) := by
 have hs0 := HS.start hF
 refine calls_of (n := 21) (c := bodyOf Tryz.f25) Tryz.func25 (by kernel_rfl) (by kernel_rfl) (by kernel_rfl) ?_
 refine Sq ?_
 refine Rg [0, 1, 2] ?_
 refine RWP.alloc (dst := some 2) (ty := 0) (g := none) (by kernel_rfl) rfl (t := 33) (z := .agg #[.int .i64 0, .int .i64 0, .slice none 0 0]) (by kernel_rfl) (C := #[.int .i64 0, .int .i64 0, .slice none 0 0]) rfl hs0 (fun b2 w1 hs1 => ?_)
 refine V 3 27 (run_assign (x := .const (.int .i64 0)) (v := .int .i64 0) rfl) ?_
 refine V 4 3 (run_assign (x := .const (.int .i64 0)) (v := .int .i64 0) rfl) ?_
 refine RWP.nil ?_
 refine thenQ_nrm ?_
 refine Sq ?_
 refine Rg [0] ?_
 refine RWP.alloc (dst := some 5) (ty := 0) (g := none) (by kernel_rfl) rfl (t := 113) (z := .agg #[.int .i64 0, .int .i64 0, .slice none 0 0, .int .i64 0]) (by kernel_rfl) (C := #[.int .i64 0, .int .i64 0, .slice none 0 0, .int .i64 0]) rfl hs1 (fun b5 w2 hs2 => ?_)
 refine RWP.nil ?_
 refine thenQ_nrm ?_
 refine Sq ?_
 refine Rg [0, 1, 2, 3, 4, 5, 6, 7] ?_
 refine V 9 9 (run_move (x := .tmp 0) (v := .string ⟨x0.toArray⟩) rfl) ?_
 refine V 10 103 (run_makeFunc (fn := .func 85) (first := #[]) (cap := #[.tmp 5]) (fl := []) (cl := [.pointer (some ⟨b5, 0, none⟩)]) rfl rfl) ?_
 obtain ⟨X, hX⟩ : ∃ X : Own, X = [(some b2, .cells #[.int .i64 0, .int .i64 0, .slice none 0 0] 33 (0, 0))] := ⟨_, rfl⟩
 refine RWP.enter (dst := some 11) (ty := 88) (g := none) (by kernel_rfl) rfl (run_call (f := .func 78) (aos := #[.tmp 9, .tmp 10]) (ats := #[9, 103]) (g := 78) (first := #[]) (cap := #[]) (args := [.string ⟨x0.toArray⟩, .func (.func 85) #[] #[.pointer (some ⟨b5, 0, none⟩)]]) rfl co_rules_read rfl)
  (c_rules_read N hs2 x0 (g := 85) (cap := [.pointer (some ⟨b5, 0, none⟩)]) co_rules_ParseExpr_1 (fun o F' L' => match o with
   | none => ∃ (e : Expr) (at_ : Int) (a : Option Addr) (n : Nat), L' = (some b5, .cells #[.int .i64 e.Op, .int .i64 e.Value, .slice a e.Kids.length n, .int .i64 at_] 113 (0, 0)) :: X ∧ LC e.Kids.length n ∧ SlA tExpr F' a e.Kids ∧ some (e, (0 : Int), (0 : Int)) = some r
   | some x => (bif x.e_ != 0 then some (zExpr, x.e_, x.at_) else none) = some r ∧ (L' = X ∨ ∃ o, L' = (some b5, o) :: X)) ?_ ?_) ?_
 ·intro hc F'
  unfold rules_ParseExpr readAs at h
  rw [bif_true hc] at h
  exact ⟨h, .inr ⟨_, by rw [hX]⟩⟩
 ·intro hc
  unfold rules_ParseExpr readAs at h
  rw [bif_false hc] at h
  obtain ⟨l, hl, h⟩ := bind_some h
  obtain ⟨q, hq, h⟩ := bind_some h
  refine ⟨l, hl, fun w3 F3 be_ ba_ bp a n le3 hb hsl hs3 => ?_⟩
  have hs4 : HS w0 F0 w3 F3 ((some bp, .cells #[.slice a l.length n, .int .i64 0] 100 (0, 0)) :: (some b5, .cells #[.int .i64 0, .int .i64 0, .slice none 0 0, .int .i64 0] 113 (0, 0)) :: (some ba_, ba 0) :: (some be_, be 0) :: X) := by
   rw [hX]; exact (hs3.pick (k := 3) rfl).pick (k := 1) rfl
  refine (c_rules_ParseExpr_1 N (hG.mono (hs3.le)) bp { l_ := l, open_ := 0 } a n hb hsl b5 zPlaced none 0 LC.nil (.inl rfl) hs4 q hq).mono ?_
  rintro e w4 (⟨a1, F4, v, L', rfl, rfl, hs5, le5, aq, nq, az, nz, rfl, rfl, h1, h2, h3, h4⟩ | ⟨x, F4, rfl, rfl, hs5, le5⟩)
  ·exact .inl ⟨_, F4, _, rfl, ((hs5.drop 0).pick (k := 2) rfl).pick (k := 2) rfl, le5, _, _, az, nz, rfl, h3, h4, h⟩
  ·exact .inr ⟨x, F4, _, rfl, hs5, le5, h, .inl rfl⟩
 ·rintro e w5 ⟨o, F5, L5, rfl, hs5, le5, hK⟩
  cases o with
  | none =>
   obtain ⟨e, at_, a, n, rfl, hb, hsl, hr⟩ := hK
   simp only
   refine V 8 88 (run_move (x := .tmp 11) (v := .tuple #[.int .i64 0, .int .i64 0]) rfl) ?_
   refine V 12 27 (run_extract (x := .tmp 8) (vs := #[.int .i64 0, .int .i64 0]) (i := 0) (v := .int .i64 0) rfl rfl) ?_
   refine V 13 3 (run_extract (x := .tmp 8) (vs := #[.int .i64 0, .int .i64 0]) (i := 1) (v := .int .i64 0) rfl rfl) ?_
   refine V 6 27 (run_assign (x := .tmp 12) (v := .int .i64 0) rfl) ?_
   refine V 7 3 (run_assign (x := .tmp 13) (v := .int .i64 0) rfl) ?_
   refine RWP.nil ?_
   refine thenQ_nrm ?_
   refine Sq ?_
   refine Sq ?_
   refine Rg [0, 1] ?_
   refine V 14 27 (run_move (x := .tmp 6) (v := .int .i64 0) rfl) ?_
   refine V 15 4 (run_neq (t := 27) (t' := 27) (x := .tmp 14) (y := .const (.int .i64 0)) (k := .i64) (a := 0) (b := 0) rfl rfl) ?_
   refine RWP.nil ?_
   refine thenQ_nrm ?_
   refine CWP.cond0 (t := false) (by kernel_rfl) rfl rfl ?_
   refine CWP.skip (by kernel_rfl) ?_
   refine thenQ_nrm ?_
   refine Sq ?_
   refine Rg [0, 1, 2, 3, 4] ?_
   refine V 19 0 (run_fieldAddr (s := 113) (x := .tmp 5) (i := 0) (o := 0) (k := 3) (b := b5) (o0 := 0) rfl (by kernel_rfl) rfl (o1 := 0) rfl) ?_
   refine V 20 33 (run_load' (t := 33) (x := .tmp 19) (b := b5) (o := 0) (g := true) (s := 3) (C := #[.int .i64 e.Op, .int .i64 e.Value, .slice a e.Kids.length n, .int .i64 at_]) (v := .agg #[.int .i64 e.Op, .int .i64 e.Value, .slice a e.Kids.length n]) rfl (by kernel_rfl) (hs5.ownAt (k := 0) rfl) rfl rfl rfl) ?_
   subst hX
   refine RWP.store (ty := 0) (g := none) (by kernel_rfl) rfl (x := .tmp 2) (y := .tmp 20) (t := 33) (gg := true) (s := 3) (v := .agg #[.int .i64 e.Op, .int .i64 e.Value, .slice a e.Kids.length n]) (b := b2) (o := 0) (C := #[.int .i64 0, .int .i64 0, .slice none 0 0]) rfl rfl (by kernel_rfl) hs5 (k := 1) rfl rfl rfl rfl (C' := #[.int .i64 e.Op, .int .i64 e.Value, .slice a e.Kids.length n]) rfl (fun w6 hs6 => ?_)
   refine V 3 27 (run_assign (x := .const (.int .i64 0)) (v := .int .i64 0) rfl) ?_
   refine V 4 3 (run_assign (x := .const (.int .i64 0)) (v := .int .i64 0) rfl) ?_
   refine RWP.nil ?_
   refine thenQ_nrm ?_
   refine CWP.ret (by kernel_rfl) ?_
   obtain rfl := some_inj hr
   exact ⟨rfl, _, res_of (l := [.cell 2 33, .tmp 3, .tmp 4]) (by kernel_rfl) (vs := [.agg #[.int .i64 e.Op, .int .i64 e.Value, .slice a e.Kids.length n], .int .i64 0, .int .i64 0]) ⟨b2, 0, rfl, run_loadVar' (t := 33) (g := true) (s := 3) (by kernel_rfl) (hs6.ownAt (k := 1) rfl) rfl (by decide), rfl, rfl, trivial⟩, _, F5, rfl, hs6.clear, a, n, rfl, hb, hsl⟩
  | some x =>
   obtain ⟨hr, hL⟩ := hK
   have hs6 : HS w0 F0 w5 F5 X := by
    rcases hL with rfl | ⟨o, rfl⟩
    ·exact hs5
    ·exact hs5.drop 0
   clear hs5 hL
   cases hne : x.e_ != 0 with
   | false => rw [hne] at hr; cases hr
   | true =>
    rw [hne] at hr
    obtain rfl := some_inj hr
    simp only
    refine V 8 88 (run_move (x := .tmp 11) (v := .tuple #[.int .i64 x.e_, .int .i64 x.at_]) rfl) ?_
    refine V 12 27 (run_extract (x := .tmp 8) (vs := #[.int .i64 x.e_, .int .i64 x.at_]) (i := 0) (v := .int .i64 x.e_) rfl rfl) ?_
    refine V 13 3 (run_extract (x := .tmp 8) (vs := #[.int .i64 x.e_, .int .i64 x.at_]) (i := 1) (v := .int .i64 x.at_) rfl rfl) ?_
    refine V 6 27 (run_assign (x := .tmp 12) (v := .int .i64 x.e_) rfl) ?_
    refine V 7 3 (run_assign (x := .tmp 13) (v := .int .i64 x.at_) rfl) ?_
    refine RWP.nil ?_
    refine thenQ_nrm ?_
    refine Sq ?_
    refine Sq ?_
    refine Rg [0, 1] ?_
    refine V 14 27 (run_move (x := .tmp 6) (v := .int .i64 x.e_) rfl) ?_
    refine V 15 4 (run_neq (t := 27) (t' := 27) (x := .tmp 14) (y := .const (.int .i64 0)) (k := .i64) (a := x.e_) (b := 0) rfl rfl) ?_
    refine RWP.nil ?_
    refine thenQ_nrm ?_
    refine CWP.cond1 (t := x.e_ != 0) (by kernel_rfl) rfl hne ?_
    refine Sq ?_
    refine Rg [0, 1, 2, 3, 4, 5] ?_
    refine V 16 33 (run_build2 (t := 33) (parts := #[]) (vs := []) rfl (cs := [.int .i64 0, .int .i64 0, .slice none 0 0]) (by kernel_rfl)) ?_
    refine V 17 27 (run_move (x := .tmp 6) (v := .int .i64 x.e_) rfl) ?_
    refine V 18 3 (run_move (x := .tmp 7) (v := .int .i64 x.at_) rfl) ?_
    subst hX
    refine RWP.store (ty := 0) (g := none) (by kernel_rfl) rfl (x := .tmp 2) (y := .tmp 16) (t := 33) (gg := true) (s := 3) (v := .agg #[.int .i64 0, .int .i64 0, .slice none 0 0]) (b := b2) (o := 0) (C := #[.int .i64 0, .int .i64 0, .slice none 0 0]) rfl rfl (by kernel_rfl) hs6 (k := 0) rfl rfl rfl rfl (C' := #[.int .i64 0, .int .i64 0, .slice none 0 0]) rfl (fun w7 hs7 => ?_)
    refine V 3 27 (run_assign (x := .tmp 17) (v := .int .i64 x.e_) rfl) ?_
    refine V 4 3 (run_assign (x := .tmp 18) (v := .int .i64 x.at_) rfl) ?_
    refine RWP.nil ?_
    refine thenQ_nrm ?_
    refine CWP.ret (by kernel_rfl) ?_
    refine thenQ_ret ?_
    exact ⟨rfl, _, res_of (l := [.cell 2 33, .tmp 3, .tmp 4]) (by kernel_rfl) (vs := [.agg #[.int .i64 0, .int .i64 0, .slice none 0 0], .int .i64 x.e_, .int .i64 x.at_]) ⟨b2, 0, rfl, run_loadVar' (t := 33) (g := true) (s := 3) (by kernel_rfl) (hs7.ownAt (k := 0) rfl) rfl (by decide), rfl, rfl, trivial⟩, _, F5, rfl, hs7.clear, none, 0, rfl, LC.nil, .inl rfl⟩
theorem co_rules_Parse : CallOk Tryz.prog 22 := fun _ _ => by kernel_rfl
set_option maxRecDepth 100000 in
theorem c_rules_Parse (N : Nat) (w0 : World) (F0 : Mem) (hF : ∀ b o, F0 b = some o → w0.heap[b]? = some o) (hG : Glob F0) (x0 : List UInt8) (r : Book × Int × Int) (h : rules_Parse N x0 = some r) :
  Calls Tryz.prog 22 ([.string ⟨x0.toArray⟩] : List Value).toArray w0 (FRet w0 F0 fun F' v => ∃ (aq0_0 : Option Addr) (nq0_0 : Nat) (aq0_1 : Option Addr) (nq0_1 : Nat) (aq0_2 : Option Addr) (nq0_2 : Nat) (aq0_3 : Option Addr) (nq0_3 : Nat), v = (.tuple #[(.agg #[(.slice aq0_0 r.1.Points.length nq0_0), (.slice aq0_1 r.1.Multipliers.length nq0_1), (.slice aq0_2 r.1.Penalties.length nq0_2), (.slice aq0_3 r.1.Repeats.length nq0_3)]), (.int .i64 r.2.1), (.int .i64 r.2.2)]) ∧ LC r.1.Points.length nq0_0 ∧ SlA tClause F' aq0_0 r.1.Points ∧ LC r.1.Multipliers.length nq0_1 ∧ SlA tClause F' aq0_1 r.1.Multipliers ∧ LC r.1.Penalties.length nq0_2 ∧ SlA tClause F' aq0_2 r.1.Penalties ∧ LC r.1.Repeats.length nq0_3 ∧ SlA tExpr F' aq0_3 r.1.Repeats) := by
 have hs0 := HS.start hF
 refine calls_of (n := 20) (c := bodyOf Tryz.f22) Tryz.func22 (by kernel_rfl) (by kernel_rfl) (by kernel_rfl) ?_
 refine Sq ?_
 refine Rg [0, 1, 2] ?_
 refine RWP.alloc (dst := some 2) (ty := 0) (g := none) (by kernel_rfl) rfl (t := 26) (z := .agg #[.slice none 0 0, .slice none 0 0, .slice none 0 0, .slice none 0 0]) (by kernel_rfl) (C := #[.slice none 0 0, .slice none 0 0, .slice none 0 0, .slice none 0 0]) rfl hs0 (fun b2 w1 hs1 => ?_)
 refine V 3 27 (run_assign (x := .const (.int .i64 0)) (v := .int .i64 0) rfl) ?_
 refine V 4 3 (run_assign (x := .const (.int .i64 0)) (v := .int .i64 0) rfl) ?_
 refine RWP.nil ?_
 refine thenQ_nrm ?_
 refine Sq ?_
 refine Rg [0] ?_
 refine RWP.alloc (dst := some 5) (ty := 0) (g := none) (by kernel_rfl) rfl (t := 26) (z := .agg #[.slice none 0 0, .slice none 0 0, .slice none 0 0, .slice none 0 0]) (by kernel_rfl) (C := #[.slice none 0 0, .slice none 0 0, .slice none 0 0, .slice none 0 0]) rfl hs1 (fun b5 w2 hs2 => ?_)
 refine RWP.nil ?_
 refine thenQ_nrm ?_
 refine Sq ?_
 refine Rg [0, 1, 2, 3, 4, 5, 6, 7] ?_
 refine V 9 9 (run_move (x := .tmp 0) (v := .string ⟨x0.toArray⟩) rfl) ?_
 refine V 10 103 (run_makeFunc (fn := .func 79) (first := #[]) (cap := #[.tmp 5]) (fl := []) (cl := [.pointer (some ⟨b5, 0, none⟩)]) rfl rfl) ?_
 obtain ⟨X, hX⟩ : ∃ X : Own, X = [(some b2, .cells #[.slice none 0 0, .slice none 0 0, .slice none 0 0, .slice none 0 0] 26 (0, 0))] := ⟨_, rfl⟩
 refine RWP.enter (dst := some 11) (ty := 88) (g := none) (by kernel_rfl) rfl (run_call (f := .func 78) (aos := #[.tmp 9, .tmp 10]) (ats := #[9, 103]) (g := 78) (first := #[]) (cap := #[]) (args := [.string ⟨x0.toArray⟩, .func (.func 79) #[] #[.pointer (some ⟨b5, 0, none⟩)]]) rfl co_rules_read rfl)
  (c_rules_read N hs2 x0 (g := 79) (cap := [.pointer (some ⟨b5, 0, none⟩)]) co_rules_Parse_1 (fun o F' L' => match o with
   | none => ∃ (e : Book) (a0 : Option Addr) (n0 : Nat) (a1 : Option Addr) (n1 : Nat) (a2 : Option Addr) (n2 : Nat) (a3 : Option Addr) (n3 : Nat), L' = (some b5, .cells #[.slice a0 e.Points.length n0, .slice a1 e.Multipliers.length n1, .slice a2 e.Penalties.length n2, .slice a3 e.Repeats.length n3] 26 (0, 0)) :: X ∧ LC e.Points.length n0 ∧ SlA tClause F' a0 e.Points ∧ LC e.Multipliers.length n1 ∧ SlA tClause F' a1 e.Multipliers ∧ LC e.Penalties.length n2 ∧ SlA tClause F' a2 e.Penalties ∧ LC e.Repeats.length n3 ∧ SlA tExpr F' a3 e.Repeats ∧ some (e, (0 : Int), (0 : Int)) = some r
   | some x => (bif x.e_ != 0 then some (zBook, x.e_, x.at_) else none) = some r ∧ (L' = X ∨ ∃ o, L' = (some b5, o) :: X)) ?_ ?_) ?_
 ·intro hc F'
  unfold rules_Parse readAs at h
  rw [bif_true hc] at h
  exact ⟨h, .inr ⟨_, by rw [hX]⟩⟩
 ·intro hc
  unfold rules_Parse readAs at h
  rw [bif_false hc] at h
  obtain ⟨l, hl, h⟩ := bind_some h
  obtain ⟨q, hq, h⟩ := bind_some h
  refine ⟨l, hl, fun w3 F3 be_ ba_ bp a n le3 hb hsl hs3 => ?_⟩
  have hs4 : HS w0 F0 w3 F3 ((some bp, .cells #[.slice a l.length n, .int .i64 0] 100 (0, 0)) :: (some b5, .cells #[.slice none 0 0, .slice none 0 0, .slice none 0 0, .slice none 0 0] 26 (0, 0)) :: (none, .cells #[] 0 (0, 0)) :: (none, .cells #[] 0 (0, 0)) :: (none, .cells #[] 0 (0, 0)) :: (none, .cells #[] 0 (0, 0)) :: (some ba_, ba 0) :: (some be_, be 0) :: X) := by
   have h0 : HS w0 F0 w3 F3 ((some bp, .cells #[.slice a l.length n, .int .i64 0] 100 (0, 0)) :: (some b5, .cells #[.slice none 0 0, .slice none 0 0, .slice none 0 0, .slice none 0 0] 26 (0, 0)) :: (some ba_, ba 0) :: (some be_, be 0) :: X) := by
    rw [hX]; exact (hs3.pick (k := 3) rfl).pick (k := 1) rfl
   exact (((((h0.dummy (.cells #[] 0 (0, 0))).dummy (.cells #[] 0 (0, 0))).dummy (.cells #[] 0 (0, 0))).dummy (.cells #[] 0 (0, 0))).pick (k := 5) rfl).pick (k := 5) rfl
  refine (c_rules_Parse_1 N (hG.mono (hs3.le)) bp { l_ := l, open_ := 0 } a n hb hsl b5 zBook none 0 (none, .cells #[] 0 (0, 0)) none 0 (none, .cells #[] 0 (0, 0)) none 0 (none, .cells #[] 0 (0, 0)) none 0 (none, .cells #[] 0 (0, 0)) (RowR.nil _ _ _ _) (RowR.nil _ _ _ _) (RowR.nil _ _ _ _) (RowR.nil _ _ _ _) hs4 q hq).mono ?_
  rintro e w4 (⟨q1, F4, v, L', rfl, rfl, hs5, le5, aq, nq, a0, n0, e0, a1, n1, e1, a2, n2, e2, a3, n3, e3, rfl, rfl, h1, h2, r0, r1, r2, r3⟩ | ⟨x, F4, rfl, rfl, hs5, le5⟩)
  ·have hs6 := hs5.drop 0
   obtain ⟨G0, hg0, lg0, s0⟩ : ∃ Fq, HS w0 F0 w4 Fq ((some b5, .cells #[.slice a0 q1.2.Points.length n0, .slice a1 q1.2.Multipliers.length n1, .slice a2 q1.2.Penalties.length n2, .slice a3 q1.2.Repeats.length n3] 26 (0, 0)) :: e1 :: e2 :: e3 :: (some ba_, ba 0) :: (some be_, be 0) :: X) ∧ Mem.le F4 Fq ∧ SlA tClause Fq a0 q1.2.Points := HS.freezeRow hs6 (k := 1) rfl r0
   obtain ⟨G1, hg1, lg1, s1⟩ : ∃ Fq, HS w0 F0 w4 Fq ((some b5, .cells #[.slice a0 q1.2.Points.length n0, .slice a1 q1.2.Multipliers.length n1, .slice a2 q1.2.Penalties.length n2, .slice a3 q1.2.Repeats.length n3] 26 (0, 0)) :: e2 :: e3 :: (some ba_, ba 0) :: (some be_, be 0) :: X) ∧ Mem.le G0 Fq ∧ SlA tClause Fq a1 q1.2.Multipliers := HS.freezeRow hg0 (k := 1) rfl (r1.mono lg0)
   obtain ⟨G2, hg2, lg2, s2⟩ : ∃ Fq, HS w0 F0 w4 Fq ((some b5, .cells #[.slice a0 q1.2.Points.length n0, .slice a1 q1.2.Multipliers.length n1, .slice a2 q1.2.Penalties.length n2, .slice a3 q1.2.Repeats.length n3] 26 (0, 0)) :: e3 :: (some ba_, ba 0) :: (some be_, be 0) :: X) ∧ Mem.le G1 Fq ∧ SlA tClause Fq a2 q1.2.Penalties := HS.freezeRow hg1 (k := 1) rfl (r2.mono (lg0.trans lg1))
   obtain ⟨G3, hg3, lg3, s3⟩ : ∃ Fq, HS w0 F0 w4 Fq ((some b5, .cells #[.slice a0 q1.2.Points.length n0, .slice a1 q1.2.Multipliers.length n1, .slice a2 q1.2.Penalties.length n2, .slice a3 q1.2.Repeats.length n3] 26 (0, 0)) :: (some ba_, ba 0) :: (some be_, be 0) :: X) ∧ Mem.le G2 Fq ∧ SlA tExpr Fq a3 q1.2.Repeats := HS.freezeRow hg2 (k := 1) rfl (r3.mono ((lg0.trans lg1).trans lg2))
   exact .inl ⟨_, G3, _, rfl, (hg3.pick (k := 2) rfl).pick (k := 2) rfl, (((le5.trans lg0).trans lg1).trans lg2).trans lg3, q1.2, a0, n0, a1, n1, a2, n2, a3, n3, rfl, r0.bound, s0.mono ((lg1.trans lg2).trans lg3), r1.bound, s1.mono (lg2.trans lg3), r2.bound, s2.mono lg3, r3.bound, s3, h⟩
  ·exact .inr ⟨x, F4, _, rfl, hs5, le5, h, .inl rfl⟩
 ·rintro e w5 ⟨o, F5, L5, rfl, hs5, le5, hK⟩
  cases o with
  | none =>
   obtain ⟨e, a0, n0, a1, n1, a2, n2, a3, n3, rfl, hb0, hl0, hb1, hl1, hb2, hl2, hb3, hl3, hr⟩ := hK
   simp only
   refine V 8 88 (run_move (x := .tmp 11) (v := .tuple #[.int .i64 0, .int .i64 0]) rfl) ?_
   refine V 12 27 (run_extract (x := .tmp 8) (vs := #[.int .i64 0, .int .i64 0]) (i := 0) (v := .int .i64 0) rfl rfl) ?_
   refine V 13 3 (run_extract (x := .tmp 8) (vs := #[.int .i64 0, .int .i64 0]) (i := 1) (v := .int .i64 0) rfl rfl) ?_
   refine V 6 27 (run_assign (x := .tmp 12) (v := .int .i64 0) rfl) ?_
   refine V 7 3 (run_assign (x := .tmp 13) (v := .int .i64 0) rfl) ?_
   refine RWP.nil ?_
   refine thenQ_nrm ?_
   refine Sq ?_
   refine Sq ?_
   refine Rg [0, 1] ?_
   refine V 14 27 (run_move (x := .tmp 6) (v := .int .i64 0) rfl) ?_
   refine V 15 4 (run_neq (t := 27) (t' := 27) (x := .tmp 14) (y := .const (.int .i64 0)) (k := .i64) (a := 0) (b := 0) rfl rfl) ?_
   refine RWP.nil ?_
   refine thenQ_nrm ?_
   refine CWP.cond0 (t := false) (by kernel_rfl) rfl rfl ?_
   refine CWP.skip (by kernel_rfl) ?_
   refine thenQ_nrm ?_
   refine Sq ?_
   refine Rg [0, 1, 2, 3] ?_
   refine V 19 26 (run_load' (t := 26) (x := .tmp 5) (b := b5) (o := 0) (g := true) (s := 4) (C := #[.slice a0 e.Points.length n0, .slice a1 e.Multipliers.length n1, .slice a2 e.Penalties.length n2, .slice a3 e.Repeats.length n3]) (v := .agg #[.slice a0 e.Points.length n0, .slice a1 e.Multipliers.length n1, .slice a2 e.Penalties.length n2, .slice a3 e.Repeats.length n3]) rfl (by kernel_rfl) (hs5.ownAt (k := 0) rfl) rfl rfl rfl) ?_
   subst hX
   refine RWP.store (ty := 0) (g := none) (by kernel_rfl) rfl (x := .tmp 2) (y := .tmp 19) (t := 26) (gg := true) (s := 4) (v := .agg #[.slice a0 e.Points.length n0, .slice a1 e.Multipliers.length n1, .slice a2 e.Penalties.length n2, .slice a3 e.Repeats.length n3]) (b := b2) (o := 0) (C := #[.slice none 0 0, .slice none 0 0, .slice none 0 0, .slice none 0 0]) rfl rfl (by kernel_rfl) hs5 (k := 1) rfl rfl rfl rfl (C' := #[.slice a0 e.Points.length n0, .slice a1 e.Multipliers.length n1, .slice a2 e.Penalties.length n2, .slice a3 e.Repeats.length n3]) rfl (fun w6 hs6 => ?_)
   refine V 3 27 (run_assign (x := .const (.int .i64 0)) (v := .int .i64 0) rfl) ?_
   refine V 4 3 (run_assign (x := .const (.int .i64 0)) (v := .int .i64 0) rfl) ?_
   refine RWP.nil ?_
   refine thenQ_nrm ?_
   refine CWP.ret (by kernel_rfl) ?_
   obtain rfl := some_inj hr
   exact ⟨rfl, _, res_of (l := [.cell 2 26, .tmp 3, .tmp 4]) (by kernel_rfl) (vs := [.agg #[.slice a0 e.Points.length n0, .slice a1 e.Multipliers.length n1, .slice a2 e.Penalties.length n2, .slice a3 e.Repeats.length n3], .int .i64 0, .int .i64 0]) ⟨b2, 0, rfl, run_loadVar' (t := 26) (g := true) (s := 4) (by kernel_rfl) (hs6.ownAt (k := 1) rfl) rfl (by decide), rfl, rfl, trivial⟩, _, F5, rfl, hs6.clear, a0, n0, a1, n1, a2, n2, a3, n3, rfl, hb0, hl0, hb1, hl1, hb2, hl2, hb3, hl3⟩
  | some x =>
   obtain ⟨hr, hL⟩ := hK
   have hs6 : HS w0 F0 w5 F5 X := by
    rcases hL with rfl | ⟨o, rfl⟩
    ·exact hs5
    ·exact hs5.drop 0
   clear hs5 hL
   cases hne : x.e_ != 0 with
   | false => rw [hne] at hr; cases hr
   | true =>
    rw [hne] at hr
    obtain rfl := some_inj hr
    simp only
    refine V 8 88 (run_move (x := .tmp 11) (v := .tuple #[.int .i64 x.e_, .int .i64 x.at_]) rfl) ?_
    refine V 12 27 (run_extract (x := .tmp 8) (vs := #[.int .i64 x.e_, .int .i64 x.at_]) (i := 0) (v := .int .i64 x.e_) rfl rfl) ?_
    refine V 13 3 (run_extract (x := .tmp 8) (vs := #[.int .i64 x.e_, .int .i64 x.at_]) (i := 1) (v := .int .i64 x.at_) rfl rfl) ?_
    refine V 6 27 (run_assign (x := .tmp 12) (v := .int .i64 x.e_) rfl) ?_
    refine V 7 3 (run_assign (x := .tmp 13) (v := .int .i64 x.at_) rfl) ?_
    refine RWP.nil ?_
    refine thenQ_nrm ?_
    refine Sq ?_
    refine Sq ?_
    refine Rg [0, 1] ?_
    refine V 14 27 (run_move (x := .tmp 6) (v := .int .i64 x.e_) rfl) ?_
    refine V 15 4 (run_neq (t := 27) (t' := 27) (x := .tmp 14) (y := .const (.int .i64 0)) (k := .i64) (a := x.e_) (b := 0) rfl rfl) ?_
    refine RWP.nil ?_
    refine thenQ_nrm ?_
    refine CWP.cond1 (t := x.e_ != 0) (by kernel_rfl) rfl hne ?_
    refine Sq ?_
    refine Rg [0, 1, 2, 3, 4, 5] ?_
    refine V 16 26 (run_build2 (t := 26) (parts := #[]) (vs := []) rfl (cs := [.slice none 0 0, .slice none 0 0, .slice none 0 0, .slice none 0 0]) (by kernel_rfl)) ?_
    refine V 17 27 (run_move (x := .tmp 6) (v := .int .i64 x.e_) rfl) ?_
    refine V 18 3 (run_move (x := .tmp 7) (v := .int .i64 x.at_) rfl) ?_
    subst hX
    refine RWP.store (ty := 0) (g := none) (by kernel_rfl) rfl (x := .tmp 2) (y := .tmp 16) (t := 26) (gg := true) (s := 4) (v := .agg #[.slice none 0 0, .slice none 0 0, .slice none 0 0, .slice none 0 0]) (b := b2) (o := 0) (C := #[.slice none 0 0, .slice none 0 0, .slice none 0 0, .slice none 0 0]) rfl rfl (by kernel_rfl) hs6 (k := 0) rfl rfl rfl rfl (C' := #[.slice none 0 0, .slice none 0 0, .slice none 0 0, .slice none 0 0]) rfl (fun w7 hs7 => ?_)
    refine V 3 27 (run_assign (x := .tmp 17) (v := .int .i64 x.e_) rfl) ?_
    refine V 4 3 (run_assign (x := .tmp 18) (v := .int .i64 x.at_) rfl) ?_
    refine RWP.nil ?_
    refine thenQ_nrm ?_
    refine CWP.ret (by kernel_rfl) ?_
    refine thenQ_ret ?_
    exact ⟨rfl, _, res_of (l := [.cell 2 26, .tmp 3, .tmp 4]) (by kernel_rfl) (vs := [.agg #[.slice none 0 0, .slice none 0 0, .slice none 0 0, .slice none 0 0], .int .i64 x.e_, .int .i64 x.at_]) ⟨b2, 0, rfl, run_loadVar' (t := 26) (g := true) (s := 4) (by kernel_rfl) (hs7.ownAt (k := 0) rfl) rfl (by decide), rfl, rfl, trivial⟩, _, F5, rfl, hs7.clear, none, 0, none, 0, none, 0, none, 0, rfl, LC.nil, .inl rfl, LC.nil, .inl rfl, LC.nil, .inl rfl, LC.nil, .inl rfl⟩
end Go.Proofs.YtaihlcdkcampbaaGreatDoor
namespace Go.Proofs.YtaihlcdkcampbaaGreatDoor
open Go.Proofs
def law06_awake0 (N : Nat)  : Option Bool :=
 ((rules_ParseExpr N ([49, 32, 43, 32, 50, 32, 42, 32, 51, 32, 61, 32, 55, 32, 97, 110, 100, 32, 110, 111, 116, 32, 98, 97, 110, 100, 32, 60, 32, 50] : List UInt8)).bind fun r21 => ((rules_PrintExpr N r21.1).bind fun r34 => ((rules_Parse N ([112, 111, 105, 110, 116, 115, 58, 32, 98, 97, 110, 100, 32, 61, 32, 49, 32, 61, 62, 32, 50] : List UInt8)).bind fun r42 => ((rules_Parse N ([112, 111, 105, 110, 116, 115, 58, 32, 98, 97, 110, 100, 32, 61, 62, 32, 50] : List UInt8)).bind fun r55 => ((mk0 0 14).bind fun r68 => ((idx r68 0).bind fun x78 => ((rules_Points N r42.1 (r68.set (0 : Int).toNat (1))).bind fun r97 => ((rules_ParseExpr N ([105, 102, 40, 98, 97, 110, 100, 32, 61, 32, 98, 97, 110, 100, 44, 32, 48, 32, 43, 32, 122, 111, 110, 101, 44, 32, 55, 41] : List UInt8)).bind fun r105 => ((rules_Simplify N r105.1).bind fun r118 => (bif ((r21.2.1 != 0) || ((r34.2 != 0) || ((r42.2.1 != 0) || ((r55.2.1 != 61) || ((r97.2 != 0) || ((r105.2.1 != 0) || ((r118.2 != 0) || (r55.2.2 != 8)))))))) then some false else some ((r21.1.Op == 4) && ((r34.1 == ([49, 32, 43, 32, 50, 32, 42, 32, 51, 32, 61, 32, 55, 32, 97, 110, 100, 32, 110, 111, 116, 32, 98, 97, 110, 100, 32, 60, 32, 50] : List UInt8)) && ((r97.1 == 2) && ((r118.1.Op == 2) && (r118.1.Value == 7)))))))))))))))
theorem co_law06_awake0 : CallOk Tryz.prog 21 := fun _ _ => by kernel_rfl
theorem c_law06_awake0 (N : Nat) (w0 : World) (F0 : Mem) (hF : ∀ b o, F0 b = some o → w0.heap[b]? = some o) (hG : Glob F0)  (r : Bool) (h : law06_awake0 N  = some r) :
  Calls Tryz.prog 21 ([] : List Value).toArray w0 (FRet w0 F0 fun F' v => v = (.bool r)) := by
 have hs0 := HS.start hF
 refine Go 110 Tryz.func21 ?_
 refine Sq (Rg [0] ?_)
 refine Vs 1 ?_
 refine Nss (Rg [0, 1, 2, 3, 4, 5, 6, 7, 8] ?_)
 obtain ⟨r21, hr22, h23⟩ := bind_some h
 refine Cl' co_rules_ParseExpr hs0 (c_rules_ParseExpr N w0 F0 hs0.pers hG (([49, 32, 43, 32, 50, 32, 42, 32, 51, 32, 61, 32, 55, 32, 97, 110, 100, 32, 110, 111, 116, 32, 98, 97, 110, 100, 32, 60, 32, 50] : List UInt8)) _ hr22) ?_
 rintro _ F1 w25 hs26 le27 ⟨ar21_0_2, nr21_0_2, rfl, hbr21_0_2, hsr21_0_2⟩
 refine Vs 4 ?_
 refine Al' 33 #[(vi 0), (vi 0), (.slice none ([] : List Expr).length 0)] hs26 (fun b29 w30 hs31 => ?_)
 refine St0 (kExpr r21.1 ar21_0_2 nr21_0_2) hs31 (fun w32 hs33 => ?_)
 refine Vs 2 ?_
 refine Nss (Rg [0, 1, 2, 3, 4, 5, 6] ?_)
 refine Ld hs33.at0 ?_
 obtain ⟨r34, hr35, h36⟩ := bind_some h23
 refine Cl' co_rules_PrintExpr hs33 (c_rules_PrintExpr N w32 F1 hs33.pers (hG.mono le27) (r21.1) ar21_0_2 nr21_0_2 hbr21_0_2 hsr21_0_2 _ hr35) ?_
 rintro _ F2 w38 hs39 le40 rfl
 refine Vs 5 ?_
 refine Nss (Rg [0, 1, 2, 3, 4, 5, 6, 7, 8] ?_)
 obtain ⟨r42, hr43, h44⟩ := bind_some h36
 refine Cl' co_rules_Parse hs39 (c_rules_Parse N w38 F2 hs39.pers (hG.mono (le27.trans le40)) (([112, 111, 105, 110, 116, 115, 58, 32, 98, 97, 110, 100, 32, 61, 32, 49, 32, 61, 62, 32, 50] : List UInt8)) _ hr43) ?_
 rintro _ F3 w46 hs47 le48 ⟨ar42_0_0, nr42_0_0, ar42_0_1, nr42_0_1, ar42_0_2, nr42_0_2, ar42_0_3, nr42_0_3, rfl, hbr42_0_0, hsr42_0_0, hbr42_0_1, hsr42_0_1, hbr42_0_2, hsr42_0_2, hbr42_0_3, hsr42_0_3⟩
 refine Vs 4 ?_
 refine Al' 26 #[(.slice none ([] : List Clause).length 0), (.slice none ([] : List Clause).length 0), (.slice none ([] : List Clause).length 0), (.slice none ([] : List Expr).length 0)] hs47 (fun b50 w51 hs52 => ?_)
 refine St0 (kBook r42.1 ar42_0_0 nr42_0_0 ar42_0_1 nr42_0_1 ar42_0_2 nr42_0_2 ar42_0_3 nr42_0_3) hs52 (fun w53 hs54 => ?_)
 refine Vs 2 ?_
 refine Nss (Rg [0, 1, 2, 3, 4, 5, 6, 7, 8] ?_)
 obtain ⟨r55, hr56, h57⟩ := bind_some h44
 refine Cl' co_rules_Parse hs54 (c_rules_Parse N w53 F3 hs54.pers (hG.mono ((le27.trans le40).trans le48)) (([112, 111, 105, 110, 116, 115, 58, 32, 98, 97, 110, 100, 32, 61, 62, 32, 50] : List UInt8)) _ hr56) ?_
 rintro _ F4 w59 hs60 le61 ⟨ar55_0_0, nr55_0_0, ar55_0_1, nr55_0_1, ar55_0_2, nr55_0_2, ar55_0_3, nr55_0_3, rfl, hbr55_0_0, hsr55_0_0, hbr55_0_1, hsr55_0_1, hbr55_0_2, hsr55_0_2, hbr55_0_3, hsr55_0_3⟩
 refine Vs 4 ?_
 refine Al' 26 #[(.slice none ([] : List Clause).length 0), (.slice none ([] : List Clause).length 0), (.slice none ([] : List Clause).length 0), (.slice none ([] : List Expr).length 0)] hs60 (fun b63 w64 hs65 => ?_)
 refine St0 (kBook r55.1 ar55_0_0 nr55_0_0 ar55_0_1 nr55_0_1 ar55_0_2 nr55_0_2 ar55_0_3 nr55_0_3) hs65 (fun w66 hs67 => ?_)
 refine Vs 2 ?_
 refine Nss (Rg [0, 1] ?_)
 obtain ⟨r68, hm69, h70⟩ := bind_some h57
 refine RWP.makeSlice (dst := (some 40)) (ty := 47) (g := none) (by kernel_rfl) rfl (x := (.const (vi 14))) (y := (.const (vi 14))) (t := 47) (by_ := 8) (z := (vi 0)) (T := tInt) (E := 3) rfl rfl (by kernel_rfl) (by decide) (by kernel_rfl) (z0 := 0) (fun _ => rfl) (by decide) hs67 hm69 (fun b71 n72 C73 w74 (hs75 : HS w0 F0 w74 F4 [(some b71, .cells C73 3 (0, 0)), (sb b63 (kBook r55.1 ar55_0_0 nr55_0_0 ar55_0_1 nr55_0_1 ar55_0_2 nr55_0_2 ar55_0_3 nr55_0_3) 26), (sb b50 (kBook r42.1 ar42_0_0 nr42_0_0 ar42_0_1 nr42_0_1 ar42_0_2 nr42_0_2 ar42_0_3 nr42_0_3) 26), (sb b29 (kExpr r21.1 ar21_0_2 nr21_0_2) 33)]) hr76 => ?_)
 refine Vs 1 ?_
 refine Nss (Rg [0, 1, 2] ?_)
 refine Vs 1 ?_
 obtain ⟨x78, hx79, h81⟩ := bind_some h70
 obtain ⟨hi80, hx79'⟩ := idx_spec hx79
 obtain ⟨b82, C83, ha84, he85, hE86⟩ := RowR.open hr76 hx79'
 cases ha84
 cases he85
 have hc88 := hE86 _ _ hx79'
 refine Ix0 hi80 ?_
 refine RWP.storeRow (ty := 0) (g := none) (by kernel_rfl) rfl (x := (.tmp 42)) (y := (.const (vi 1))) (t := 3) (v := (vi 1)) (gg := false) (b := b71) (j := (0 : Int).toNat) (C := C73) (T := tInt) (E := 3) (u := (1)) rfl rfl (by kernel_rfl) hs75 (k := 0) rfl hr76 hx79' rfl rfl (fun C89 w90 (hs91 : HS w0 F0 w90 F4 [(some b71, .cells C89 3 (0, 0)), (sb b63 (kBook r55.1 ar55_0_0 nr55_0_0 ar55_0_1 nr55_0_1 ar55_0_2 nr55_0_2 ar55_0_3 nr55_0_3) 26), (sb b50 (kBook r42.1 ar42_0_0 nr42_0_0 ar42_0_1 nr42_0_1 ar42_0_2 nr42_0_2 ar42_0_3 nr42_0_3) 26), (sb b29 (kExpr r21.1 ar21_0_2 nr21_0_2) 33)]) hr92 => ?_)
 refine Nss (Rg [0, 1, 2, 3, 4, 5, 6, 7] ?_)
 refine Ld hs91.at2 ?_
 refine V 45 47 (mv 12 (.slice (some ⟨b71, 0, none⟩) (r68.set (0 : Int).toNat (1)).length n72) (len_set rfl)) ?_
 have hb96 := RowR.bound hr92
 obtain ⟨F5, hs93, le94, hs95⟩ := hs91.fr0 hr92
 obtain ⟨r97, hr98, h99⟩ := bind_some h81
 refine Cl' co_rules_Points hs93 (c_rules_Points N w90 F5 hs93.pers (r42.1) ar42_0_0 nr42_0_0 hbr42_0_0 (SlA.mono hsr42_0_0 (le61.trans le94)) ar42_0_1 nr42_0_1 hbr42_0_1 (SlA.mono hsr42_0_1 (le61.trans le94)) ar42_0_2 nr42_0_2 hbr42_0_2 (SlA.mono hsr42_0_2 (le61.trans le94)) ar42_0_3 nr42_0_3 hbr42_0_3 (SlA.mono hsr42_0_3 (le61.trans le94)) ((r68.set (0 : Int).toNat (1))) (some ⟨b71, 0, none⟩) n72 hb96 hs95 _ hr98) ?_
 rintro _ F6 w101 hs102 le103 rfl
 refine Vs 5 ?_
 refine Nss (Rg [0, 1, 2, 3, 4, 5, 6, 7, 8] ?_)
 obtain ⟨r105, hr106, h107⟩ := bind_some h99
 refine Cl' co_rules_ParseExpr hs102 (c_rules_ParseExpr N w101 F6 hs102.pers (hG.mono (((((le27.trans le40).trans le48).trans le61).trans le94).trans le103)) (([105, 102, 40, 98, 97, 110, 100, 32, 61, 32, 98, 97, 110, 100, 44, 32, 48, 32, 43, 32, 122, 111, 110, 101, 44, 32, 55, 41] : List UInt8)) _ hr106) ?_
 rintro _ F7 w109 hs110 le111 ⟨ar105_0_2, nr105_0_2, rfl, hbr105_0_2, hsr105_0_2⟩
 refine Vs 4 ?_
 refine Al' 33 #[(vi 0), (vi 0), (.slice none ([] : List Expr).length 0)] hs110 (fun b113 w114 hs115 => ?_)
 refine St0 (kExpr r105.1 ar105_0_2 nr105_0_2) hs115 (fun w116 hs117 => ?_)
 refine Vs 2 ?_
 refine Nss (Rg [0, 1, 2, 3, 4, 5, 6, 7] ?_)
 refine Ld hs117.at0 ?_
 obtain ⟨r118, hr119, h120⟩ := bind_some h107
 refine Cl' co_rules_Simplify hs117 (c_rules_Simplify N w116 F7 hs117.pers (r105.1) ar105_0_2 nr105_0_2 hbr105_0_2 hsr105_0_2 _ hr119) ?_
 rintro _ F8 w122 hs123 le124 ⟨ar118_0_2, nr118_0_2, rfl, hbr118_0_2, hsr118_0_2⟩
 refine Vs 3 ?_
 refine Al' 33 #[(vi 0), (vi 0), (.slice none ([] : List Expr).length 0)] hs123 (fun b126 w127 hs128 => ?_)
 refine St0 (kExpr r118.1 ar118_0_2 nr118_0_2) hs128 (fun w129 hs130 => ?_)
 refine Vs 1 ?_
 refine Nss ?_
 refine Sq (Rg [0, 1, 2, 3, 4, 5, 6, 7, 8, 9, 10, 11, 12, 13, 14, 15, 16, 17, 18, 19, 20, 21, 22, 23, 24, 25, 26, 27, 28, 29] ?_)
 refine RWP.cut (fun f w => ∃ (F9 : Mem), HS w0 F0 w F9 [(sb b126 (kExpr r118.1 ar118_0_2 nr118_0_2) 33), (sb b29 (kExpr r21.1 ar21_0_2 nr21_0_2) 33)] ∧ Mem.le F8 F9 ∧ FI f [] [(1, (pt b29 0)), (4, (.string ⟨(r34.1).toArray⟩)), (13, (vi r97.1)), (18, (pt b126 0)), (88, (.bool ((r21.2.1 != 0) || ((r34.2 != 0) || ((r42.2.1 != 0) || ((r55.2.1 != 61) || ((r97.2 != 0) || ((r105.2.1 != 0) || ((r118.2 != 0) || (r55.2.2 != 8))))))))))]) ?_ ?_
 ·refine Vs 3 ?_
  refine RWP.split (r21.2.1 != 0) (fun hb140 => ?_) (fun hb140 => ?_)
  ·refine Ss hb140 2 ?_
   refine Pk1 hb140 ?_
   refine Vs 1 ?_
   refine Ss (rfl : true = true) 2 ?_
   refine Pk1 (rfl : true = true) ?_
   refine Vs 1 ?_
   refine Ss (rfl : true = true) 2 ?_
   refine Pk1 (rfl : true = true) ?_
   refine Vs 1 ?_
   refine Ss (rfl : true = true) 2 ?_
   refine Pk1 (rfl : true = true) ?_
   refine Vs 1 ?_
   refine Ss (rfl : true = true) 2 ?_
   refine Pk1 (rfl : true = true) ?_
   refine Vs 1 ?_
   refine Ss (rfl : true = true) 2 ?_
   refine Pk1 (rfl : true = true) ?_
   refine Vs 1 ?_
   refine Ss (rfl : true = true) 2 ?_
   refine Pk1 (rfl : true = true) ?_
   exact RWP.nil ⟨rfl, F8, hs130.dr1.dr1.dr1, (Mem.le.refl _), (fJ ⟨rfl, rfl, rfl, rfl, (congrArg Value.bool (or_t hb140 (rfl))), trivial⟩)⟩
  ·refine Vgs hb140 2 ?_
   refine Pk0 hb140 ?_
   refine Vs 1 ?_
   refine RWP.split (r34.2 != 0) (fun hb141 => ?_) (fun hb141 => ?_)
   ·refine Ss hb141 2 ?_
    refine Pk1 hb141 ?_
    refine Vs 1 ?_
    refine Ss (rfl : true = true) 2 ?_
    refine Pk1 (rfl : true = true) ?_
    refine Vs 1 ?_
    refine Ss (rfl : true = true) 2 ?_
    refine Pk1 (rfl : true = true) ?_
    refine Vs 1 ?_
    refine Ss (rfl : true = true) 2 ?_
    refine Pk1 (rfl : true = true) ?_
    refine Vs 1 ?_
    refine Ss (rfl : true = true) 2 ?_
    refine Pk1 (rfl : true = true) ?_
    refine Vs 1 ?_
    refine Ss (rfl : true = true) 2 ?_
    refine Pk1 (rfl : true = true) ?_
    exact RWP.nil ⟨rfl, F8, hs130.dr1.dr1.dr1, (Mem.le.refl _), (fJ ⟨rfl, rfl, rfl, rfl, (congrArg Value.bool (or_f hb140 (or_t hb141 (rfl)))), trivial⟩)⟩
   ·refine Vgs hb141 2 ?_
    refine Pk0 hb141 ?_
    refine Vs 1 ?_
    refine RWP.split (r42.2.1 != 0) (fun hb142 => ?_) (fun hb142 => ?_)
    ·refine Ss hb142 2 ?_
     refine Pk1 hb142 ?_
     refine Vs 1 ?_
     refine Ss (rfl : true = true) 2 ?_
     refine Pk1 (rfl : true = true) ?_
     refine Vs 1 ?_
     refine Ss (rfl : true = true) 2 ?_
     refine Pk1 (rfl : true = true) ?_
     refine Vs 1 ?_
     refine Ss (rfl : true = true) 2 ?_
     refine Pk1 (rfl : true = true) ?_
     refine Vs 1 ?_
     refine Ss (rfl : true = true) 2 ?_
     refine Pk1 (rfl : true = true) ?_
     exact RWP.nil ⟨rfl, F8, hs130.dr1.dr1.dr1, (Mem.le.refl _), (fJ ⟨rfl, rfl, rfl, rfl, (congrArg Value.bool (or_f hb140 (or_f hb141 (or_t hb142 (rfl))))), trivial⟩)⟩
    ·refine Vgs hb142 2 ?_
     refine Pk0 hb142 ?_
     refine Vs 1 ?_
     refine RWP.split (r55.2.1 != 61) (fun hb143 => ?_) (fun hb143 => ?_)
     ·refine Ss hb143 2 ?_
      refine Pk1 hb143 ?_
      refine Vs 1 ?_
      refine Ss (rfl : true = true) 2 ?_
      refine Pk1 (rfl : true = true) ?_
      refine Vs 1 ?_
      refine Ss (rfl : true = true) 2 ?_
      refine Pk1 (rfl : true = true) ?_
      refine Vs 1 ?_
      refine Ss (rfl : true = true) 2 ?_
      refine Pk1 (rfl : true = true) ?_
      exact RWP.nil ⟨rfl, F8, hs130.dr1.dr1.dr1, (Mem.le.refl _), (fJ ⟨rfl, rfl, rfl, rfl, (congrArg Value.bool (or_f hb140 (or_f hb141 (or_f hb142 (or_t hb143 (rfl)))))), trivial⟩)⟩
     ·refine Vgs hb143 2 ?_
      refine Pk0 hb143 ?_
      refine Vs 1 ?_
      refine RWP.split (r97.2 != 0) (fun hb144 => ?_) (fun hb144 => ?_)
      ·refine Ss hb144 2 ?_
       refine Pk1 hb144 ?_
       refine Vs 1 ?_
       refine Ss (rfl : true = true) 2 ?_
       refine Pk1 (rfl : true = true) ?_
       refine Vs 1 ?_
       refine Ss (rfl : true = true) 2 ?_
       refine Pk1 (rfl : true = true) ?_
       exact RWP.nil ⟨rfl, F8, hs130.dr1.dr1.dr1, (Mem.le.refl _), (fJ ⟨rfl, rfl, rfl, rfl, (congrArg Value.bool (or_f hb140 (or_f hb141 (or_f hb142 (or_f hb143 (or_t hb144 (rfl))))))), trivial⟩)⟩
      ·refine Vgs hb144 2 ?_
       refine Pk0 hb144 ?_
       refine Vs 1 ?_
       refine RWP.split (r105.2.1 != 0) (fun hb145 => ?_) (fun hb145 => ?_)
       ·refine Ss hb145 2 ?_
        refine Pk1 hb145 ?_
        refine Vs 1 ?_
        refine Ss (rfl : true = true) 2 ?_
        refine Pk1 (rfl : true = true) ?_
        exact RWP.nil ⟨rfl, F8, hs130.dr1.dr1.dr1, (Mem.le.refl _), (fJ ⟨rfl, rfl, rfl, rfl, (congrArg Value.bool (or_f hb140 (or_f hb141 (or_f hb142 (or_f hb143 (or_f hb144 (or_t hb145 (rfl)))))))), trivial⟩)⟩
       ·refine Vgs hb145 2 ?_
        refine Pk0 hb145 ?_
        refine Vs 1 ?_
        refine RWP.split (r118.2 != 0) (fun hb146 => ?_) (fun hb146 => ?_)
        ·refine Ss hb146 2 ?_
         refine Pk1 hb146 ?_
         exact RWP.nil ⟨rfl, F8, hs130.dr1.dr1.dr1, (Mem.le.refl _), (fJ ⟨rfl, rfl, rfl, rfl, (congrArg Value.bool (or_f hb140 (or_f hb141 (or_f hb142 (or_f hb143 (or_f hb144 (or_f hb145 (or_t hb146 (rfl))))))))), trivial⟩)⟩
        ·refine Vgs hb146 2 ?_
         refine Pk0 hb146 ?_
         exact RWP.nil ⟨rfl, F8, hs130.dr1.dr1.dr1, (Mem.le.refl _), (fJ ⟨rfl, rfl, rfl, rfl, (congrArg Value.bool (or_f hb140 (or_f hb141 (or_f hb142 (or_f hb143 (or_f hb144 (or_f hb145 (or_f hb146 (rfl))))))))), trivial⟩)⟩
 ·rintro f w131 ⟨F9, hs132, le133, ⟨_, rfl⟩⟩
  refine thenQ_nrm ?_
  refine Cd h120 (fun hb147 h148 => ?_) (fun hb147 h149 => ?_)
  ·refine Sq (Rg [0] ?_)
   refine Vs 1 ?_
   refine Nt ?_
   refine Rt ?_
   refine thenQ_ret ?_
   obtain rfl := some_inj h148
   exact Re [(.bool false)] hs132 rfl
  ·refine Sc ?_
   refine thenQ_nrm ?_
   refine Sq (Rg [0, 1, 2, 3, 4, 5, 6, 7, 8, 9, 10, 11, 12, 13, 14, 15, 16, 17, 18, 19, 20, 21] ?_)
   refine RWP.cut (fun f w => ∃ (F10 : Mem), HS w0 F0 w F10 [] ∧ Mem.le F9 F10 ∧ FI f [] [(0, (.bool ((r21.1.Op == 4) && ((r34.1 == ([49, 32, 43, 32, 50, 32, 42, 32, 51, 32, 61, 32, 55, 32, 97, 110, 100, 32, 110, 111, 116, 32, 98, 97, 110, 100, 32, 60, 32, 50] : List UInt8)) && ((r97.1 == 2) && ((r118.1.Op == 2) && (r118.1.Value == 7)))))))]) ?_ ?_
   ·refine Vs 1 ?_
    refine Ld hs132.at1 ?_
    refine Vs 2 ?_
    refine RWP.split (r21.1.Op == 4) (fun hb155 => ?_) (fun hb155 => ?_)
    ·refine Vgs hb155 2 ?_
     refine Pk1 hb155 ?_
     refine Vs 1 ?_
     refine RWP.split (r34.1 == ([49, 32, 43, 32, 50, 32, 42, 32, 51, 32, 61, 32, 55, 32, 97, 110, 100, 32, 110, 111, 116, 32, 98, 97, 110, 100, 32, 60, 32, 50] : List UInt8)) (fun hb156 => ?_) (fun hb156 => ?_)
     ·refine Vgs hb156 2 ?_
      refine Pk1 hb156 ?_
      refine Vs 1 ?_
      refine RWP.split (r97.1 == 2) (fun hb157 => ?_) (fun hb157 => ?_)
      ·refine Vgs hb157 1 ?_
       refine Lg hb157 hs132.at0 ?_
       refine Vgs hb157 1 ?_
       refine Pk1 hb157 ?_
       refine Vs 1 ?_
       refine RWP.split (r118.1.Op == 2) (fun hb158 => ?_) (fun hb158 => ?_)
       ·refine Vgs hb158 1 ?_
        refine Lg hb158 hs132.at0 ?_
        refine Vgs hb158 1 ?_
        refine Pk1 hb158 ?_
        refine Vs 1 ?_
        exact RWP.nil ⟨rfl, F9, hs132.dr0.dr0, (Mem.le.refl _), (fJ ⟨(congrArg Value.bool (and_t hb155 (and_t hb156 (and_t hb157 (and_t hb158 (rfl)))))), trivial⟩)⟩
       ·refine Ss hb158 3 ?_
        refine Pk0 hb158 ?_
        refine Vs 1 ?_
        exact RWP.nil ⟨rfl, F9, hs132.dr0.dr0, (Mem.le.refl _), (fJ ⟨(congrArg Value.bool (and_t hb155 (and_t hb156 (and_t hb157 (and_f hb158 (rfl)))))), trivial⟩)⟩
      ·refine Ss hb157 3 ?_
       refine Pk0 hb157 ?_
       refine Vs 1 ?_
       refine Ss (rfl : false = false) 3 ?_
       refine Pk0 (rfl : false = false) ?_
       refine Vs 1 ?_
       exact RWP.nil ⟨rfl, F9, hs132.dr0.dr0, (Mem.le.refl _), (fJ ⟨(congrArg Value.bool (and_t hb155 (and_t hb156 (and_f hb157 (rfl))))), trivial⟩)⟩
     ·refine Ss hb156 2 ?_
      refine Pk0 hb156 ?_
      refine Vs 1 ?_
      refine Ss (rfl : false = false) 3 ?_
      refine Pk0 (rfl : false = false) ?_
      refine Vs 1 ?_
      refine Ss (rfl : false = false) 3 ?_
      refine Pk0 (rfl : false = false) ?_
      refine Vs 1 ?_
      exact RWP.nil ⟨rfl, F9, hs132.dr0.dr0, (Mem.le.refl _), (fJ ⟨(congrArg Value.bool (and_t hb155 (and_f hb156 (rfl)))), trivial⟩)⟩
    ·refine Ss hb155 2 ?_
     refine Pk0 hb155 ?_
     refine Vs 1 ?_
     refine Ss (rfl : false = false) 2 ?_
     refine Pk0 (rfl : false = false) ?_
     refine Vs 1 ?_
     refine Ss (rfl : false = false) 3 ?_
     refine Pk0 (rfl : false = false) ?_
     refine Vs 1 ?_
     refine Ss (rfl : false = false) 3 ?_
     refine Pk0 (rfl : false = false) ?_
     refine Vs 1 ?_
     exact RWP.nil ⟨rfl, F9, hs132.dr0.dr0, (Mem.le.refl _), (fJ ⟨(congrArg Value.bool (and_f hb155 (rfl))), trivial⟩)⟩
   ·rintro f w150 ⟨F10, hs151, le152, ⟨_, rfl⟩⟩
    refine thenQ_nrm ?_
    refine Rt ?_
    obtain rfl := some_inj h149
    exact Re [(.bool ((r21.1.Op == 4) && ((r34.1 == ([49, 32, 43, 32, 50, 32, 42, 32, 51, 32, 61, 32, 55, 32, 97, 110, 100, 32, 110, 111, 116, 32, 98, 97, 110, 100, 32, 60, 32, 50] : List UInt8)) && ((r97.1 == 2) && ((r118.1.Op == 2) && (r118.1.Value == 7))))))] hs151 rfl
end Go.Proofs.YtaihlcdkcampbaaGreatDoor
namespace Go.Proofs.YtaihlcdkcampbaaGreatDoor
open Go.Proofs
set_option maxRecDepth 100000 in
theorem awake_yes : law06_awake0 9223372036854775808 = some true := by kernel_rfl
def law06_awake (_N : Nat) : Option Bool := some true
theorem co_law06_awake : CallOk Tryz.prog 21 := co_law06_awake0
theorem c_law06_awake (N : Nat) (w0 : World) (F0 : Mem) (hF : ∀ b o, F0 b = some o → w0.heap[b]? = some o) (hG : Glob F0) (r : Bool) (h : law06_awake N = some r) :
  Calls Tryz.prog 21 ([] : List Value).toArray w0 (FRet w0 F0 fun F' v => v = (.bool r)) := by
 cases h
 exact c_law06_awake0 9223372036854775808 w0 F0 hF hG true awake_yes
end Go.Proofs.YtaihlcdkcampbaaGreatDoor
namespace Go.Proofs.YtaihlcdkcampbaaGreatDoor
open Go.Proofs
end Go.Proofs.YtaihlcdkcampbaaGreatDoor
namespace Go.Proofs.YtaihlcdkcampbaaGreatDoor
open Go.Proofs
end Go.Proofs.YtaihlcdkcampbaaGreatDoor
namespace Go.Proofs.YtaihlcdkcampbaaGreatDoor
section
variable {N : Nat} {σ : Type}
def hit (l : List Clause) (d : List Span) (k : Int) : Bool := (allL d).any fun f => fi (isT f) l == k
noncomputable def mx (e : Expr) (d : List Span) : Int := (allL d).foldl (fun a f => max a (val f e)) (-1000000)
theorem found_len {d : List Span} {q : List Int → Bool} (hd : dom d = true) : (found ((allL d).find? q)).1.length ≤ 14 := by
 cases h : (allL d).find? q with
 | none => simp [found]
 | some f =>
  have := box_len (mem_allL.1 (List.mem_of_find?_eq_some h))
  have := dom_len hd
  simp [found]; omega
theorem clashS_len {l : List Clause} {d : List Span} {i k : Int} : (clashS l i k d).1.length ≤ 14 := by
 unfold clashS
 split
 ·simp
 ·split
  ·simp
  ·split
   ·simp
   ·rename_i h _; exact found_len (by simpa using h)
end
end Go.Proofs.YtaihlcdkcampbaaGreatDoor
namespace Go.Proofs.YtaihlcdkcampbaaGreatDoor
abbrev qL {α : Type} (q : α → Prop) (l : List α) : Prop := l.length < 9223372036854775808 ∧ ∀ c, c ∈ l → q c
end Go.Proofs.YtaihlcdkcampbaaGreatDoor
namespace Go.Proofs.YtaihlcdkcampbaaGreatDoor
open Go.Proofs
def law06_in_L0 (N : Nat) (x0 : (List Int)) (x1 : (List Span)) : Int → Option (Flow Bool Int) := fun s27 =>
 (bif (decide (s27 < (x0.length : Int))) then (((idx x0 s27).bind fun x62 => ((idx x1 s27).bind fun x76 => (bif (decide (x62 < x76.Lo)) then some true else ((idx x0 s27).bind fun x93 => ((idx x1 s27).bind fun x99 => some (decide (x93 > x99.Hi))))))).bind fun j54 => (bif j54 then some (.ret false) else some (.next (W64 (s27 + 1))))) else some (.done s27))
def law06_in (N : Nat) (x0 : (List Int)) (x1 : (List Span)) : Option Bool :=
 (bif ((x0.length : Int) != (x1.length : Int)) then some false else ((iter (law06_in_L0 N x0 x1) N 0).bind fun o => o.k (fun r => some r) (fun s35 => some true)))
theorem co_law06_in : CallOk Tryz.prog 64 := fun _ _ => by kernel_rfl
theorem c_law06_in (N : Nat) (w0 : World) (F0 : Mem) (hF : ∀ b o, F0 b = some o → w0.heap[b]? = some o) (x0 : (List Int)) (a0_0 : Option Addr) (n0_0 : Nat) (hb0_0 : LC x0.length n0_0) (hs0_0 : SlA tInt F0 a0_0 x0) (x1 : (List Span)) (a1_0 : Option Addr) (n1_0 : Nat) (hb1_0 : LC x1.length n1_0) (hs1_0 : SlA tSpan F0 a1_0 x1) (r : Bool) (h : law06_in N x0 x1 = some r) :
  Calls Tryz.prog 64 ([(.slice a0_0 x0.length n0_0), (.slice a1_0 x1.length n1_0)] : List Value).toArray w0 (FRet w0 F0 fun F' v => v = (.bool r)) := by
 have hs0 := HS.start hF
 refine Go 39 Tryz.func64 ?_
 refine Sq (Rg [0] ?_)
 refine Vs 1 ?_
 refine Nss ?_
 refine Sq (Rg [0, 1, 2, 3, 4] ?_)
 refine Vs 5 ?_
 refine Nt ?_
 refine Cd h (fun hb21 h22 => ?_) (fun hb21 h23 => ?_)
 ·refine Sq (Rg [0] ?_)
  refine Vs 1 ?_
  refine Nt ?_
  refine Rt ?_
  refine thenQ_ret ?_
  obtain rfl := some_inj h22
  exact Re [(.bool false)] hs0 rfl
 ·refine Sc ?_
  refine thenQ_nrm ?_
  refine Sq ?_
  refine Sq (Rg [0] ?_)
  refine Vs 1 ?_
  refine Nt ?_
  obtain ⟨o24, ho25, h26⟩ := bind_some h23
  refine CWP.cut (fun f w => ∃ (s35 : Int) (F2 : Mem), o24 = .done s35 ∧ HS w0 F0 w F2 [] ∧ Mem.le F0 F2 ∧ FI f [] []) ?_ ?_
  ·refine Bk ?_
   refine CWP.loop (by kernel_rfl) (fun m f w => ∃ (s27 : Int) (F1 : Mem), iter (law06_in_L0 N x0 x1) m s27 = some o24 ∧ HS w0 F0 w F1 [] ∧ Mem.le F0 F1 ∧ FI f [] [(0, (.slice a0_0 x0.length n0_0)), (1, (.slice a1_0 x1.length n1_0)), (5, (vi s27))]) N ⟨0, F0, ho25, hs0, (Mem.le.refl _), fI⟩ ?_
   rintro m40 f w28 ⟨s27, F1, hit41, hs29, le30, ⟨_, rfl⟩⟩
   obtain ⟨m42, fl43, rfl, hb44, hnx45⟩ := iter_step hit41
   refine Sq ?_
   refine Sq (Rg [0, 1, 2, 3] ?_)
   refine Vs 4 ?_
   refine Nt ?_
   refine Cd hb44 (fun hb46 h47 => ?_) (fun hb46 h48 => ?_)
   ·refine Sc ?_
    refine thenQ_nrm ?_
    refine Sq ?_
    refine Bk ?_
    refine Sq ?_
    obtain ⟨j54, hj60, h61⟩ := bind_some h47
    refine RD 22 22 [] [] hs29 (fun f w => ∃ (F3 : Mem), HS w0 F0 w F3 [] ∧ Mem.le F1 F3 ∧ FI f [] [(0, (.slice a0_0 x0.length n0_0)), (1, (.slice a1_0 x1.length n1_0)), (5, (vi s27)), (38, (.bool j54))]) (fun wd49 hw50 => ?_) ?_
    ·refine Dvl [0, 1] [tt, tt, ff, ff, ff, ff, ff, ff, ff, ff, ff, ff, ff, ff, ff, ff, ff, ff, ff, ff, ff, ff] ?_
     obtain ⟨x62, hx63, h65⟩ := bind_some hj60
     obtain ⟨hi64, hx63'⟩ := idx_spec hx63
     obtain ⟨b66, o67, C68, E69, fz70, rfl, hF72, hE73⟩ := SlA.open (SlA.mono hs0_0 le30) hx63'
     have hc75 := hE73 _ _ hx63'
     refine Di 2 hi64 ?_
     refine Dx 3 0 (fun _ hq => hq.1.1 _ _ hF72) hc75 ?_
     refine Dvl [4, 5] [tt, tt, tt, tt, tt, tt, ff, ff, ff, ff, ff, ff, ff, ff, ff, ff, ff, ff, ff, ff, ff, ff] ?_
     obtain ⟨x76, hx77, h79⟩ := bind_some h65
     obtain ⟨hi78, hx77'⟩ := idx_spec hx77
     obtain ⟨b80, o81, C82, E83, fz84, rfl, hF86, hE87⟩ := SlA.open (SlA.mono hs1_0 le30) hx77'
     have hc89 := hE87 _ _ hx77'
     refine Di 6 hi78 ?_
     refine Dvl [7] [tt, tt, tt, tt, tt, tt, tt, tt, ff, ff, ff, ff, ff, ff, ff, ff, ff, ff, ff, ff, ff, ff] ?_
     refine Dx 8 0 (fun _ hq => hq.1.1 _ _ hF86) hc89 ?_
     refine Dvl [9, 10] [tt, tt, tt, tt, tt, tt, tt, tt, tt, tt, tt, ff, ff, ff, ff, ff, ff, ff, ff, ff, ff, ff] ?_
     refine Sd h79 (fun hb90 h91 => ?_) (fun hb90 h92 => ?_)
     ·refine Dkl [(11, 28), (12, 29), (13, 30), (14, 31), (15, 32), (16, 33)] 10 false 27 hb90 [tt, tt, tt, tt, tt, tt, tt, tt, tt, tt, tt, tt, tt, tt, tt, tt, tt, ff, ff, ff, ff, ff] ?_
      refine Dkl [(17, 34), (18, 35), (19, 36), (20, 37)] 10 false 27 hb90 [tt, tt, tt, tt, tt, tt, tt, tt, tt, tt, tt, tt, tt, tt, tt, tt, tt, tt, tt, tt, tt, ff] ?_
      refine Dtl 21 38 4 _ [tt, tt, tt, tt, tt, tt, tt, tt, tt, tt, tt, tt, tt, tt, tt, tt, tt, tt, tt, tt, tt, tt] (fun _ hq => p1 27 (.const (.bool true)) (.tmp 37) (.bool true) hb90) ?_
      obtain rfl := some_inj h91
      exact DWP.done (by kernel_rfl) ⟨F1, hw50, (Mem.le.refl _), fI⟩
     ·refine Dgl 11 28 47 _ [tt, tt, tt, tt, tt, tt, tt, tt, tt, tt, tt, tt, ff, ff, ff, ff, ff, ff, ff, ff, ff, ff] 10 false 27 hb90 (fun _ hq => mv 0 (.slice (some ⟨b66, o67, none⟩) x0.length n0_0)) ?_
      refine Dgl 12 29 3 _ [tt, tt, tt, tt, tt, tt, tt, tt, tt, tt, tt, tt, tt, ff, ff, ff, ff, ff, ff, ff, ff, ff] 10 false 27 hb90 (fun _ hq => mv 5 (vi s27)) ?_
      obtain ⟨x93, hx94, h96⟩ := bind_some h92
      obtain ⟨hi95, hx94'⟩ := idx_spec hx94
      have hc98 := hE73 _ _ hx94'
      refine Dgl 13 30 0 (.pointer (some ⟨b66, (o67 + (s27 : Int).toNat * 1), none⟩)) [tt, tt, tt, tt, tt, tt, tt, tt, tt, tt, tt, tt, tt, tt, ff, ff, ff, ff, ff, ff, ff, ff] 10 false 27 hb90 (fun _ hq => ix 47 28 29 b66 o67 3 1 8 hi95) ?_
      refine Dgl 14 31 3 _ [tt, tt, tt, tt, tt, tt, tt, tt, tt, tt, tt, tt, tt, tt, tt, ff, ff, ff, ff, ff, ff, ff] 10 false 27 hb90 (fun _ hq => lx 3 30 0 1 false 1 (vi x93) (hq.1.1 _ _ hF72) hc98) ?_
      refine Dgl 15 32 68 _ [tt, tt, tt, tt, tt, tt, tt, tt, tt, tt, tt, tt, tt, tt, tt, tt, ff, ff, ff, ff, ff, ff] 10 false 27 hb90 (fun _ hq => mv 1 (.slice (some ⟨b80, o81, none⟩) x1.length n1_0)) ?_
      refine Dgl 16 33 3 _ [tt, tt, tt, tt, tt, tt, tt, tt, tt, tt, tt, tt, tt, tt, tt, tt, tt, ff, ff, ff, ff, ff] 10 false 27 hb90 (fun _ hq => mv 5 (vi s27)) ?_
      obtain ⟨x99, hx100, h102⟩ := bind_some h96
      obtain ⟨hi101, hx100'⟩ := idx_spec hx100
      have hc104 := hE87 _ _ hx100'
      refine Dgl 17 34 0 (.pointer (some ⟨b80, (o81 + (s27 : Int).toNat * 2), none⟩)) [tt, tt, tt, tt, tt, tt, tt, tt, tt, tt, tt, tt, tt, tt, tt, tt, tt, tt, ff, ff, ff, ff] 10 false 27 hb90 (fun _ hq => ix 68 32 33 b80 o81 72 2 16 hi101) ?_
      refine Dgl 18 35 0 (.pointer (some ⟨b80, ((o81 + (s27 : Int).toNat * 2) + 1), none⟩)) [tt, tt, tt, tt, tt, tt, tt, tt, tt, tt, tt, tt, tt, tt, tt, tt, tt, tt, tt, ff, ff, ff] 10 false 27 hb90 (fun _ hq => fa 72 34 1 1 1 b80 (o81 + (s27 : Int).toNat * 2) ((o81 + (s27 : Int).toNat * 2) + 1)) ?_
      refine Dgl 19 36 3 _ [tt, tt, tt, tt, tt, tt, tt, tt, tt, tt, tt, tt, tt, tt, tt, tt, tt, tt, tt, tt, ff, ff] 10 false 27 hb90 (fun _ hq => lx 3 35 1 2 false 1 (vi x99.Hi) (hq.1.1 _ _ hF86) hc104) ?_
      refine Dgl 20 37 4 (.bool (decide (x93 > x99.Hi))) [tt, tt, tt, tt, tt, tt, tt, tt, tt, tt, tt, tt, tt, tt, tt, tt, tt, tt, tt, tt, tt, ff] 10 false 27 hb90 (fun _ hq => run_gtr (t := 3) (t' := 3) (x := (.tmp 31)) (y := (.tmp 36)) (k := .i64) (a := x93) (b := x99.Hi) rfl rfl) ?_
      refine Dtl 21 38 4 _ [tt, tt, tt, tt, tt, tt, tt, tt, tt, tt, tt, tt, tt, tt, tt, tt, tt, tt, tt, tt, tt, tt] (fun _ hq => p0 27 (.const (.bool true)) (.tmp 37) (.bool (decide (x93 > x99.Hi))) hb90) ?_
      obtain rfl := some_inj h102
      exact DWP.done (by kernel_rfl) ⟨F1, hw50, (Mem.le.refl _), fI⟩
    ·rintro f w51 ⟨F3, hs52, le53, ⟨_, rfl⟩⟩
     refine thenQ_nrm ?_
     refine Cd h61 (fun hb105 h106 => ?_) (fun hb105 h107 => ?_)
     ·refine Sq (Rg [0] ?_)
      refine Vs 1 ?_
      refine Nt ?_
      refine Rt ?_
      refine blockQ_ret ?_
      refine thenQ_ret ?_
      refine thenQ_ret ?_
      refine blockQ_ret ?_
      have hret := iter_ret h106 hnx45
      subst hret
      refine .inr ?_
      refine thenQ_ret ?_
      obtain rfl := some_inj h26
      exact Re [(.bool false)] hs52 rfl
     ·refine Sc ?_
      refine blockQ_nrm ?_
      refine thenQ_nrm ?_
      refine Rg [0, 1, 2] ?_
      refine Vs 3 ?_
      refine RWP.nil ?_
      have hn108 := iter_next h107 hnx45
      exact ⟨m42, Nat.lt_succ_self _, (W64 (s27 + 1)), F3, hn108, hs52, (le30.trans le53), fI⟩
   ·refine Ex ?_
    refine thenQ_ex ?_
    refine thenQ_ex ?_
    refine blockQ_hit rfl ?_
    have ho109 := iter_done h48 hnx45
    exact .inl ⟨rfl, s27, F1, ho109, hs29, le30, fI⟩
  ·rintro f w36 ⟨s35, F2, rfl, hs37, le38, ⟨_, rfl⟩⟩
   have h110 := k_done h26
   refine thenQ_nrm ?_
   refine Sq (Rg [0] ?_)
   refine Vs 1 ?_
   refine Nt ?_
   refine Rt ?_
   obtain rfl := some_inj h110
   exact Re [(.bool true)] hs37 rfl
end Go.Proofs.YtaihlcdkcampbaaGreatDoor
namespace Go.Proofs.YtaihlcdkcampbaaGreatDoor
open Go.Proofs
def law06_RulesClashes (N : Nat) (x0 : (List Clause)) (x1 : (List Span)) (x2 : pileuplaw06_Which) : Option Bool :=
 ((law06_awake N ).bind fun r24 => (((law06_weight N x0).bind fun r44 => (bif (decide (r44 > 200)) then some true else ((law06_few N x1 200).bind fun r55 => some (!r55)))).bind fun j35 => (bif j35 then some r24 else ((rules_Clash N x0 x2.I x2.K x1).bind fun r66 => ((rules_Clash N x0 x2.K x2.I x1).bind fun r74 => ((bif (r66.2 != r74.2) then some true else ((law06_same N r66.1 r74.1).bind fun r99 => some (!r99))).bind fun j85 => (bif j85 then some false else (bif (r66.2 != 0) then some r24 else ((bif (decide (x2.I < 0)) then some true else (bif (decide (x2.I ≥ (x0.length : Int))) then some true else (bif (decide (x2.K < 0)) then some true else (bif (decide (x2.K ≥ (x0.length : Int))) then some true else ((law06_in N r66.1 x1).bind fun r137 => some (!r137)))))).bind fun j116 => (bif j116 then some false else ((idx x0 x2.I).bind fun x148 => ((rules_Eval N x148.When r66.1).bind fun r162 => ((idx x0 x2.K).bind fun x170 => ((rules_Eval N x170.When r66.1).bind fun r176 => some (r24 && ((r162.2 == 0) && ((r176.2 == 0) && ((r162.1 == 1) && (r176.1 == 1)))))))))))))))))))
theorem c_law06_RulesClashes (N : Nat) (w0 : World) (F0 : Mem) (hF : ∀ b o, F0 b = some o → w0.heap[b]? = some o) (hG : Glob F0) (x0 : (List Clause)) (a0_0 : Option Addr) (n0_0 : Nat) (hb0_0 : LC x0.length n0_0) (hs0_0 : SlA tClause F0 a0_0 x0) (x1 : (List Span)) (a1_0 : Option Addr) (n1_0 : Nat) (hb1_0 : LC x1.length n1_0) (hs1_0 : SlA tSpan F0 a1_0 x1) (x2 : pileuplaw06_Which) (r : Bool) (h : law06_RulesClashes N x0 x1 x2 = some r) :
  Calls Tryz.prog 14 ([(.slice a0_0 x0.length n0_0), (.slice a1_0 x1.length n1_0), (.agg (kpileuplaw06_Which x2))] : List Value).toArray w0 (FRet w0 F0 fun F' v => v = (.bool r)) := by
 have hs0 := HS.start hF
 refine Go 125 Tryz.func14 ?_
 refine Sq (Rg [0, 1] ?_)
 refine Bx' 83 (kpileuplaw06_Which x2) hs0 (fun b21 w22 hs23 => ?_)
 refine Vs 1 ?_
 refine Nss (Rg [0, 1] ?_)
 obtain ⟨r24, hr25, h26⟩ := bind_some h
 refine Cl' co_law06_awake hs23 (c_law06_awake N w22 F0 hs23.pers hG  _ hr25) ?_
 rintro _ F1 w28 hs29 le30 rfl
 refine Vs 1 ?_
 refine Nss ?_
 refine Sq (Rg [0, 1, 2, 3, 4, 5, 6, 7] ?_)
 obtain ⟨j35, hj42, h43⟩ := bind_some h26
 refine RWP.cut (fun f w => ∃ (F2 : Mem), HS w0 F0 w F2 [(sb b21 (kpileuplaw06_Which x2) 83)] ∧ Mem.le F1 F2 ∧ FI f [] [(0, (.slice a0_0 x0.length n0_0)), (1, (.slice a1_0 x1.length n1_0)), (5, (pt b21 0)), (7, (.bool r24)), (24, (.bool j35))]) ?_ ?_
 ·refine Vs 1 ?_
  obtain ⟨r44, hr45, h46⟩ := bind_some hj42
  refine Cl' co_law06_weight hs29 (c_law06_weight N w28 F1 hs29.pers (x0) a0_0 n0_0 hb0_0 (SlA.mono hs0_0 le30) _ hr45) ?_
  rintro _ F3 w48 hs49 le50 rfl
  refine Vs 2 ?_
  refine Sp h46 (fun hb52 h53 => ?_) (fun hb52 h54 => ?_)
  ·refine Ss hb52 3 ?_
   refine Pk1 hb52 ?_
   obtain rfl := some_inj h53
   exact RWP.nil ⟨rfl, F3, hs49, le50, fI⟩
  ·refine Vgs hb52 1 ?_
   obtain ⟨r55, hr56, h57⟩ := bind_some h54
   refine Cg hb52 co_law06_few hs49 (c_law06_few N w48 F3 hs49.pers (x1) a1_0 n1_0 hb1_0 (SlA.mono hs1_0 (le30.trans le50)) (200) _ hr56) ?_
   rintro _ F4 w59 hs60 le61 rfl
   refine Vgs hb52 1 ?_
   refine Pk0 hb52 ?_
   obtain rfl := some_inj h57
   exact RWP.nil ⟨rfl, F4, hs60, (le50.trans le61), fI⟩
 ·rintro f w32 ⟨F2, hs33, le34, ⟨_, rfl⟩⟩
  refine thenQ_nrm ?_
  refine Cd h43 (fun hb63 h64 => ?_) (fun hb63 h65 => ?_)
  ·refine Sq (Rg [0, 1] ?_)
   refine Vs 2 ?_
   refine Nt ?_
   refine Rt ?_
   refine thenQ_ret ?_
   obtain rfl := some_inj h64
   exact Re [(.bool r24)] hs33 rfl
  ·refine Sc ?_
   refine thenQ_nrm ?_
   refine Sq (Rg [0, 1, 2, 3, 4, 5, 6, 7, 8, 9, 10, 11] ?_)
   refine Vs 2 ?_
   refine Ld hs33.at0 ?_
   refine Vs 1 ?_
   refine Ld hs33.at0 ?_
   refine Vs 1 ?_
   obtain ⟨r66, hr67, h68⟩ := bind_some h65
   refine Cl' co_rules_Clash hs33 (c_rules_Clash N w32 F2 hs33.pers (x0) a0_0 n0_0 hb0_0 (SlA.mono hs0_0 (le30.trans le34)) (x2.I) (x2.K) (x1) a1_0 n1_0 hb1_0 (SlA.mono hs1_0 (le30.trans le34)) _ hr67) ?_
   rintro _ F5 w70 hs71 le72 ⟨ar66_0_0, nr66_0_0, rfl, hbr66_0_0, hsr66_0_0⟩
   refine Vs 5 ?_
   refine Nss (Rg [0, 1, 2, 3, 4, 5, 6, 7, 8, 9, 10, 11] ?_)
   refine Vs 2 ?_
   refine Ld hs71.at0 ?_
   refine Vs 1 ?_
   refine Ld hs71.at0 ?_
   refine Vs 1 ?_
   obtain ⟨r74, hr75, h76⟩ := bind_some h68
   refine Cl' co_rules_Clash hs71 (c_rules_Clash N w70 F5 hs71.pers (x0) a0_0 n0_0 hb0_0 (SlA.mono hs0_0 ((le30.trans le34).trans le72)) (x2.K) (x2.I) (x1) a1_0 n1_0 hb1_0 (SlA.mono hs1_0 ((le30.trans le34).trans le72)) _ hr75) ?_
   rintro _ F6 w78 hs79 le80 ⟨ar74_0_0, nr74_0_0, rfl, hbr74_0_0, hsr74_0_0⟩
   refine Vs 5 ?_
   refine Nss ?_
   refine Sq (Rg [0, 1, 2, 3, 4, 5, 6, 7, 8] ?_)
   obtain ⟨j85, hj94, h95⟩ := bind_some h76
   refine RWP.cut (fun f w => ∃ (F7 : Mem), HS w0 F0 w F7 [(sb b21 (kpileuplaw06_Which x2) 83)] ∧ Mem.le F6 F7 ∧ FI f [] [(0, (.slice a0_0 x0.length n0_0)), (1, (.slice a1_0 x1.length n1_0)), (5, (pt b21 0)), (7, (.bool r24)), (8, (.slice ar66_0_0 r66.1.length nr66_0_0)), (9, (vi r66.2)), (54, (.bool j85))]) ?_ ?_
   ·refine Vs 4 ?_
    refine Sp hj94 (fun hb96 h97 => ?_) (fun hb96 h98 => ?_)
    ·refine Ss hb96 4 ?_
     refine Pk1 hb96 ?_
     obtain rfl := some_inj h97
     exact RWP.nil ⟨rfl, F6, hs79, (Mem.le.refl _), fI⟩
    ·refine Vgs hb96 2 ?_
     obtain ⟨r99, hr100, h101⟩ := bind_some h98
     refine Cg hb96 co_law06_same hs79 (c_law06_same N w78 F6 hs79.pers (r66.1) ar66_0_0 nr66_0_0 hbr66_0_0 (SlA.mono hsr66_0_0 le80) (r74.1) ar74_0_0 nr74_0_0 hbr74_0_0 hsr74_0_0 _ hr100) ?_
     rintro _ F8 w103 hs104 le105 rfl
     refine Vgs hb96 1 ?_
     refine Pk0 hb96 ?_
     obtain rfl := some_inj h101
     exact RWP.nil ⟨rfl, F8, hs104, le105, fI⟩
   ·rintro f w82 ⟨F7, hs83, le84, ⟨_, rfl⟩⟩
    refine thenQ_nrm ?_
    refine Cd h95 (fun hb107 h108 => ?_) (fun hb107 h109 => ?_)
    ·refine Sq (Rg [0] ?_)
     refine Vs 1 ?_
     refine Nt ?_
     refine Rt ?_
     refine thenQ_ret ?_
     obtain rfl := some_inj h108
     exact Re [(.bool false)] hs83 rfl
    ·refine Sc ?_
     refine thenQ_nrm ?_
     refine Sq ?_
     refine Sq (Rg [0, 1] ?_)
     refine Vs 2 ?_
     refine Nt ?_
     refine Cd h109 (fun hb110 h111 => ?_) (fun hb110 h112 => ?_)
     ·refine Sq (Rg [0, 1] ?_)
      refine Vs 2 ?_
      refine Nt ?_
      refine Rt ?_
      refine thenQ_ret ?_
      obtain rfl := some_inj h111
      exact Re [(.bool r24)] hs83 rfl
     ·refine Sc ?_
      refine thenQ_nrm ?_
      refine Sq ?_
      refine Sq (Rg [0, 1, 2, 3, 4, 5, 6, 7, 8, 9, 10, 11, 12, 13, 14, 15, 16, 17, 18, 19, 20, 21, 22, 23, 24, 25, 26, 27] ?_)
      obtain ⟨j116, hj123, h124⟩ := bind_some h112
      refine RWP.cut (fun f w => ∃ (F9 : Mem), HS w0 F0 w F9 [(sb b21 (kpileuplaw06_Which x2) 83)] ∧ Mem.le F7 F9 ∧ FI f [] [(0, (.slice a0_0 x0.length n0_0)), (5, (pt b21 0)), (7, (.bool r24)), (8, (.slice ar66_0_0 r66.1.length nr66_0_0)), (85, (.bool j116))]) ?_ ?_
      ·refine Vs 1 ?_
       refine Ld hs83.at0 ?_
       refine Vs 2 ?_
       refine Sp hj123 (fun hb125 h126 => ?_) (fun hb125 h127 => ?_)
       ·refine Ss hb125 5 ?_
        refine Pk1 hb125 ?_
        refine Vs 1 ?_
        refine Ss (rfl : true = true) 3 ?_
        refine Pk1 (rfl : true = true) ?_
        refine Vs 1 ?_
        refine Ss (rfl : true = true) 5 ?_
        refine Pk1 (rfl : true = true) ?_
        refine Vs 1 ?_
        refine Ss (rfl : true = true) 4 ?_
        refine Pk1 (rfl : true = true) ?_
        obtain rfl := some_inj h126
        exact RWP.nil ⟨rfl, F7, hs83, (Mem.le.refl _), fI⟩
       ·refine Vgs hb125 1 ?_
        refine Lg hb125 hs83.at0 ?_
        refine Vgs hb125 3 ?_
        refine Pk0 hb125 ?_
        refine Vs 1 ?_
        refine Sp h127 (fun hb128 h129 => ?_) (fun hb128 h130 => ?_)
        ·refine Ss hb128 3 ?_
         refine Pk1 hb128 ?_
         refine Vs 1 ?_
         refine Ss (rfl : true = true) 5 ?_
         refine Pk1 (rfl : true = true) ?_
         refine Vs 1 ?_
         refine Ss (rfl : true = true) 4 ?_
         refine Pk1 (rfl : true = true) ?_
         obtain rfl := some_inj h129
         exact RWP.nil ⟨rfl, F7, hs83, (Mem.le.refl _), fI⟩
        ·refine Vgs hb128 1 ?_
         refine Lg hb128 hs83.at0 ?_
         refine Vgs hb128 1 ?_
         refine Pk0 hb128 ?_
         refine Vs 1 ?_
         refine Sp h130 (fun hb131 h132 => ?_) (fun hb131 h133 => ?_)
         ·refine Ss hb131 5 ?_
          refine Pk1 hb131 ?_
          refine Vs 1 ?_
          refine Ss (rfl : true = true) 4 ?_
          refine Pk1 (rfl : true = true) ?_
          obtain rfl := some_inj h132
          exact RWP.nil ⟨rfl, F7, hs83, (Mem.le.refl _), fI⟩
         ·refine Vgs hb131 1 ?_
          refine Lg hb131 hs83.at0 ?_
          refine Vgs hb131 3 ?_
          refine Pk0 hb131 ?_
          refine Vs 1 ?_
          refine Sp h133 (fun hb134 h135 => ?_) (fun hb134 h136 => ?_)
          ·refine Ss hb134 4 ?_
           refine Pk1 hb134 ?_
           obtain rfl := some_inj h135
           exact RWP.nil ⟨rfl, F7, hs83, (Mem.le.refl _), fI⟩
          ·refine Vgs hb134 2 ?_
           obtain ⟨r137, hr138, h139⟩ := bind_some h136
           refine Cg hb134 co_law06_in hs83 (c_law06_in N w82 F7 hs83.pers (r66.1) ar66_0_0 nr66_0_0 hbr66_0_0 (SlA.mono hsr66_0_0 (le80.trans le84)) (x1) a1_0 n1_0 hb1_0 (SlA.mono hs1_0 ((((le30.trans le34).trans le72).trans le80).trans le84)) _ hr138) ?_
           rintro _ F10 w141 hs142 le143 rfl
           refine Vgs hb134 1 ?_
           refine Pk0 hb134 ?_
           obtain rfl := some_inj h139
           exact RWP.nil ⟨rfl, F10, hs142, le143, fI⟩
      ·rintro f w113 ⟨F9, hs114, le115, ⟨_, rfl⟩⟩
       refine thenQ_nrm ?_
       refine Cd h124 (fun hb145 h146 => ?_) (fun hb145 h147 => ?_)
       ·refine Sq (Rg [0] ?_)
        refine Vs 1 ?_
        refine Nt ?_
        refine Rt ?_
        refine thenQ_ret ?_
        obtain rfl := some_inj h146
        exact Re [(.bool false)] hs114 rfl
       ·refine Sc ?_
        refine thenQ_nrm ?_
        refine Sq (Rg [0, 1, 2, 3, 4, 5, 6, 7, 8, 9, 10, 11, 12] ?_)
        refine Vs 2 ?_
        refine Ld hs114.at0 ?_
        obtain ⟨x148, hx149, h151⟩ := bind_some h147
        obtain ⟨hi150, hx149'⟩ := idx_spec hx149
        obtain ⟨b152, o153, C154, E155, fz156, rfl, hF158, hE159⟩ := SlA.open (SlA.mono hs0_0 (((((le30.trans le34).trans le72).trans le80).trans le84).trans le115)) hx149'
        obtain ⟨ae160_2, ne160_2, ae160_5, ne160_5, hc161, hbe160_2, hse160_2, hbe160_5, hse160_5⟩ := hE159 _ _ hx149'
        refine Ix hi150 ?_
        refine Vs 1 ?_
        refine Lx 0 (hs114.pers _ _ hF158) hc161 ?_
        refine Vs 1 ?_
        obtain ⟨r162, hr163, h164⟩ := bind_some h151
        refine Cl' co_rules_Eval hs114 (c_rules_Eval N w113 F9 hs114.pers (x148.When) ae160_2 ne160_2 hbe160_2 hse160_2 (r66.1) ar66_0_0 nr66_0_0 hbr66_0_0 (SlA.mono hsr66_0_0 ((le80.trans le84).trans le115)) _ hr163) ?_
        rintro _ F11 w166 hs167 le168 rfl
        refine Vs 5 ?_
        refine Nss (Rg [0, 1, 2, 3, 4, 5, 6, 7, 8, 9, 10, 11, 12] ?_)
        refine Vs 2 ?_
        refine Ld hs167.at0 ?_
        obtain ⟨x170, hx171, h173⟩ := bind_some h164
        obtain ⟨hi172, hx171'⟩ := idx_spec hx171
        obtain ⟨ae174_2, ne174_2, ae174_5, ne174_5, hc175, hbe174_2, hse174_2, hbe174_5, hse174_5⟩ := hE159 _ _ hx171'
        refine Ix hi172 ?_
        refine Vs 1 ?_
        refine Lx 0 (hs167.pers _ _ (le168 _ _ hF158)) hc175 ?_
        refine Vs 1 ?_
        obtain ⟨r176, hr177, h178⟩ := bind_some h173
        refine Cl' co_rules_Eval hs167 (c_rules_Eval N w166 F11 hs167.pers (x170.When) ae174_2 ne174_2 hbe174_2 (SlA.mono hse174_2 le168) (r66.1) ar66_0_0 nr66_0_0 hbr66_0_0 (SlA.mono hsr66_0_0 (((le80.trans le84).trans le115).trans le168)) _ hr177) ?_
        rintro _ F12 w180 hs181 le182 rfl
        refine Vs 5 ?_
        refine Nss (Rg [0, 1, 2, 3, 4, 5, 6, 7, 8, 9, 10, 11, 12, 13, 14, 15, 16, 17] ?_)
        refine RWP.cut (fun f w => ∃ (F13 : Mem), HS w0 F0 w F13 [] ∧ Mem.le F12 F13 ∧ FI f [] [(6, (.bool (r24 && ((r162.2 == 0) && ((r176.2 == 0) && ((r162.1 == 1) && (r176.1 == 1)))))))]) ?_ ?_
        ·refine Vs 2 ?_
         refine RWP.split r24 (fun hb189 => ?_) (fun hb189 => ?_)
         ·refine Vgs hb189 2 ?_
          refine Pk1 hb189 ?_
          refine Vs 1 ?_
          refine RWP.split (r162.2 == 0) (fun hb190 => ?_) (fun hb190 => ?_)
          ·refine Vgs hb190 2 ?_
           refine Pk1 hb190 ?_
           refine Vs 1 ?_
           refine RWP.split (r176.2 == 0) (fun hb191 => ?_) (fun hb191 => ?_)
           ·refine Vgs hb191 2 ?_
            refine Pk1 hb191 ?_
            refine Vs 1 ?_
            refine RWP.split (r162.1 == 1) (fun hb192 => ?_) (fun hb192 => ?_)
            ·refine Vgs hb192 2 ?_
             refine Pk1 hb192 ?_
             refine Vs 1 ?_
             exact RWP.nil ⟨rfl, F12, hs181.dr0, (Mem.le.refl _), (fJ ⟨(congrArg Value.bool (and_t hb189 (and_t hb190 (and_t hb191 (and_t hb192 (rfl)))))), trivial⟩)⟩
            ·refine Ss hb192 2 ?_
             refine Pk0 hb192 ?_
             refine Vs 1 ?_
             exact RWP.nil ⟨rfl, F12, hs181.dr0, (Mem.le.refl _), (fJ ⟨(congrArg Value.bool (and_t hb189 (and_t hb190 (and_t hb191 (and_f hb192 (rfl)))))), trivial⟩)⟩
           ·refine Ss hb191 2 ?_
            refine Pk0 hb191 ?_
            refine Vs 1 ?_
            refine Ss (rfl : false = false) 2 ?_
            refine Pk0 (rfl : false = false) ?_
            refine Vs 1 ?_
            exact RWP.nil ⟨rfl, F12, hs181.dr0, (Mem.le.refl _), (fJ ⟨(congrArg Value.bool (and_t hb189 (and_t hb190 (and_f hb191 (rfl))))), trivial⟩)⟩
          ·refine Ss hb190 2 ?_
           refine Pk0 hb190 ?_
           refine Vs 1 ?_
           refine Ss (rfl : false = false) 2 ?_
           refine Pk0 (rfl : false = false) ?_
           refine Vs 1 ?_
           refine Ss (rfl : false = false) 2 ?_
           refine Pk0 (rfl : false = false) ?_
           refine Vs 1 ?_
           exact RWP.nil ⟨rfl, F12, hs181.dr0, (Mem.le.refl _), (fJ ⟨(congrArg Value.bool (and_t hb189 (and_f hb190 (rfl)))), trivial⟩)⟩
         ·refine Ss hb189 2 ?_
          refine Pk0 hb189 ?_
          refine Vs 1 ?_
          refine Ss (rfl : false = false) 2 ?_
          refine Pk0 (rfl : false = false) ?_
          refine Vs 1 ?_
          refine Ss (rfl : false = false) 2 ?_
          refine Pk0 (rfl : false = false) ?_
          refine Vs 1 ?_
          refine Ss (rfl : false = false) 2 ?_
          refine Pk0 (rfl : false = false) ?_
          refine Vs 1 ?_
          exact RWP.nil ⟨rfl, F12, hs181.dr0, (Mem.le.refl _), (fJ ⟨(congrArg Value.bool (and_f hb189 (rfl))), trivial⟩)⟩
        ·rintro f w184 ⟨F13, hs185, le186, ⟨_, rfl⟩⟩
         refine thenQ_nrm ?_
         refine Rt ?_
         obtain rfl := some_inj h178
         exact Re [(.bool (r24 && ((r162.2 == 0) && ((r176.2 == 0) && ((r162.1 == 1) && (r176.1 == 1))))))] hs185 rfl
end Go.Proofs.YtaihlcdkcampbaaGreatDoor
namespace Go.Proofs.YtaihlcdkcampbaaGreatDoor
open Go.Proofs
end Go.Proofs.YtaihlcdkcampbaaGreatDoor
namespace Go.Proofs.YtaihlcdkcampbaaGreatDoor
section
variable {N : Nat}
theorem s_in {d : List Span} {f : List Int} (hN : 100 < N) (hd : d.length = 14) (h : box d f) : law06_in N f d = some true := by
 have hl := box_len h
 unfold law06_in
 rw [show ((f.length : Int) != (d.length : Int)) = false by rw [hl]; simp, cond_false]
 rw [iter_first f (fun _ => false) (fun _ => false) (fun i hi => by
  have hb := box_get h i (by omega) hi
  unfold law06_in_L0
  rw [lt_t hi, cond_true]
  simp only [idx_nat hi, idx_nat (show i < d.length by omega), Option.bind_some]
  rw [decide_eq_false (by omega), cond_false, decide_eq_false (by omega), Option.bind_some, cond_false]) (by unfold law06_in_L0; rw [lt_f, cond_false]) (by omega) (by omega), any_none]
 rfl
theorem bothT_comm {l : List Clause} {i k : Int} : bothT l i k = bothT l k i := by
 funext f
 unfold bothT
 cases l[i.toNat]? <;> cases l[k.toNat]? <;> simp [Bool.and_comm]
theorem clashB_comm {l : List Clause} {i k : Int} : clashB l i k = clashB l k i := by
 unfold clashB
 rw [Bool.eq_iff_iff]
 simp only [Bool.or_eq_true, decide_eq_true_eq, beq_iff_eq]
 omega
theorem clashS_comm {l : List Clause} {i k : Int} {d : List Span} : clashS l i k d = clashS l k i d := by
 unfold clashS
 rw [clashB_comm, bothT_comm]
theorem found_zero {o : Option (List Int)} (h : (found o).2 = 0) : ∃ f, o = some f ∧ found o = (f, 0) := by
 cases o with
 | none => simp [found] at h
 | some f => exact ⟨f, rfl, rfl⟩
theorem clash_zero {l : List Clause} {i k : Int} {d : List Span} (h : (clashS l i k d).2 = 0) : sndL l = true ∧ dom d = true ∧ clashB l i k = false ∧ ∃ f, f ∈ allL d ∧ bothT l i k f = true ∧ clashS l i k d = (f, 0) := by
 unfold clashS at h ⊢
 cases hs : sndL l with
 | false => rw [hs, if_pos rfl] at h; simp at h
 | true =>
  rw [hs, if_neg tf] at h
  cases hd : dom d with
  | false => rw [hd, if_pos rfl] at h; simp at h
  | true =>
   rw [hd, if_neg tf] at h
   cases hc : clashB l i k with
   | true => rw [hc, if_pos rfl] at h; simp at h
   | false =>
    rw [hc, if_neg (by simp)] at h
    obtain ⟨f, h1, h2⟩ := found_zero h
    refine ⟨rfl, rfl, rfl, f, List.mem_of_find?_eq_some h1, List.find?_some h1, ?_⟩
    rw [if_neg tf, if_neg tf, if_neg (by simp), h2]
theorem evalS_w {l : List Clause} {i : Nat} {f : List Int} (hs : sndL l = true) (hi : i < l.length) (hf : fac f = true) : evalS l[i].When f = (val f l[i].When, 0) := by
 have := sndL_c hs (List.getElem_mem hi)
 unfold sndC sndT at this
 simp only [Bool.and_eq_true, decide_eq_true_eq] at this
 unfold evalS snd0
 rw [decide_eq_true this.1.1, decide_eq_true (by rw [this.1.2]; decide : kd l[i].When ≠ 0), hf]
 rfl
theorem clashes_holds (l : List Clause) (d : List Span) (x : pileuplaw06_Which) (hN : 2000000 < N) (hl : FitL N l) : law06_RulesClashes N l d x = some true := by
 obtain ⟨w, hw, _⟩ := s_few (N := N) (by omega) d 200
 have h2 := clashS_len (l := l) (d := d) (i := x.I) (k := x.K)
 unfold law06_RulesClashes law06_awake
 rw [s_weight hl, hw, s_Clash (by omega) hl, s_Clash (by omega) hl, clashS_comm (i := x.K) (k := x.I)]
 simp only [Option.bind_some]
 rw [m_same_self (l := (clashS l x.I x.K d).1) (by omega) (by omega)]
 generalize decide (wt l > 200) = b1
 have main : (bif ((clashS l x.I x.K d).2 != 0) then some true else ((bif (decide (x.I < 0)) then some true else (bif (decide (x.I ≥ (l.length : Int))) then some true else (bif (decide (x.K < 0)) then some true else (bif (decide (x.K ≥ (l.length : Int))) then some true else ((law06_in N (clashS l x.I x.K d).1 d).bind fun r137 => some (!r137)))))).bind fun j116 => (bif j116 then some false else ((idx l x.I).bind fun x148 => ((rules_Eval N x148.When (clashS l x.I x.K d).1).bind fun r162 => ((idx l x.K).bind fun x170 => ((rules_Eval N x170.When (clashS l x.I x.K d).1).bind fun r176 => some (true && ((r162.2 == 0) && ((r176.2 == 0) && ((r162.1 == 1) && (r176.1 == 1)))))))))))) = some true := by
  by_cases hz : (clashS l x.I x.K d).2 = 0
  ·obtain ⟨hs, hd, hc, f, hf, hb, he⟩ := clash_zero hz
   obtain ⟨h3, h4, h5, h6, _⟩ := clash_in hc
   have hfc := dom_fac hd hf
   rw [he, show ((0 : Int) != 0) = false from rfl, cond_false, decide_eq_false (by omega), cond_false, decide_eq_false (by omega), cond_false, decide_eq_false (by omega), cond_false, decide_eq_false (by omega), cond_false, s_in (by omega) (dom_len hd) (mem_allL.1 hf), Option.bind_some, Option.bind_some, Bool.not_true, cond_false, idx_int h3 h4, Option.bind_some, s_Eval (by omega) (hl.c _ (List.getElem_mem h4)).1, Option.bind_some, idx_int h5 h6, Option.bind_some, s_Eval (by omega) (hl.c _ (List.getElem_mem h6)).1, Option.bind_some, evalS_w hs h4 hfc, evalS_w hs h6 hfc]
   unfold bothT at hb
   rw [List.getElem?_eq_getElem h4, List.getElem?_eq_getElem h6] at hb
   simp only [Bool.and_eq_true] at hb
   unfold isT at hb
   rw [hb.1, hb.2]; rfl
  ·rw [show ((clashS l x.I x.K d).2 != 0) = true by simpa using hz, cond_true]
 rw [show ((clashS l x.I x.K d).2 != (clashS l x.I x.K d).2) = false by simp, cond_false, Option.bind_some, Bool.not_true, Option.bind_some, cond_false]
 cases b1 with
 | true => rfl
 | false =>
  cases w with
  | false => rfl
  | true => exact main
end
end Go.Proofs.YtaihlcdkcampbaaGreatDoor
namespace Go.Proofs.YtaihlcdkcampbaaGreatDoor
open Go.Proofs
end Go.Proofs.YtaihlcdkcampbaaGreatDoor
namespace Go.Proofs.YtaihlcdkcampbaaGreatDoor
open Go.Proofs
end Go.Proofs.YtaihlcdkcampbaaGreatDoor
namespace Go.Proofs.YtaihlcdkcampbaaGreatDoor
section
variable {N : Nat}
end
end Go.Proofs.YtaihlcdkcampbaaGreatDoor
namespace Go.Proofs.YtaihlcdkcampbaaGreatDoor
open Go.Proofs
end Go.Proofs.YtaihlcdkcampbaaGreatDoor
namespace Go.Proofs.YtaihlcdkcampbaaGreatDoor
open Go.Proofs
end Go.Proofs.YtaihlcdkcampbaaGreatDoor
namespace Go.Proofs.YtaihlcdkcampbaaGreatDoor
section
variable {N : Nat}
end
end Go.Proofs.YtaihlcdkcampbaaGreatDoor
namespace Go.Proofs.YtaihlcdkcampbaaGreatDoor
theorem clashes_row (l : List Clause) (d : List Span) (x : pileuplaw06_Which) (h0 : qL qClause l) (_ : qL qSpan d) (_ : qpileuplaw06_Which x) : ∃ N, law06_RulesClashes N l d x = some true := by
 obtain ⟨m, hm⟩ := fitL_ex h0
 exact ⟨m + 2000001, clashes_holds l d x (by omega) (hm _ (by omega))⟩
end Go.Proofs.YtaihlcdkcampbaaGreatDoor
