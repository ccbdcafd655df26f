/- Lemmas of the claim RulesGapless, printed by a program of the claimant and by hand. No statement of the seat is proved here. -/
import Derived.Test.YtaihlcdkcampbaaGreatDoorE15x4
set_option linter.unusedVariables false
set_option linter.unusedSimpArgs false
set_option linter.unusedSectionVars false
set_option maxHeartbeats 4000000
set_option maxRecDepth 100000
namespace Go.Proofs.YtaihlcdkcampbaaGreatDoor
open Go.Proofs
def zExpr : Expr := { Op := 0, Value := 0, Kids := ([] : List Expr) }
def zPlaced : rules_placed := { Expr := zExpr, at_ := 0 }
def zBook : Book := { Points := ([] : List Clause), Multipliers := ([] : List Clause), Penalties := ([] : List Clause), Repeats := ([] : List Expr) }
def readAs {α β : Type} (N : Nat) (s : List UInt8) (run : rules_parser → Option (rules_bad ⊕ α)) (z : β) (f : α → β) : Option (β × Int × Int) :=
 bif decide ((s.length : Int) > 65536) then some (z, 2, 0) else (rules_tokensOf N s).bind fun l => (run { l_ := l, open_ := 0 }).bind fun q => sk q (fun b => bif b.e_ != 0 then some (z, b.e_, b.at_) else none) (fun a => some (f a, 0, 0))
def rules_ParseExpr (N : Nat) (x0 : List UInt8) : Option (Expr × Int × Int) := readAs N x0 (fun p => rules_ParseExpr_1 N p zPlaced) zExpr (fun a => a.2.Expr)
def rules_Parse (N : Nat) (x0 : List UInt8) : Option (Book × Int × Int) := readAs N x0 (fun p => rules_Parse_1 N p zBook) zBook (fun a => a.2)
theorem bif_true {α : Type} {b : Bool} {x y : α} (h : b = true) : (bif b then x else y) = x := by subst h; rfl
theorem bif_false {α : Type} {b : Bool} {x y : α} (h : b = false) : (bif b then x else y) = y := by subst h; rfl
theorem co_rules_ParseExpr : CallOk Tryz.prog 25 := fun _ _ => by kernel_rfl
set_option maxRecDepth 100000 in
theorem c_rules_ParseExpr (N : Nat) (w0 : World) (F0 : Mem) (hF : ∀ b o, F0 b = some o → w0.heap[b]? = some o) (hG : Glob F0) (x0 : List UInt8) (r : Expr × Int × Int) (h : rules_ParseExpr N x0 = some r) :
  Calls Tryz.prog 25 ([.string ⟨x0.toArray⟩] : List Value).toArray w0 (FRet w0 F0 fun F' v => ∃ (aq0_2 : Option Addr) (nq0_2 : Nat), v = (.tuple #[(.agg #[(.int .i64 r.1.Op), (.int .i64 r.1.Value), (.slice aq0_2 r.1.Kids.length nq0_2)]), (.int .i64 r.2.1), (.int .i64 r.2.2)]) ∧ LC r.1.Kids.length nq0_2 ∧ SlA tExpr F' aq0_2 r.1.Kids) := by
 have hs0 := HS.start hF
 refine calls_of (n := 21) (c := bodyOf Tryz.f25) Tryz.func25 (by kernel_rfl) (by kernel_rfl) (by kernel_rfl) ?_
 refine Sq ?_
 refine Rg [0, 1, 2] ?_
 refine RWP.alloc (dst := some 2) (ty := 0) (g := none) (by kernel_rfl) rfl (t := 33) (z := .agg #[.int .i64 0, .int .i64 0, .slice none 0 0]) (by kernel_rfl) (C := #[.int .i64 0, .int .i64 0, .slice none 0 0]) rfl hs0 (fun b2 w1 hs1 => ?_)
 refine V 3 27 (run_assign (x := .const (.int .i64 0)) (v := .int .i64 0) rfl) ?_
 refine V 4 3 (run_assign (x := .const (.int .i64 0)) (v := .int .i64 0) rfl) ?_
 refine RWP.nil ?_
 refine thenQ_nrm ?_
 refine Sq ?_
 refine Rg [0] ?_
 refine RWP.alloc (dst := some 5) (ty := 0) (g := none) (by kernel_rfl) rfl (t := 113) (z := .agg #[.int .i64 0, .int .i64 0, .slice none 0 0, .int .i64 0]) (by kernel_rfl) (C := #[.int .i64 0, .int .i64 0, .slice none 0 0, .int .i64 0]) rfl hs1 (fun b5 w2 hs2 => ?_)
 refine RWP.nil ?_
 refine thenQ_nrm ?_
 refine Sq ?_
 refine Rg [0, 1, 2, 3, 4, 5, 6, 7] ?_
 refine V 9 9 (run_move (x := .tmp 0) (v := .string ⟨x0.toArray⟩) rfl) ?_
 refine V 10 103 (run_makeFunc (fn := .func 85) (first := #[]) (cap := #[.tmp 5]) (fl := []) (cl := [.pointer (some ⟨b5, 0, none⟩)]) rfl rfl) ?_
 obtain ⟨X, hX⟩ : ∃ X : Own, X = [(some b2, .cells #[.int .i64 0, .int .i64 0, .slice none 0 0] 33 (0, 0))] := ⟨_, rfl⟩
 refine RWP.enter (dst := some 11) (ty := 88) (g := none) (by kernel_rfl) rfl (run_call (f := .func 78) (aos := #[.tmp 9, .tmp 10]) (ats := #[9, 103]) (g := 78) (first := #[]) (cap := #[]) (args := [.string ⟨x0.toArray⟩, .func (.func 85) #[] #[.pointer (some ⟨b5, 0, none⟩)]]) rfl co_rules_read rfl)
  (c_rules_read N hs2 x0 (g := 85) (cap := [.pointer (some ⟨b5, 0, none⟩)]) co_rules_ParseExpr_1 (fun o F' L' => match o with
   | none => ∃ (e : Expr) (at_ : Int) (a : Option Addr) (n : Nat), L' = (some b5, .cells #[.int .i64 e.Op, .int .i64 e.Value, .slice a e.Kids.length n, .int .i64 at_] 113 (0, 0)) :: X ∧ LC e.Kids.length n ∧ SlA tExpr F' a e.Kids ∧ some (e, (0 : Int), (0 : Int)) = some r
   | some x => (bif x.e_ != 0 then some (zExpr, x.e_, x.at_) else none) = some r ∧ (L' = X ∨ ∃ o, L' = (some b5, o) :: X)) ?_ ?_) ?_
 ·intro hc F'
  unfold rules_ParseExpr readAs at h
  rw [bif_true hc] at h
  exact ⟨h, .inr ⟨_, by rw [hX]⟩⟩
 ·intro hc
  unfold rules_ParseExpr readAs at h
  rw [bif_false hc] at h
  obtain ⟨l, hl, h⟩ := bind_some h
  obtain ⟨q, hq, h⟩ := bind_some h
  refine ⟨l, hl, fun w3 F3 be_ ba_ bp a n le3 hb hsl hs3 => ?_⟩
  have hs4 : HS w0 F0 w3 F3 ((some bp, .cells #[.slice a l.length n, .int .i64 0] 100 (0, 0)) :: (some b5, .cells #[.int .i64 0, .int .i64 0, .slice none 0 0, .int .i64 0] 113 (0, 0)) :: (some ba_, ba 0) :: (some be_, be 0) :: X) := by
   rw [hX]; exact (hs3.pick (k := 3) rfl).pick (k := 1) rfl
  refine (c_rules_ParseExpr_1 N (hG.mono (hs3.le)) bp { l_ := l, open_ := 0 } a n hb hsl b5 zPlaced none 0 LC.nil (.inl rfl) hs4 q hq).mono ?_
  rintro e w4 (⟨a1, F4, v, L', rfl, rfl, hs5, le5, aq, nq, az, nz, rfl, rfl, h1, h2, h3, h4⟩ | ⟨x, F4, rfl, rfl, hs5, le5⟩)
  ·exact .inl ⟨_, F4, _, rfl, ((hs5.drop 0).pick (k := 2) rfl).pick (k := 2) rfl, le5, _, _, az, nz, rfl, h3, h4, h⟩
  ·exact .inr ⟨x, F4, _, rfl, hs5, le5, h, .inl rfl⟩
 ·rintro e w5 ⟨o, F5, L5, rfl, hs5, le5, hK⟩
  cases o with
  | none =>
   obtain ⟨e, at_, a, n, rfl, hb, hsl, hr⟩ := hK
   simp only
   refine V 8 88 (run_move (x := .tmp 11) (v := .tuple #[.int .i64 0, .int .i64 0]) rfl) ?_
   refine V 12 27 (run_extract (x := .tmp 8) (vs := #[.int .i64 0, .int .i64 0]) (i := 0) (v := .int .i64 0) rfl rfl) ?_
   refine V 13 3 (run_extract (x := .tmp 8) (vs := #[.int .i64 0, .int .i64 0]) (i := 1) (v := .int .i64 0) rfl rfl) ?_
   refine V 6 27 (run_assign (x := .tmp 12) (v := .int .i64 0) rfl) ?_
   refine V 7 3 (run_assign (x := .tmp 13) (v := .int .i64 0) rfl) ?_
   refine RWP.nil ?_
   refine thenQ_nrm ?_
   refine Sq ?_
   refine Sq ?_
   refine Rg [0, 1] ?_
   refine V 14 27 (run_move (x := .tmp 6) (v := .int .i64 0) rfl) ?_
   refine V 15 4 (run_neq (t := 27) (t' := 27) (x := .tmp 14) (y := .const (.int .i64 0)) (k := .i64) (a := 0) (b := 0) rfl rfl) ?_
   refine RWP.nil ?_
   refine thenQ_nrm ?_
   refine CWP.cond0 (t := false) (by kernel_rfl) rfl rfl ?_
   refine CWP.skip (by kernel_rfl) ?_
   refine thenQ_nrm ?_
   refine Sq ?_
   refine Rg [0, 1, 2, 3, 4] ?_
   refine V 19 0 (run_fieldAddr (s := 113) (x := .tmp 5) (i := 0) (o := 0) (k := 3) (b := b5) (o0 := 0) rfl (by kernel_rfl) rfl (o1 := 0) rfl) ?_
   refine V 20 33 (run_load' (t := 33) (x := .tmp 19) (b := b5) (o := 0) (g := true) (s := 3) (C := #[.int .i64 e.Op, .int .i64 e.Value, .slice a e.Kids.length n, .int .i64 at_]) (v := .agg #[.int .i64 e.Op, .int .i64 e.Value, .slice a e.Kids.length n]) rfl (by kernel_rfl) (hs5.ownAt (k := 0) rfl) rfl rfl rfl) ?_
   subst hX
   refine RWP.store (ty := 0) (g := none) (by kernel_rfl) rfl (x := .tmp 2) (y := .tmp 20) (t := 33) (gg := true) (s := 3) (v := .agg #[.int .i64 e.Op, .int .i64 e.Value, .slice a e.Kids.length n]) (b := b2) (o := 0) (C := #[.int .i64 0, .int .i64 0, .slice none 0 0]) rfl rfl (by kernel_rfl) hs5 (k := 1) rfl rfl rfl rfl (C' := #[.int .i64 e.Op, .int .i64 e.Value, .slice a e.Kids.length n]) rfl (fun w6 hs6 => ?_)
   refine V 3 27 (run_assign (x := .const (.int .i64 0)) (v := .int .i64 0) rfl) ?_
   refine V 4 3 (run_assign (x := .const (.int .i64 0)) (v := .int .i64 0) rfl) ?_
   refine RWP.nil ?_
   refine thenQ_nrm ?_
   refine CWP.ret (by kernel_rfl) ?_
   obtain rfl := some_inj hr
   exact ⟨rfl, _, res_of (l := [.cell 2 33, .tmp 3, .tmp 4]) (by kernel_rfl) (vs := [.agg #[.int .i64 e.Op, .int .i64 e.Value, .slice a e.Kids.length n], .int .i64 0, .int .i64 0]) ⟨b2, 0, rfl, run_loadVar' (t := 33) (g := true) (s := 3) (by kernel_rfl) (hs6.ownAt (k := 1) rfl) rfl (by decide), rfl, rfl, trivial⟩, _, F5, rfl, hs6.clear, a, n, rfl, hb, hsl⟩
  | some x =>
   obtain ⟨hr, hL⟩ := hK
   have hs6 : HS w0 F0 w5 F5 X := by
    rcases hL with rfl | ⟨o, rfl⟩
    ·exact hs5
    ·exact hs5.drop 0
   clear hs5 hL
   cases hne : x.e_ != 0 with
   | false => rw [hne] at hr; cases hr
   | true =>
    rw [hne] at hr
    obtain rfl := some_inj hr
    simp only
    refine V 8 88 (run_move (x := .tmp 11) (v := .tuple #[.int .i64 x.e_, .int .i64 x.at_]) rfl) ?_
    refine V 12 27 (run_extract (x := .tmp 8) (vs := #[.int .i64 x.e_, .int .i64 x.at_]) (i := 0) (v := .int .i64 x.e_) rfl rfl) ?_
    refine V 13 3 (run_extract (x := .tmp 8) (vs := #[.int .i64 x.e_, .int .i64 x.at_]) (i := 1) (v := .int .i64 x.at_) rfl rfl) ?_
    refine V 6 27 (run_assign (x := .tmp 12) (v := .int .i64 x.e_) rfl) ?_
    refine V 7 3 (run_assign (x := .tmp 13) (v := .int .i64 x.at_) rfl) ?_
    refine RWP.nil ?_
    refine thenQ_nrm ?_
    refine Sq ?_
    refine Sq ?_
    refine Rg [0, 1] ?_
    refine V 14 27 (run_move (x := .tmp 6) (v := .int .i64 x.e_) rfl) ?_
    refine V 15 4 (run_neq (t := 27) (t' := 27) (x := .tmp 14) (y := .const (.int .i64 0)) (k := .i64) (a := x.e_) (b := 0) rfl rfl) ?_
    refine RWP.nil ?_
    refine thenQ_nrm ?_
    refine CWP.cond1 (t := x.e_ != 0) (by kernel_rfl) rfl hne ?_
    refine Sq ?_
    refine Rg [0, 1, 2, 3, 4, 5] ?_
    refine V 16 33 (run_build2 (t := 33) (parts := #[]) (vs := []) rfl (cs := [.int .i64 0, .int .i64 0, .slice none 0 0]) (by kernel_rfl)) ?_
    refine V 17 27 (run_move (x := .tmp 6) (v := .int .i64 x.e_) rfl) ?_
    refine V 18 3 (run_move (x := .tmp 7) (v := .int .i64 x.at_) rfl) ?_
    subst hX
    refine RWP.store (ty := 0) (g := none) (by kernel_rfl) rfl (x := .tmp 2) (y := .tmp 16) (t := 33) (gg := true) (s := 3) (v := .agg #[.int .i64 0, .int .i64 0, .slice none 0 0]) (b := b2) (o := 0) (C := #[.int .i64 0, .int .i64 0, .slice none 0 0]) rfl rfl (by kernel_rfl) hs6 (k := 0) rfl rfl rfl rfl (C' := #[.int .i64 0, .int .i64 0, .slice none 0 0]) rfl (fun w7 hs7 => ?_)
    refine V 3 27 (run_assign (x := .tmp 17) (v := .int .i64 x.e_) rfl) ?_
    refine V 4 3 (run_assign (x := .tmp 18) (v := .int .i64 x.at_) rfl) ?_
    refine RWP.nil ?_
    refine thenQ_nrm ?_
    refine CWP.ret (by kernel_rfl) ?_
    refine thenQ_ret ?_
    exact ⟨rfl, _, res_of (l := [.cell 2 33, .tmp 3, .tmp 4]) (by kernel_rfl) (vs := [.agg #[.int .i64 0, .int .i64 0, .slice none 0 0], .int .i64 x.e_, .int .i64 x.at_]) ⟨b2, 0, rfl, run_loadVar' (t := 33) (g := true) (s := 3) (by kernel_rfl) (hs7.ownAt (k := 0) rfl) rfl (by decide), rfl, rfl, trivial⟩, _, F5, rfl, hs7.clear, none, 0, rfl, LC.nil, .inl rfl⟩
theorem co_rules_Parse : CallOk Tryz.prog 22 := fun _ _ => by kernel_rfl
set_option maxRecDepth 100000 in
theorem c_rules_Parse (N : Nat) (w0 : World) (F0 : Mem) (hF : ∀ b o, F0 b = some o → w0.heap[b]? = some o) (hG : Glob F0) (x0 : List UInt8) (r : Book × Int × Int) (h : rules_Parse N x0 = some r) :
  Calls Tryz.prog 22 ([.string ⟨x0.toArray⟩] : List Value).toArray w0 (FRet w0 F0 fun F' v => ∃ (aq0_0 : Option Addr) (nq0_0 : Nat) (aq0_1 : Option Addr) (nq0_1 : Nat) (aq0_2 : Option Addr) (nq0_2 : Nat) (aq0_3 : Option Addr) (nq0_3 : Nat), v = (.tuple #[(.agg #[(.slice aq0_0 r.1.Points.length nq0_0), (.slice aq0_1 r.1.Multipliers.length nq0_1), (.slice aq0_2 r.1.Penalties.length nq0_2), (.slice aq0_3 r.1.Repeats.length nq0_3)]), (.int .i64 r.2.1), (.int .i64 r.2.2)]) ∧ LC r.1.Points.length nq0_0 ∧ SlA tClause F' aq0_0 r.1.Points ∧ LC r.1.Multipliers.length nq0_1 ∧ SlA tClause F' aq0_1 r.1.Multipliers ∧ LC r.1.Penalties.length nq0_2 ∧ SlA tClause F' aq0_2 r.1.Penalties ∧ LC r.1.Repeats.length nq0_3 ∧ SlA tExpr F' aq0_3 r.1.Repeats) := by
 have hs0 := HS.start hF
 refine calls_of (n := 20) (c := bodyOf Tryz.f22) Tryz.func22 (by kernel_rfl) (by kernel_rfl) (by kernel_rfl) ?_
 refine Sq ?_
 refine Rg [0, 1, 2] ?_
 refine RWP.alloc (dst := some 2) (ty := 0) (g := none) (by kernel_rfl) rfl (t := 26) (z := .agg #[.slice none 0 0, .slice none 0 0, .slice none 0 0, .slice none 0 0]) (by kernel_rfl) (C := #[.slice none 0 0, .slice none 0 0, .slice none 0 0, .slice none 0 0]) rfl hs0 (fun b2 w1 hs1 => ?_)
 refine V 3 27 (run_assign (x := .const (.int .i64 0)) (v := .int .i64 0) rfl) ?_
 refine V 4 3 (run_assign (x := .const (.int .i64 0)) (v := .int .i64 0) rfl) ?_
 refine RWP.nil ?_
 refine thenQ_nrm ?_
 refine Sq ?_
 refine Rg [0] ?_
 refine RWP.alloc (dst := some 5) (ty := 0) (g := none) (by kernel_rfl) rfl (t := 26) (z := .agg #[.slice none 0 0, .slice none 0 0, .slice none 0 0, .slice none 0 0]) (by kernel_rfl) (C := #[.slice none 0 0, .slice none 0 0, .slice none 0 0, .slice none 0 0]) rfl hs1 (fun b5 w2 hs2 => ?_)
 refine RWP.nil ?_
 refine thenQ_nrm ?_
 refine Sq ?_
 refine Rg [0, 1, 2, 3, 4, 5, 6, 7] ?_
 refine V 9 9 (run_move (x := .tmp 0) (v := .string ⟨x0.toArray⟩) rfl) ?_
 refine V 10 103 (run_makeFunc (fn := .func 79) (first := #[]) (cap := #[.tmp 5]) (fl := []) (cl := [.pointer (some ⟨b5, 0, none⟩)]) rfl rfl) ?_
 obtain ⟨X, hX⟩ : ∃ X : Own, X = [(some b2, .cells #[.slice none 0 0, .slice none 0 0, .slice none 0 0, .slice none 0 0] 26 (0, 0))] := ⟨_, rfl⟩
 refine RWP.enter (dst := some 11) (ty := 88) (g := none) (by kernel_rfl) rfl (run_call (f := .func 78) (aos := #[.tmp 9, .tmp 10]) (ats := #[9, 103]) (g := 78) (first := #[]) (cap := #[]) (args := [.string ⟨x0.toArray⟩, .func (.func 79) #[] #[.pointer (some ⟨b5, 0, none⟩)]]) rfl co_rules_read rfl)
  (c_rules_read N hs2 x0 (g := 79) (cap := [.pointer (some ⟨b5, 0, none⟩)]) co_rules_Parse_1 (fun o F' L' => match o with
   | none => ∃ (e : Book) (a0 : Option Addr) (n0 : Nat) (a1 : Option Addr) (n1 : Nat) (a2 : Option Addr) (n2 : Nat) (a3 : Option Addr) (n3 : Nat), L' = (some b5, .cells #[.slice a0 e.Points.length n0, .slice a1 e.Multipliers.length n1, .slice a2 e.Penalties.length n2, .slice a3 e.Repeats.length n3] 26 (0, 0)) :: X ∧ LC e.Points.length n0 ∧ SlA tClause F' a0 e.Points ∧ LC e.Multipliers.length n1 ∧ SlA tClause F' a1 e.Multipliers ∧ LC e.Penalties.length n2 ∧ SlA tClause F' a2 e.Penalties ∧ LC e.Repeats.length n3 ∧ SlA tExpr F' a3 e.Repeats ∧ some (e, (0 : Int), (0 : Int)) = some r
   | some x => (bif x.e_ != 0 then some (zBook, x.e_, x.at_) else none) = some r ∧ (L' = X ∨ ∃ o, L' = (some b5, o) :: X)) ?_ ?_) ?_
 ·intro hc F'
  unfold rules_Parse readAs at h
  rw [bif_true hc] at h
  exact ⟨h, .inr ⟨_, by rw [hX]⟩⟩
 ·intro hc
  unfold rules_Parse readAs at h
  rw [bif_false hc] at h
  obtain ⟨l, hl, h⟩ := bind_some h
  obtain ⟨q, hq, h⟩ := bind_some h
  refine ⟨l, hl, fun w3 F3 be_ ba_ bp a n le3 hb hsl hs3 => ?_⟩
  have hs4 : HS w0 F0 w3 F3 ((some bp, .cells #[.slice a l.length n, .int .i64 0] 100 (0, 0)) :: (some b5, .cells #[.slice none 0 0, .slice none 0 0, .slice none 0 0, .slice none 0 0] 26 (0, 0)) :: (none, .cells #[] 0 (0, 0)) :: (none, .cells #[] 0 (0, 0)) :: (none, .cells #[] 0 (0, 0)) :: (none, .cells #[] 0 (0, 0)) :: (some ba_, ba 0) :: (some be_, be 0) :: X) := by
   have h0 : HS w0 F0 w3 F3 ((some bp, .cells #[.slice a l.length n, .int .i64 0] 100 (0, 0)) :: (some b5, .cells #[.slice none 0 0, .slice none 0 0, .slice none 0 0, .slice none 0 0] 26 (0, 0)) :: (some ba_, ba 0) :: (some be_, be 0) :: X) := by
    rw [hX]; exact (hs3.pick (k := 3) rfl).pick (k := 1) rfl
   exact (((((h0.dummy (.cells #[] 0 (0, 0))).dummy (.cells #[] 0 (0, 0))).dummy (.cells #[] 0 (0, 0))).dummy (.cells #[] 0 (0, 0))).pick (k := 5) rfl).pick (k := 5) rfl
  refine (c_rules_Parse_1 N (hG.mono (hs3.le)) bp { l_ := l, open_ := 0 } a n hb hsl b5 zBook none 0 (none, .cells #[] 0 (0, 0)) none 0 (none, .cells #[] 0 (0, 0)) none 0 (none, .cells #[] 0 (0, 0)) none 0 (none, .cells #[] 0 (0, 0)) (RowR.nil _ _ _ _) (RowR.nil _ _ _ _) (RowR.nil _ _ _ _) (RowR.nil _ _ _ _) hs4 q hq).mono ?_
  rintro e w4 (⟨q1, F4, v, L', rfl, rfl, hs5, le5, aq, nq, a0, n0, e0, a1, n1, e1, a2, n2, e2, a3, n3, e3, rfl, rfl, h1, h2, r0, r1, r2, r3⟩ | ⟨x, F4, rfl, rfl, hs5, le5⟩)
  ·have hs6 := hs5.drop 0
   obtain ⟨G0, hg0, lg0, s0⟩ : ∃ Fq, HS w0 F0 w4 Fq ((some b5, .cells #[.slice a0 q1.2.Points.length n0, .slice a1 q1.2.Multipliers.length n1, .slice a2 q1.2.Penalties.length n2, .slice a3 q1.2.Repeats.length n3] 26 (0, 0)) :: e1 :: e2 :: e3 :: (some ba_, ba 0) :: (some be_, be 0) :: X) ∧ Mem.le F4 Fq ∧ SlA tClause Fq a0 q1.2.Points := HS.freezeRow hs6 (k := 1) rfl r0
   obtain ⟨G1, hg1, lg1, s1⟩ : ∃ Fq, HS w0 F0 w4 Fq ((some b5, .cells #[.slice a0 q1.2.Points.length n0, .slice a1 q1.2.Multipliers.length n1, .slice a2 q1.2.Penalties.length n2, .slice a3 q1.2.Repeats.length n3] 26 (0, 0)) :: e2 :: e3 :: (some ba_, ba 0) :: (some be_, be 0) :: X) ∧ Mem.le G0 Fq ∧ SlA tClause Fq a1 q1.2.Multipliers := HS.freezeRow hg0 (k := 1) rfl (r1.mono lg0)
   obtain ⟨G2, hg2, lg2, s2⟩ : ∃ Fq, HS w0 F0 w4 Fq ((some b5, .cells #[.slice a0 q1.2.Points.length n0, .slice a1 q1.2.Multipliers.length n1, .slice a2 q1.2.Penalties.length n2, .slice a3 q1.2.Repeats.length n3] 26 (0, 0)) :: e3 :: (some ba_, ba 0) :: (some be_, be 0) :: X) ∧ Mem.le G1 Fq ∧ SlA tClause Fq a2 q1.2.Penalties := HS.freezeRow hg1 (k := 1) rfl (r2.mono (lg0.trans lg1))
   obtain ⟨G3, hg3, lg3, s3⟩ : ∃ Fq, HS w0 F0 w4 Fq ((some b5, .cells #[.slice a0 q1.2.Points.length n0, .slice a1 q1.2.Multipliers.length n1, .slice a2 q1.2.Penalties.length n2, .slice a3 q1.2.Repeats.length n3] 26 (0, 0)) :: (some ba_, ba 0) :: (some be_, be 0) :: X) ∧ Mem.le G2 Fq ∧ SlA tExpr Fq a3 q1.2.Repeats := HS.freezeRow hg2 (k := 1) rfl (r3.mono ((lg0.trans lg1).trans lg2))
   exact .inl ⟨_, G3, _, rfl, (hg3.pick (k := 2) rfl).pick (k := 2) rfl, (((le5.trans lg0).trans lg1).trans lg2).trans lg3, q1.2, a0, n0, a1, n1, a2, n2, a3, n3, rfl, r0.bound, s0.mono ((lg1.trans lg2).trans lg3), r1.bound, s1.mono (lg2.trans lg3), r2.bound, s2.mono lg3, r3.bound, s3, h⟩
  ·exact .inr ⟨x, F4, _, rfl, hs5, le5, h, .inl rfl⟩
 ·rintro e w5 ⟨o, F5, L5, rfl, hs5, le5, hK⟩
  cases o with
  | none =>
   obtain ⟨e, a0, n0, a1, n1, a2, n2, a3, n3, rfl, hb0, hl0, hb1, hl1, hb2, hl2, hb3, hl3, hr⟩ := hK
   simp only
   refine V 8 88 (run_move (x := .tmp 11) (v := .tuple #[.int .i64 0, .int .i64 0]) rfl) ?_
   refine V 12 27 (run_extract (x := .tmp 8) (vs := #[.int .i64 0, .int .i64 0]) (i := 0) (v := .int .i64 0) rfl rfl) ?_
   refine V 13 3 (run_extract (x := .tmp 8) (vs := #[.int .i64 0, .int .i64 0]) (i := 1) (v := .int .i64 0) rfl rfl) ?_
   refine V 6 27 (run_assign (x := .tmp 12) (v := .int .i64 0) rfl) ?_
   refine V 7 3 (run_assign (x := .tmp 13) (v := .int .i64 0) rfl) ?_
   refine RWP.nil ?_
   refine thenQ_nrm ?_
   refine Sq ?_
   refine Sq ?_
   refine Rg [0, 1] ?_
   refine V 14 27 (run_move (x := .tmp 6) (v := .int .i64 0) rfl) ?_
   refine V 15 4 (run_neq (t := 27) (t' := 27) (x := .tmp 14) (y := .const (.int .i64 0)) (k := .i64) (a := 0) (b := 0) rfl rfl) ?_
   refine RWP.nil ?_
   refine thenQ_nrm ?_
   refine CWP.cond0 (t := false) (by kernel_rfl) rfl rfl ?_
   refine CWP.skip (by kernel_rfl) ?_
   refine thenQ_nrm ?_
   refine Sq ?_
   refine Rg [0, 1, 2, 3] ?_
   refine V 19 26 (run_load' (t := 26) (x := .tmp 5) (b := b5) (o := 0) (g := true) (s := 4) (C := #[.slice a0 e.Points.length n0, .slice a1 e.Multipliers.length n1, .slice a2 e.Penalties.length n2, .slice a3 e.Repeats.length n3]) (v := .agg #[.slice a0 e.Points.length n0, .slice a1 e.Multipliers.length n1, .slice a2 e.Penalties.length n2, .slice a3 e.Repeats.length n3]) rfl (by kernel_rfl) (hs5.ownAt (k := 0) rfl) rfl rfl rfl) ?_
   subst hX
   refine RWP.store (ty := 0) (g := none) (by kernel_rfl) rfl (x := .tmp 2) (y := .tmp 19) (t := 26) (gg := true) (s := 4) (v := .agg #[.slice a0 e.Points.length n0, .slice a1 e.Multipliers.length n1, .slice a2 e.Penalties.length n2, .slice a3 e.Repeats.length n3]) (b := b2) (o := 0) (C := #[.slice none 0 0, .slice none 0 0, .slice none 0 0, .slice none 0 0]) rfl rfl (by kernel_rfl) hs5 (k := 1) rfl rfl rfl rfl (C' := #[.slice a0 e.Points.length n0, .slice a1 e.Multipliers.length n1, .slice a2 e.Penalties.length n2, .slice a3 e.Repeats.length n3]) rfl (fun w6 hs6 => ?_)
   refine V 3 27 (run_assign (x := .const (.int .i64 0)) (v := .int .i64 0) rfl) ?_
   refine V 4 3 (run_assign (x := .const (.int .i64 0)) (v := .int .i64 0) rfl) ?_
   refine RWP.nil ?_
   refine thenQ_nrm ?_
   refine CWP.ret (by kernel_rfl) ?_
   obtain rfl := some_inj hr
   exact ⟨rfl, _, res_of (l := [.cell 2 26, .tmp 3, .tmp 4]) (by kernel_rfl) (vs := [.agg #[.slice a0 e.Points.length n0, .slice a1 e.Multipliers.length n1, .slice a2 e.Penalties.length n2, .slice a3 e.Repeats.length n3], .int .i64 0, .int .i64 0]) ⟨b2, 0, rfl, run_loadVar' (t := 26) (g := true) (s := 4) (by kernel_rfl) (hs6.ownAt (k := 1) rfl) rfl (by decide), rfl, rfl, trivial⟩, _, F5, rfl, hs6.clear, a0, n0, a1, n1, a2, n2, a3, n3, rfl, hb0, hl0, hb1, hl1, hb2, hl2, hb3, hl3⟩
  | some x =>
   obtain ⟨hr, hL⟩ := hK
   have hs6 : HS w0 F0 w5 F5 X := by
    rcases hL with rfl | ⟨o, rfl⟩
    ·exact hs5
    ·exact hs5.drop 0
   clear hs5 hL
   cases hne : x.e_ != 0 with
   | false => rw [hne] at hr; cases hr
   | true =>
    rw [hne] at hr
    obtain rfl := some_inj hr
    simp only
    refine V 8 88 (run_move (x := .tmp 11) (v := .tuple #[.int .i64 x.e_, .int .i64 x.at_]) rfl) ?_
    refine V 12 27 (run_extract (x := .tmp 8) (vs := #[.int .i64 x.e_, .int .i64 x.at_]) (i := 0) (v := .int .i64 x.e_) rfl rfl) ?_
    refine V 13 3 (run_extract (x := .tmp 8) (vs := #[.int .i64 x.e_, .int .i64 x.at_]) (i := 1) (v := .int .i64 x.at_) rfl rfl) ?_
    refine V 6 27 (run_assign (x := .tmp 12) (v := .int .i64 x.e_) rfl) ?_
    refine V 7 3 (run_assign (x := .tmp 13) (v := .int .i64 x.at_) rfl) ?_
    refine RWP.nil ?_
    refine thenQ_nrm ?_
    refine Sq ?_
    refine Sq ?_
    refine Rg [0, 1] ?_
    refine V 14 27 (run_move (x := .tmp 6) (v := .int .i64 x.e_) rfl) ?_
    refine V 15 4 (run_neq (t := 27) (t' := 27) (x := .tmp 14) (y := .const (.int .i64 0)) (k := .i64) (a := x.e_) (b := 0) rfl rfl) ?_
    refine RWP.nil ?_
    refine thenQ_nrm ?_
    refine CWP.cond1 (t := x.e_ != 0) (by kernel_rfl) rfl hne ?_
    refine Sq ?_
    refine Rg [0, 1, 2, 3, 4, 5] ?_
    refine V 16 26 (run_build2 (t := 26) (parts := #[]) (vs := []) rfl (cs := [.slice none 0 0, .slice none 0 0, .slice none 0 0, .slice none 0 0]) (by kernel_rfl)) ?_
    refine V 17 27 (run_move (x := .tmp 6) (v := .int .i64 x.e_) rfl) ?_
    refine V 18 3 (run_move (x := .tmp 7) (v := .int .i64 x.at_) rfl) ?_
    subst hX
    refine RWP.store (ty := 0) (g := none) (by kernel_rfl) rfl (x := .tmp 2) (y := .tmp 16) (t := 26) (gg := true) (s := 4) (v := .agg #[.slice none 0 0, .slice none 0 0, .slice none 0 0, .slice none 0 0]) (b := b2) (o := 0) (C := #[.slice none 0 0, .slice none 0 0, .slice none 0 0, .slice none 0 0]) rfl rfl (by kernel_rfl) hs6 (k := 0) rfl rfl rfl rfl (C' := #[.slice none 0 0, .slice none 0 0, .slice none 0 0, .slice none 0 0]) rfl (fun w7 hs7 => ?_)
    refine V 3 27 (run_assign (x := .tmp 17) (v := .int .i64 x.e_) rfl) ?_
    refine V 4 3 (run_assign (x := .tmp 18) (v := .int .i64 x.at_) rfl) ?_
    refine RWP.nil ?_
    refine thenQ_nrm ?_
    refine CWP.ret (by kernel_rfl) ?_
    refine thenQ_ret ?_
    exact ⟨rfl, _, res_of (l := [.cell 2 26, .tmp 3, .tmp 4]) (by kernel_rfl) (vs := [.agg #[.slice none 0 0, .slice none 0 0, .slice none 0 0, .slice none 0 0], .int .i64 x.e_, .int .i64 x.at_]) ⟨b2, 0, rfl, run_loadVar' (t := 26) (g := true) (s := 4) (by kernel_rfl) (hs7.ownAt (k := 0) rfl) rfl (by decide), rfl, rfl, trivial⟩, _, F5, rfl, hs7.clear, none, 0, none, 0, none, 0, none, 0, rfl, LC.nil, .inl rfl, LC.nil, .inl rfl, LC.nil, .inl rfl, LC.nil, .inl rfl⟩
end Go.Proofs.YtaihlcdkcampbaaGreatDoor
namespace Go.Proofs.YtaihlcdkcampbaaGreatDoor
open Go.Proofs
def law06_awake0 (N : Nat)  : Option Bool :=
 ((rules_ParseExpr N ([49, 32, 43, 32, 50, 32, 42, 32, 51, 32, 61, 32, 55, 32, 97, 110, 100, 32, 110, 111, 116, 32, 98, 97, 110, 100, 32, 60, 32, 50] : List UInt8)).bind fun r21 => ((rules_PrintExpr N r21.1).bind fun r34 => ((rules_Parse N ([112, 111, 105, 110, 116, 115, 58, 32, 98, 97, 110, 100, 32, 61, 32, 49, 32, 61, 62, 32, 50] : List UInt8)).bind fun r42 => ((rules_Parse N ([112, 111, 105, 110, 116, 115, 58, 32, 98, 97, 110, 100, 32, 61, 62, 32, 50] : List UInt8)).bind fun r55 => ((mk0 0 14).bind fun r68 => ((idx r68 0).bind fun x78 => ((rules_Points N r42.1 (r68.set (0 : Int).toNat (1))).bind fun r97 => ((rules_ParseExpr N ([105, 102, 40, 98, 97, 110, 100, 32, 61, 32, 98, 97, 110, 100, 44, 32, 48, 32, 43, 32, 122, 111, 110, 101, 44, 32, 55, 41] : List UInt8)).bind fun r105 => ((rules_Simplify N r105.1).bind fun r118 => (bif ((r21.2.1 != 0) || ((r34.2 != 0) || ((r42.2.1 != 0) || ((r55.2.1 != 61) || ((r97.2 != 0) || ((r105.2.1 != 0) || ((r118.2 != 0) || (r55.2.2 != 8)))))))) then some false else some ((r21.1.Op == 4) && ((r34.1 == ([49, 32, 43, 32, 50, 32, 42, 32, 51, 32, 61, 32, 55, 32, 97, 110, 100, 32, 110, 111, 116, 32, 98, 97, 110, 100, 32, 60, 32, 50] : List UInt8)) && ((r97.1 == 2) && ((r118.1.Op == 2) && (r118.1.Value == 7)))))))))))))))
theorem co_law06_awake0 : CallOk Tryz.prog 21 := fun _ _ => by kernel_rfl
theorem c_law06_awake0 (N : Nat) (w0 : World) (F0 : Mem) (hF : ∀ b o, F0 b = some o → w0.heap[b]? = some o) (hG : Glob F0)  (r : Bool) (h : law06_awake0 N  = some r) :
  Calls Tryz.prog 21 ([] : List Value).toArray w0 (FRet w0 F0 fun F' v => v = (.bool r)) := by
 have hs0 := HS.start hF
 refine Go 110 Tryz.func21 ?_
 refine Sq (Rg [0] ?_)
 refine Vs 1 ?_
 refine Nss (Rg [0, 1, 2, 3, 4, 5, 6, 7, 8] ?_)
 obtain ⟨r21, hr22, h23⟩ := bind_some h
 refine Cl' co_rules_ParseExpr hs0 (c_rules_ParseExpr N w0 F0 hs0.pers hG (([49, 32, 43, 32, 50, 32, 42, 32, 51, 32, 61, 32, 55, 32, 97, 110, 100, 32, 110, 111, 116, 32, 98, 97, 110, 100, 32, 60, 32, 50] : List UInt8)) _ hr22) ?_
 rintro _ F1 w25 hs26 le27 ⟨ar21_0_2, nr21_0_2, rfl, hbr21_0_2, hsr21_0_2⟩
 refine Vs 4 ?_
 refine Al' 33 #[(vi 0), (vi 0), (.slice none ([] : List Expr).length 0)] hs26 (fun b29 w30 hs31 => ?_)
 refine St0 (kExpr r21.1 ar21_0_2 nr21_0_2) hs31 (fun w32 hs33 => ?_)
 refine Vs 2 ?_
 refine Nss (Rg [0, 1, 2, 3, 4, 5, 6] ?_)
 refine Ld hs33.at0 ?_
 obtain ⟨r34, hr35, h36⟩ := bind_some h23
 refine Cl' co_rules_PrintExpr hs33 (c_rules_PrintExpr N w32 F1 hs33.pers (hG.mono le27) (r21.1) ar21_0_2 nr21_0_2 hbr21_0_2 hsr21_0_2 _ hr35) ?_
 rintro _ F2 w38 hs39 le40 rfl
 refine Vs 5 ?_
 refine Nss (Rg [0, 1, 2, 3, 4, 5, 6, 7, 8] ?_)
 obtain ⟨r42, hr43, h44⟩ := bind_some h36
 refine Cl' co_rules_Parse hs39 (c_rules_Parse N w38 F2 hs39.pers (hG.mono (le27.trans le40)) (([112, 111, 105, 110, 116, 115, 58, 32, 98, 97, 110, 100, 32, 61, 32, 49, 32, 61, 62, 32, 50] : List UInt8)) _ hr43) ?_
 rintro _ F3 w46 hs47 le48 ⟨ar42_0_0, nr42_0_0, ar42_0_1, nr42_0_1, ar42_0_2, nr42_0_2, ar42_0_3, nr42_0_3, rfl, hbr42_0_0, hsr42_0_0, hbr42_0_1, hsr42_0_1, hbr42_0_2, hsr42_0_2, hbr42_0_3, hsr42_0_3⟩
 refine Vs 4 ?_
 refine Al' 26 #[(.slice none ([] : List Clause).length 0), (.slice none ([] : List Clause).length 0), (.slice none ([] : List Clause).length 0), (.slice none ([] : List Expr).length 0)] hs47 (fun b50 w51 hs52 => ?_)
 refine St0 (kBook r42.1 ar42_0_0 nr42_0_0 ar42_0_1 nr42_0_1 ar42_0_2 nr42_0_2 ar42_0_3 nr42_0_3) hs52 (fun w53 hs54 => ?_)
 refine Vs 2 ?_
 refine Nss (Rg [0, 1, 2, 3, 4, 5, 6, 7, 8] ?_)
 obtain ⟨r55, hr56, h57⟩ := bind_some h44
 refine Cl' co_rules_Parse hs54 (c_rules_Parse N w53 F3 hs54.pers (hG.mono ((le27.trans le40).trans le48)) (([112, 111, 105, 110, 116, 115, 58, 32, 98, 97, 110, 100, 32, 61, 62, 32, 50] : List UInt8)) _ hr56) ?_
 rintro _ F4 w59 hs60 le61 ⟨ar55_0_0, nr55_0_0, ar55_0_1, nr55_0_1, ar55_0_2, nr55_0_2, ar55_0_3, nr55_0_3, rfl, hbr55_0_0, hsr55_0_0, hbr55_0_1, hsr55_0_1, hbr55_0_2, hsr55_0_2, hbr55_0_3, hsr55_0_3⟩
 refine Vs 4 ?_
 refine Al' 26 #[(.slice none ([] : List Clause).length 0), (.slice none ([] : List Clause).length 0), (.slice none ([] : List Clause).length 0), (.slice none ([] : List Expr).length 0)] hs60 (fun b63 w64 hs65 => ?_)
 refine St0 (kBook r55.1 ar55_0_0 nr55_0_0 ar55_0_1 nr55_0_1 ar55_0_2 nr55_0_2 ar55_0_3 nr55_0_3) hs65 (fun w66 hs67 => ?_)
 refine Vs 2 ?_
 refine Nss (Rg [0, 1] ?_)
 obtain ⟨r68, hm69, h70⟩ := bind_some h57
 refine RWP.makeSlice (dst := (some 40)) (ty := 47) (g := none) (by kernel_rfl) rfl (x := (.const (vi 14))) (y := (.const (vi 14))) (t := 47) (by_ := 8) (z := (vi 0)) (T := tInt) (E := 3) rfl rfl (by kernel_rfl) (by decide) (by kernel_rfl) (z0 := 0) (fun _ => rfl) (by decide) hs67 hm69 (fun b71 n72 C73 w74 (hs75 : HS w0 F0 w74 F4 [(some b71, .cells C73 3 (0, 0)), (sb b63 (kBook r55.1 ar55_0_0 nr55_0_0 ar55_0_1 nr55_0_1 ar55_0_2 nr55_0_2 ar55_0_3 nr55_0_3) 26), (sb b50 (kBook r42.1 ar42_0_0 nr42_0_0 ar42_0_1 nr42_0_1 ar42_0_2 nr42_0_2 ar42_0_3 nr42_0_3) 26), (sb b29 (kExpr r21.1 ar21_0_2 nr21_0_2) 33)]) hr76 => ?_)
 refine Vs 1 ?_
 refine Nss (Rg [0, 1, 2] ?_)
 refine Vs 1 ?_
 obtain ⟨x78, hx79, h81⟩ := bind_some h70
 obtain ⟨hi80, hx79'⟩ := idx_spec hx79
 obtain ⟨b82, C83, ha84, he85, hE86⟩ := RowR.open hr76 hx79'
 cases ha84
 cases he85
 have hc88 := hE86 _ _ hx79'
 refine Ix0 hi80 ?_
 refine RWP.storeRow (ty := 0) (g := none) (by kernel_rfl) rfl (x := (.tmp 42)) (y := (.const (vi 1))) (t := 3) (v := (vi 1)) (gg := false) (b := b71) (j := (0 : Int).toNat) (C := C73) (T := tInt) (E := 3) (u := (1)) rfl rfl (by kernel_rfl) hs75 (k := 0) rfl hr76 hx79' rfl rfl (fun C89 w90 (hs91 : HS w0 F0 w90 F4 [(some b71, .cells C89 3 (0, 0)), (sb b63 (kBook r55.1 ar55_0_0 nr55_0_0 ar55_0_1 nr55_0_1 ar55_0_2 nr55_0_2 ar55_0_3 nr55_0_3) 26), (sb b50 (kBook r42.1 ar42_0_0 nr42_0_0 ar42_0_1 nr42_0_1 ar42_0_2 nr42_0_2 ar42_0_3 nr42_0_3) 26), (sb b29 (kExpr r21.1 ar21_0_2 nr21_0_2) 33)]) hr92 => ?_)
 refine Nss (Rg [0, 1, 2, 3, 4, 5, 6, 7] ?_)
 refine Ld hs91.at2 ?_
 refine V 45 47 (mv 12 (.slice (some ⟨b71, 0, none⟩) (r68.set (0 : Int).toNat (1)).length n72) (len_set rfl)) ?_
 have hb96 := RowR.bound hr92
 obtain ⟨F5, hs93, le94, hs95⟩ := hs91.fr0 hr92
 obtain ⟨r97, hr98, h99⟩ := bind_some h81
 refine Cl' co_rules_Points hs93 (c_rules_Points N w90 F5 hs93.pers (r42.1) ar42_0_0 nr42_0_0 hbr42_0_0 (SlA.mono hsr42_0_0 (le61.trans le94)) ar42_0_1 nr42_0_1 hbr42_0_1 (SlA.mono hsr42_0_1 (le61.trans le94)) ar42_0_2 nr42_0_2 hbr42_0_2 (SlA.mono hsr42_0_2 (le61.trans le94)) ar42_0_3 nr42_0_3 hbr42_0_3 (SlA.mono hsr42_0_3 (le61.trans le94)) ((r68.set (0 : Int).toNat (1))) (some ⟨b71, 0, none⟩) n72 hb96 hs95 _ hr98) ?_
 rintro _ F6 w101 hs102 le103 rfl
 refine Vs 5 ?_
 refine Nss (Rg [0, 1, 2, 3, 4, 5, 6, 7, 8] ?_)
 obtain ⟨r105, hr106, h107⟩ := bind_some h99
 refine Cl' co_rules_ParseExpr hs102 (c_rules_ParseExpr N w101 F6 hs102.pers (hG.mono (((((le27.trans le40).trans le48).trans le61).trans le94).trans le103)) (([105, 102, 40, 98, 97, 110, 100, 32, 61, 32, 98, 97, 110, 100, 44, 32, 48, 32, 43, 32, 122, 111, 110, 101, 44, 32, 55, 41] : List UInt8)) _ hr106) ?_
 rintro _ F7 w109 hs110 le111 ⟨ar105_0_2, nr105_0_2, rfl, hbr105_0_2, hsr105_0_2⟩
 refine Vs 4 ?_
 refine Al' 33 #[(vi 0), (vi 0), (.slice none ([] : List Expr).length 0)] hs110 (fun b113 w114 hs115 => ?_)
 refine St0 (kExpr r105.1 ar105_0_2 nr105_0_2) hs115 (fun w116 hs117 => ?_)
 refine Vs 2 ?_
 refine Nss (Rg [0, 1, 2, 3, 4, 5, 6, 7] ?_)
 refine Ld hs117.at0 ?_
 obtain ⟨r118, hr119, h120⟩ := bind_some h107
 refine Cl' co_rules_Simplify hs117 (c_rules_Simplify N w116 F7 hs117.pers (r105.1) ar105_0_2 nr105_0_2 hbr105_0_2 hsr105_0_2 _ hr119) ?_
 rintro _ F8 w122 hs123 le124 ⟨ar118_0_2, nr118_0_2, rfl, hbr118_0_2, hsr118_0_2⟩
 refine Vs 3 ?_
 refine Al' 33 #[(vi 0), (vi 0), (.slice none ([] : List Expr).length 0)] hs123 (fun b126 w127 hs128 => ?_)
 refine St0 (kExpr r118.1 ar118_0_2 nr118_0_2) hs128 (fun w129 hs130 => ?_)
 refine Vs 1 ?_
 refine Nss ?_
 refine Sq (Rg [0, 1, 2, 3, 4, 5, 6, 7, 8, 9, 10, 11, 12, 13, 14, 15, 16, 17, 18, 19, 20, 21, 22, 23, 24, 25, 26, 27, 28, 29] ?_)
 refine RWP.cut (fun f w => ∃ (F9 : Mem), HS w0 F0 w F9 [(sb b126 (kExpr r118.1 ar118_0_2 nr118_0_2) 33), (sb b29 (kExpr r21.1 ar21_0_2 nr21_0_2) 33)] ∧ Mem.le F8 F9 ∧ FI f [] [(1, (pt b29 0)), (4, (.string ⟨(r34.1).toArray⟩)), (13, (vi r97.1)), (18, (pt b126 0)), (88, (.bool ((r21.2.1 != 0) || ((r34.2 != 0) || ((r42.2.1 != 0) || ((r55.2.1 != 61) || ((r97.2 != 0) || ((r105.2.1 != 0) || ((r118.2 != 0) || (r55.2.2 != 8))))))))))]) ?_ ?_
 ·refine Vs 3 ?_
  refine RWP.split (r21.2.1 != 0) (fun hb140 => ?_) (fun hb140 => ?_)
  ·refine Ss hb140 2 ?_
   refine Pk1 hb140 ?_
   refine Vs 1 ?_
   refine Ss (rfl : true = true) 2 ?_
   refine Pk1 (rfl : true = true) ?_
   refine Vs 1 ?_
   refine Ss (rfl : true = true) 2 ?_
   refine Pk1 (rfl : true = true) ?_
   refine Vs 1 ?_
   refine Ss (rfl : true = true) 2 ?_
   refine Pk1 (rfl : true = true) ?_
   refine Vs 1 ?_
   refine Ss (rfl : true = true) 2 ?_
   refine Pk1 (rfl : true = true) ?_
   refine Vs 1 ?_
   refine Ss (rfl : true = true) 2 ?_
   refine Pk1 (rfl : true = true) ?_
   refine Vs 1 ?_
   refine Ss (rfl : true = true) 2 ?_
   refine Pk1 (rfl : true = true) ?_
   exact RWP.nil ⟨rfl, F8, hs130.dr1.dr1.dr1, (Mem.le.refl _), (fJ ⟨rfl, rfl, rfl, rfl, (congrArg Value.bool (or_t hb140 (rfl))), trivial⟩)⟩
  ·refine Vgs hb140 2 ?_
   refine Pk0 hb140 ?_
   refine Vs 1 ?_
   refine RWP.split (r34.2 != 0) (fun hb141 => ?_) (fun hb141 => ?_)
   ·refine Ss hb141 2 ?_
    refine Pk1 hb141 ?_
    refine Vs 1 ?_
    refine Ss (rfl : true = true) 2 ?_
    refine Pk1 (rfl : true = true) ?_
    refine Vs 1 ?_
    refine Ss (rfl : true = true) 2 ?_
    refine Pk1 (rfl : true = true) ?_
    refine Vs 1 ?_
    refine Ss (rfl : true = true) 2 ?_
    refine Pk1 (rfl : true = true) ?_
    refine Vs 1 ?_
    refine Ss (rfl : true = true) 2 ?_
    refine Pk1 (rfl : true = true) ?_
    refine Vs 1 ?_
    refine Ss (rfl : true = true) 2 ?_
    refine Pk1 (rfl : true = true) ?_
    exact RWP.nil ⟨rfl, F8, hs130.dr1.dr1.dr1, (Mem.le.refl _), (fJ ⟨rfl, rfl, rfl, rfl, (congrArg Value.bool (or_f hb140 (or_t hb141 (rfl)))), trivial⟩)⟩
   ·refine Vgs hb141 2 ?_
    refine Pk0 hb141 ?_
    refine Vs 1 ?_
    refine RWP.split (r42.2.1 != 0) (fun hb142 => ?_) (fun hb142 => ?_)
    ·refine Ss hb142 2 ?_
     refine Pk1 hb142 ?_
     refine Vs 1 ?_
     refine Ss (rfl : true = true) 2 ?_
     refine Pk1 (rfl : true = true) ?_
     refine Vs 1 ?_
     refine Ss (rfl : true = true) 2 ?_
     refine Pk1 (rfl : true = true) ?_
     refine Vs 1 ?_
     refine Ss (rfl : true = true) 2 ?_
     refine Pk1 (rfl : true = true) ?_
     refine Vs 1 ?_
     refine Ss (rfl : true = true) 2 ?_
     refine Pk1 (rfl : true = true) ?_
     exact RWP.nil ⟨rfl, F8, hs130.dr1.dr1.dr1, (Mem.le.refl _), (fJ ⟨rfl, rfl, rfl, rfl, (congrArg Value.bool (or_f hb140 (or_f hb141 (or_t hb142 (rfl))))), trivial⟩)⟩
    ·refine Vgs hb142 2 ?_
     refine Pk0 hb142 ?_
     refine Vs 1 ?_
     refine RWP.split (r55.2.1 != 61) (fun hb143 => ?_) (fun hb143 => ?_)
     ·refine Ss hb143 2 ?_
      refine Pk1 hb143 ?_
      refine Vs 1 ?_
      refine Ss (rfl : true = true) 2 ?_
      refine Pk1 (rfl : true = true) ?_
      refine Vs 1 ?_
      refine Ss (rfl : true = true) 2 ?_
      refine Pk1 (rfl : true = true) ?_
      refine Vs 1 ?_
      refine Ss (rfl : true = true) 2 ?_
      refine Pk1 (rfl : true = true) ?_
      exact RWP.nil ⟨rfl, F8, hs130.dr1.dr1.dr1, (Mem.le.refl _), (fJ ⟨rfl, rfl, rfl, rfl, (congrArg Value.bool (or_f hb140 (or_f hb141 (or_f hb142 (or_t hb143 (rfl)))))), trivial⟩)⟩
     ·refine Vgs hb143 2 ?_
      refine Pk0 hb143 ?_
      refine Vs 1 ?_
      refine RWP.split (r97.2 != 0) (fun hb144 => ?_) (fun hb144 => ?_)
      ·refine Ss hb144 2 ?_
       refine Pk1 hb144 ?_
       refine Vs 1 ?_
       refine Ss (rfl : true = true) 2 ?_
       refine Pk1 (rfl : true = true) ?_
       refine Vs 1 ?_
       refine Ss (rfl : true = true) 2 ?_
       refine Pk1 (rfl : true = true) ?_
       exact RWP.nil ⟨rfl, F8, hs130.dr1.dr1.dr1, (Mem.le.refl _), (fJ ⟨rfl, rfl, rfl, rfl, (congrArg Value.bool (or_f hb140 (or_f hb141 (or_f hb142 (or_f hb143 (or_t hb144 (rfl))))))), trivial⟩)⟩
      ·refine Vgs hb144 2 ?_
       refine Pk0 hb144 ?_
       refine Vs 1 ?_
       refine RWP.split (r105.2.1 != 0) (fun hb145 => ?_) (fun hb145 => ?_)
       ·refine Ss hb145 2 ?_
        refine Pk1 hb145 ?_
        refine Vs 1 ?_
        refine Ss (rfl : true = true) 2 ?_
        refine Pk1 (rfl : true = true) ?_
        exact RWP.nil ⟨rfl, F8, hs130.dr1.dr1.dr1, (Mem.le.refl _), (fJ ⟨rfl, rfl, rfl, rfl, (congrArg Value.bool (or_f hb140 (or_f hb141 (or_f hb142 (or_f hb143 (or_f hb144 (or_t hb145 (rfl)))))))), trivial⟩)⟩
       ·refine Vgs hb145 2 ?_
        refine Pk0 hb145 ?_
        refine Vs 1 ?_
        refine RWP.split (r118.2 != 0) (fun hb146 => ?_) (fun hb146 => ?_)
        ·refine Ss hb146 2 ?_
         refine Pk1 hb146 ?_
         exact RWP.nil ⟨rfl, F8, hs130.dr1.dr1.dr1, (Mem.le.refl _), (fJ ⟨rfl, rfl, rfl, rfl, (congrArg Value.bool (or_f hb140 (or_f hb141 (or_f hb142 (or_f hb143 (or_f hb144 (or_f hb145 (or_t hb146 (rfl))))))))), trivial⟩)⟩
        ·refine Vgs hb146 2 ?_
         refine Pk0 hb146 ?_
         exact RWP.nil ⟨rfl, F8, hs130.dr1.dr1.dr1, (Mem.le.refl _), (fJ ⟨rfl, rfl, rfl, rfl, (congrArg Value.bool (or_f hb140 (or_f hb141 (or_f hb142 (or_f hb143 (or_f hb144 (or_f hb145 (or_f hb146 (rfl))))))))), trivial⟩)⟩
 ·rintro f w131 ⟨F9, hs132, le133, ⟨_, rfl⟩⟩
  refine thenQ_nrm ?_
  refine Cd h120 (fun hb147 h148 => ?_) (fun hb147 h149 => ?_)
  ·refine Sq (Rg [0] ?_)
   refine Vs 1 ?_
   refine Nt ?_
   refine Rt ?_
   refine thenQ_ret ?_
   obtain rfl := some_inj h148
   exact Re [(.bool false)] hs132 rfl
  ·refine Sc ?_
   refine thenQ_nrm ?_
   refine Sq (Rg [0, 1, 2, 3, 4, 5, 6, 7, 8, 9, 10, 11, 12, 13, 14, 15, 16, 17, 18, 19, 20, 21] ?_)
   refine RWP.cut (fun f w => ∃ (F10 : Mem), HS w0 F0 w F10 [] ∧ Mem.le F9 F10 ∧ FI f [] [(0, (.bool ((r21.1.Op == 4) && ((r34.1 == ([49, 32, 43, 32, 50, 32, 42, 32, 51, 32, 61, 32, 55, 32, 97, 110, 100, 32, 110, 111, 116, 32, 98, 97, 110, 100, 32, 60, 32, 50] : List UInt8)) && ((r97.1 == 2) && ((r118.1.Op == 2) && (r118.1.Value == 7)))))))]) ?_ ?_
   ·refine Vs 1 ?_
    refine Ld hs132.at1 ?_
    refine Vs 2 ?_
    refine RWP.split (r21.1.Op == 4) (fun hb155 => ?_) (fun hb155 => ?_)
    ·refine Vgs hb155 2 ?_
     refine Pk1 hb155 ?_
     refine Vs 1 ?_
     refine RWP.split (r34.1 == ([49, 32, 43, 32, 50, 32, 42, 32, 51, 32, 61, 32, 55, 32, 97, 110, 100, 32, 110, 111, 116, 32, 98, 97, 110, 100, 32, 60, 32, 50] : List UInt8)) (fun hb156 => ?_) (fun hb156 => ?_)
     ·refine Vgs hb156 2 ?_
      refine Pk1 hb156 ?_
      refine Vs 1 ?_
      refine RWP.split (r97.1 == 2) (fun hb157 => ?_) (fun hb157 => ?_)
      ·refine Vgs hb157 1 ?_
       refine Lg hb157 hs132.at0 ?_
       refine Vgs hb157 1 ?_
       refine Pk1 hb157 ?_
       refine Vs 1 ?_
       refine RWP.split (r118.1.Op == 2) (fun hb158 => ?_) (fun hb158 => ?_)
       ·refine Vgs hb158 1 ?_
        refine Lg hb158 hs132.at0 ?_
        refine Vgs hb158 1 ?_
        refine Pk1 hb158 ?_
        refine Vs 1 ?_
        exact RWP.nil ⟨rfl, F9, hs132.dr0.dr0, (Mem.le.refl _), (fJ ⟨(congrArg Value.bool (and_t hb155 (and_t hb156 (and_t hb157 (and_t hb158 (rfl)))))), trivial⟩)⟩
       ·refine Ss hb158 3 ?_
        refine Pk0 hb158 ?_
        refine Vs 1 ?_
        exact RWP.nil ⟨rfl, F9, hs132.dr0.dr0, (Mem.le.refl _), (fJ ⟨(congrArg Value.bool (and_t hb155 (and_t hb156 (and_t hb157 (and_f hb158 (rfl)))))), trivial⟩)⟩
      ·refine Ss hb157 3 ?_
       refine Pk0 hb157 ?_
       refine Vs 1 ?_
       refine Ss (rfl : false = false) 3 ?_
       refine Pk0 (rfl : false = false) ?_
       refine Vs 1 ?_
       exact RWP.nil ⟨rfl, F9, hs132.dr0.dr0, (Mem.le.refl _), (fJ ⟨(congrArg Value.bool (and_t hb155 (and_t hb156 (and_f hb157 (rfl))))), trivial⟩)⟩
     ·refine Ss hb156 2 ?_
      refine Pk0 hb156 ?_
      refine Vs 1 ?_
      refine Ss (rfl : false = false) 3 ?_
      refine Pk0 (rfl : false = false) ?_
      refine Vs 1 ?_
      refine Ss (rfl : false = false) 3 ?_
      refine Pk0 (rfl : false = false) ?_
      refine Vs 1 ?_
      exact RWP.nil ⟨rfl, F9, hs132.dr0.dr0, (Mem.le.refl _), (fJ ⟨(congrArg Value.bool (and_t hb155 (and_f hb156 (rfl)))), trivial⟩)⟩
    ·refine Ss hb155 2 ?_
     refine Pk0 hb155 ?_
     refine Vs 1 ?_
     refine Ss (rfl : false = false) 2 ?_
     refine Pk0 (rfl : false = false) ?_
     refine Vs 1 ?_
     refine Ss (rfl : false = false) 3 ?_
     refine Pk0 (rfl : false = false) ?_
     refine Vs 1 ?_
     refine Ss (rfl : false = false) 3 ?_
     refine Pk0 (rfl : false = false) ?_
     refine Vs 1 ?_
     exact RWP.nil ⟨rfl, F9, hs132.dr0.dr0, (Mem.le.refl _), (fJ ⟨(congrArg Value.bool (and_f hb155 (rfl))), trivial⟩)⟩
   ·rintro f w150 ⟨F10, hs151, le152, ⟨_, rfl⟩⟩
    refine thenQ_nrm ?_
    refine Rt ?_
    obtain rfl := some_inj h149
    exact Re [(.bool ((r21.1.Op == 4) && ((r34.1 == ([49, 32, 43, 32, 50, 32, 42, 32, 51, 32, 61, 32, 55, 32, 97, 110, 100, 32, 110, 111, 116, 32, 98, 97, 110, 100, 32, 60, 32, 50] : List UInt8)) && ((r97.1 == 2) && ((r118.1.Op == 2) && (r118.1.Value == 7))))))] hs151 rfl
end Go.Proofs.YtaihlcdkcampbaaGreatDoor
namespace Go.Proofs.YtaihlcdkcampbaaGreatDoor
open Go.Proofs
set_option maxRecDepth 100000 in
theorem awake_yes : law06_awake0 9223372036854775808 = some true := by kernel_rfl
def law06_awake (_N : Nat) : Option Bool := some true
theorem co_law06_awake : CallOk Tryz.prog 21 := co_law06_awake0
theorem c_law06_awake (N : Nat) (w0 : World) (F0 : Mem) (hF : ∀ b o, F0 b = some o → w0.heap[b]? = some o) (hG : Glob F0) (r : Bool) (h : law06_awake N = some r) :
  Calls Tryz.prog 21 ([] : List Value).toArray w0 (FRet w0 F0 fun F' v => v = (.bool r)) := by
 cases h
 exact c_law06_awake0 9223372036854775808 w0 F0 hF hG true awake_yes
end Go.Proofs.YtaihlcdkcampbaaGreatDoor
namespace Go.Proofs.YtaihlcdkcampbaaGreatDoor
open Go.Proofs
end Go.Proofs.YtaihlcdkcampbaaGreatDoor
namespace Go.Proofs.YtaihlcdkcampbaaGreatDoor
open Go.Proofs
end Go.Proofs.YtaihlcdkcampbaaGreatDoor
namespace Go.Proofs.YtaihlcdkcampbaaGreatDoor
section
variable {N : Nat} {σ : Type}
def hit (l : List Clause) (d : List Span) (k : Int) : Bool := (allL d).any fun f => fi (isT f) l == k
noncomputable def mx (e : Expr) (d : List Span) : Int := (allL d).foldl (fun a f => max a (val f e)) (-1000000)
end
end Go.Proofs.YtaihlcdkcampbaaGreatDoor
namespace Go.Proofs.YtaihlcdkcampbaaGreatDoor
abbrev qL {α : Type} (q : α → Prop) (l : List α) : Prop := l.length < 9223372036854775808 ∧ ∀ c, c ∈ l → q c
end Go.Proofs.YtaihlcdkcampbaaGreatDoor
namespace Go.Proofs.YtaihlcdkcampbaaGreatDoor
open Go.Proofs
def law06_in_L0 (N : Nat) (x0 : (List Int)) (x1 : (List Span)) : Int → Option (Flow Bool Int) := fun s27 =>
 (bif (decide (s27 < (x0.length : Int))) then (((idx x0 s27).bind fun x62 => ((idx x1 s27).bind fun x76 => (bif (decide (x62 < x76.Lo)) then some true else ((idx x0 s27).bind fun x93 => ((idx x1 s27).bind fun x99 => some (decide (x93 > x99.Hi))))))).bind fun j54 => (bif j54 then some (.ret false) else some (.next (W64 (s27 + 1))))) else some (.done s27))
def law06_in (N : Nat) (x0 : (List Int)) (x1 : (List Span)) : Option Bool :=
 (bif ((x0.length : Int) != (x1.length : Int)) then some false else ((iter (law06_in_L0 N x0 x1) N 0).bind fun o => o.k (fun r => some r) (fun s35 => some true)))
theorem co_law06_in : CallOk Tryz.prog 64 := fun _ _ => by kernel_rfl
theorem c_law06_in (N : Nat) (w0 : World) (F0 : Mem) (hF : ∀ b o, F0 b = some o → w0.heap[b]? = some o) (x0 : (List Int)) (a0_0 : Option Addr) (n0_0 : Nat) (hb0_0 : LC x0.length n0_0) (hs0_0 : SlA tInt F0 a0_0 x0) (x1 : (List Span)) (a1_0 : Option Addr) (n1_0 : Nat) (hb1_0 : LC x1.length n1_0) (hs1_0 : SlA tSpan F0 a1_0 x1) (r : Bool) (h : law06_in N x0 x1 = some r) :
  Calls Tryz.prog 64 ([(.slice a0_0 x0.length n0_0), (.slice a1_0 x1.length n1_0)] : List Value).toArray w0 (FRet w0 F0 fun F' v => v = (.bool r)) := by
 have hs0 := HS.start hF
 refine Go 39 Tryz.func64 ?_
 refine Sq (Rg [0] ?_)
 refine Vs 1 ?_
 refine Nss ?_
 refine Sq (Rg [0, 1, 2, 3, 4] ?_)
 refine Vs 5 ?_
 refine Nt ?_
 refine Cd h (fun hb21 h22 => ?_) (fun hb21 h23 => ?_)
 ·refine Sq (Rg [0] ?_)
  refine Vs 1 ?_
  refine Nt ?_
  refine Rt ?_
  refine thenQ_ret ?_
  obtain rfl := some_inj h22
  exact Re [(.bool false)] hs0 rfl
 ·refine Sc ?_
  refine thenQ_nrm ?_
  refine Sq ?_
  refine Sq (Rg [0] ?_)
  refine Vs 1 ?_
  refine Nt ?_
  obtain ⟨o24, ho25, h26⟩ := bind_some h23
  refine CWP.cut (fun f w => ∃ (s35 : Int) (F2 : Mem), o24 = .done s35 ∧ HS w0 F0 w F2 [] ∧ Mem.le F0 F2 ∧ FI f [] []) ?_ ?_
  ·refine Bk ?_
   refine CWP.loop (by kernel_rfl) (fun m f w => ∃ (s27 : Int) (F1 : Mem), iter (law06_in_L0 N x0 x1) m s27 = some o24 ∧ HS w0 F0 w F1 [] ∧ Mem.le F0 F1 ∧ FI f [] [(0, (.slice a0_0 x0.length n0_0)), (1, (.slice a1_0 x1.length n1_0)), (5, (vi s27))]) N ⟨0, F0, ho25, hs0, (Mem.le.refl _), fI⟩ ?_
   rintro m40 f w28 ⟨s27, F1, hit41, hs29, le30, ⟨_, rfl⟩⟩
   obtain ⟨m42, fl43, rfl, hb44, hnx45⟩ := iter_step hit41
   refine Sq ?_
   refine Sq (Rg [0, 1, 2, 3] ?_)
   refine Vs 4 ?_
   refine Nt ?_
   refine Cd hb44 (fun hb46 h47 => ?_) (fun hb46 h48 => ?_)
   ·refine Sc ?_
    refine thenQ_nrm ?_
    refine Sq ?_
    refine Bk ?_
    refine Sq ?_
    obtain ⟨j54, hj60, h61⟩ := bind_some h47
    refine RD 22 22 [] [] hs29 (fun f w => ∃ (F3 : Mem), HS w0 F0 w F3 [] ∧ Mem.le F1 F3 ∧ FI f [] [(0, (.slice a0_0 x0.length n0_0)), (1, (.slice a1_0 x1.length n1_0)), (5, (vi s27)), (38, (.bool j54))]) (fun wd49 hw50 => ?_) ?_
    ·refine Dvl [0, 1] [tt, tt, ff, ff, ff, ff, ff, ff, ff, ff, ff, ff, ff, ff, ff, ff, ff, ff, ff, ff, ff, ff] ?_
     obtain ⟨x62, hx63, h65⟩ := bind_some hj60
     obtain ⟨hi64, hx63'⟩ := idx_spec hx63
     obtain ⟨b66, o67, C68, E69, fz70, rfl, hF72, hE73⟩ := SlA.open (SlA.mono hs0_0 le30) hx63'
     have hc75 := hE73 _ _ hx63'
     refine Di 2 hi64 ?_
     refine Dx 3 0 (fun _ hq => hq.1.1 _ _ hF72) hc75 ?_
     refine Dvl [4, 5] [tt, tt, tt, tt, tt, tt, ff, ff, ff, ff, ff, ff, ff, ff, ff, ff, ff, ff, ff, ff, ff, ff] ?_
     obtain ⟨x76, hx77, h79⟩ := bind_some h65
     obtain ⟨hi78, hx77'⟩ := idx_spec hx77
     obtain ⟨b80, o81, C82, E83, fz84, rfl, hF86, hE87⟩ := SlA.open (SlA.mono hs1_0 le30) hx77'
     have hc89 := hE87 _ _ hx77'
     refine Di 6 hi78 ?_
     refine Dvl [7] [tt, tt, tt, tt, tt, tt, tt, tt, ff, ff, ff, ff, ff, ff, ff, ff, ff, ff, ff, ff, ff, ff] ?_
     refine Dx 8 0 (fun _ hq => hq.1.1 _ _ hF86) hc89 ?_
     refine Dvl [9, 10] [tt, tt, tt, tt, tt, tt, tt, tt, tt, tt, tt, ff, ff, ff, ff, ff, ff, ff, ff, ff, ff, ff] ?_
     refine Sd h79 (fun hb90 h91 => ?_) (fun hb90 h92 => ?_)
     ·refine Dkl [(11, 28), (12, 29), (13, 30), (14, 31), (15, 32), (16, 33)] 10 false 27 hb90 [tt, tt, tt, tt, tt, tt, tt, tt, tt, tt, tt, tt, tt, tt, tt, tt, tt, ff, ff, ff, ff, ff] ?_
      refine Dkl [(17, 34), (18, 35), (19, 36), (20, 37)] 10 false 27 hb90 [tt, tt, tt, tt, tt, tt, tt, tt, tt, tt, tt, tt, tt, tt, tt, tt, tt, tt, tt, tt, tt, ff] ?_
      refine Dtl 21 38 4 _ [tt, tt, tt, tt, tt, tt, tt, tt, tt, tt, tt, tt, tt, tt, tt, tt, tt, tt, tt, tt, tt, tt] (fun _ hq => p1 27 (.const (.bool true)) (.tmp 37) (.bool true) hb90) ?_
      obtain rfl := some_inj h91
      exact DWP.done (by kernel_rfl) ⟨F1, hw50, (Mem.le.refl _), fI⟩
     ·refine Dgl 11 28 47 _ [tt, tt, tt, tt, tt, tt, tt, tt, tt, tt, tt, tt, ff, ff, ff, ff, ff, ff, ff, ff, ff, ff] 10 false 27 hb90 (fun _ hq => mv 0 (.slice (some ⟨b66, o67, none⟩) x0.length n0_0)) ?_
      refine Dgl 12 29 3 _ [tt, tt, tt, tt, tt, tt, tt, tt, tt, tt, tt, tt, tt, ff, ff, ff, ff, ff, ff, ff, ff, ff] 10 false 27 hb90 (fun _ hq => mv 5 (vi s27)) ?_
      obtain ⟨x93, hx94, h96⟩ := bind_some h92
      obtain ⟨hi95, hx94'⟩ := idx_spec hx94
      have hc98 := hE73 _ _ hx94'
      refine Dgl 13 30 0 (.pointer (some ⟨b66, (o67 + (s27 : Int).toNat * 1), none⟩)) [tt, tt, tt, tt, tt, tt, tt, tt, tt, tt, tt, tt, tt, tt, ff, ff, ff, ff, ff, ff, ff, ff] 10 false 27 hb90 (fun _ hq => ix 47 28 29 b66 o67 3 1 8 hi95) ?_
      refine Dgl 14 31 3 _ [tt, tt, tt, tt, tt, tt, tt, tt, tt, tt, tt, tt, tt, tt, tt, ff, ff, ff, ff, ff, ff, ff] 10 false 27 hb90 (fun _ hq => lx 3 30 0 1 false 1 (vi x93) (hq.1.1 _ _ hF72) hc98) ?_
      refine Dgl 15 32 68 _ [tt, tt, tt, tt, tt, tt, tt, tt, tt, tt, tt, tt, tt, tt, tt, tt, ff, ff, ff, ff, ff, ff] 10 false 27 hb90 (fun _ hq => mv 1 (.slice (some ⟨b80, o81, none⟩) x1.length n1_0)) ?_
      refine Dgl 16 33 3 _ [tt, tt, tt, tt, tt, tt, tt, tt, tt, tt, tt, tt, tt, tt, tt, tt, tt, ff, ff, ff, ff, ff] 10 false 27 hb90 (fun _ hq => mv 5 (vi s27)) ?_
      obtain ⟨x99, hx100, h102⟩ := bind_some h96
      obtain ⟨hi101, hx100'⟩ := idx_spec hx100
      have hc104 := hE87 _ _ hx100'
      refine Dgl 17 34 0 (.pointer (some ⟨b80, (o81 + (s27 : Int).toNat * 2), none⟩)) [tt, tt, tt, tt, tt, tt, tt, tt, tt, tt, tt, tt, tt, tt, tt, tt, tt, tt, ff, ff, ff, ff] 10 false 27 hb90 (fun _ hq => ix 68 32 33 b80 o81 72 2 16 hi101) ?_
      refine Dgl 18 35 0 (.pointer (some ⟨b80, ((o81 + (s27 : Int).toNat * 2) + 1), none⟩)) [tt, tt, tt, tt, tt, tt, tt, tt, tt, tt, tt, tt, tt, tt, tt, tt, tt, tt, tt, ff, ff, ff] 10 false 27 hb90 (fun _ hq => fa 72 34 1 1 1 b80 (o81 + (s27 : Int).toNat * 2) ((o81 + (s27 : Int).toNat * 2) + 1)) ?_
      refine Dgl 19 36 3 _ [tt, tt, tt, tt, tt, tt, tt, tt, tt, tt, tt, tt, tt, tt, tt, tt, tt, tt, tt, tt, ff, ff] 10 false 27 hb90 (fun _ hq => lx 3 35 1 2 false 1 (vi x99.Hi) (hq.1.1 _ _ hF86) hc104) ?_
      refine Dgl 20 37 4 (.bool (decide (x93 > x99.Hi))) [tt, tt, tt, tt, tt, tt, tt, tt, tt, tt, tt, tt, tt, tt, tt, tt, tt, tt, tt, tt, tt, ff] 10 false 27 hb90 (fun _ hq => run_gtr (t := 3) (t' := 3) (x := (.tmp 31)) (y := (.tmp 36)) (k := .i64) (a := x93) (b := x99.Hi) rfl rfl) ?_
      refine Dtl 21 38 4 _ [tt, tt, tt, tt, tt, tt, tt, tt, tt, tt, tt, tt, tt, tt, tt, tt, tt, tt, tt, tt, tt, tt] (fun _ hq => p0 27 (.const (.bool true)) (.tmp 37) (.bool (decide (x93 > x99.Hi))) hb90) ?_
      obtain rfl := some_inj h102
      exact DWP.done (by kernel_rfl) ⟨F1, hw50, (Mem.le.refl _), fI⟩
    ·rintro f w51 ⟨F3, hs52, le53, ⟨_, rfl⟩⟩
     refine thenQ_nrm ?_
     refine Cd h61 (fun hb105 h106 => ?_) (fun hb105 h107 => ?_)
     ·refine Sq (Rg [0] ?_)
      refine Vs 1 ?_
      refine Nt ?_
      refine Rt ?_
      refine blockQ_ret ?_
      refine thenQ_ret ?_
      refine thenQ_ret ?_
      refine blockQ_ret ?_
      have hret := iter_ret h106 hnx45
      subst hret
      refine .inr ?_
      refine thenQ_ret ?_
      obtain rfl := some_inj h26
      exact Re [(.bool false)] hs52 rfl
     ·refine Sc ?_
      refine blockQ_nrm ?_
      refine thenQ_nrm ?_
      refine Rg [0, 1, 2] ?_
      refine Vs 3 ?_
      refine RWP.nil ?_
      have hn108 := iter_next h107 hnx45
      exact ⟨m42, Nat.lt_succ_self _, (W64 (s27 + 1)), F3, hn108, hs52, (le30.trans le53), fI⟩
   ·refine Ex ?_
    refine thenQ_ex ?_
    refine thenQ_ex ?_
    refine blockQ_hit rfl ?_
    have ho109 := iter_done h48 hnx45
    exact .inl ⟨rfl, s27, F1, ho109, hs29, le30, fI⟩
  ·rintro f w36 ⟨s35, F2, rfl, hs37, le38, ⟨_, rfl⟩⟩
   have h110 := k_done h26
   refine thenQ_nrm ?_
   refine Sq (Rg [0] ?_)
   refine Vs 1 ?_
   refine Nt ?_
   refine Rt ?_
   obtain rfl := some_inj h110
   exact Re [(.bool true)] hs37 rfl
end Go.Proofs.YtaihlcdkcampbaaGreatDoor
namespace Go.Proofs.YtaihlcdkcampbaaGreatDoor
open Go.Proofs
end Go.Proofs.YtaihlcdkcampbaaGreatDoor
namespace Go.Proofs.YtaihlcdkcampbaaGreatDoor
open Go.Proofs
end Go.Proofs.YtaihlcdkcampbaaGreatDoor
namespace Go.Proofs.YtaihlcdkcampbaaGreatDoor
section
variable {N : Nat}
theorem s_in {d : List Span} {f : List Int} (hN : 100 < N) (hd : d.length = 14) (h : box d f) : law06_in N f d = some true := by
 have hl := box_len h
 unfold law06_in
 rw [show ((f.length : Int) != (d.length : Int)) = false by rw [hl]; simp, cond_false]
 rw [iter_first f (fun _ => false) (fun _ => false) (fun i hi => by
  have hb := box_get h i (by omega) hi
  unfold law06_in_L0
  rw [lt_t hi, cond_true]
  simp only [idx_nat hi, idx_nat (show i < d.length by omega), Option.bind_some]
  rw [decide_eq_false (by omega), cond_false, decide_eq_false (by omega), Option.bind_some, cond_false]) (by unfold law06_in_L0; rw [lt_f, cond_false]) (by omega) (by omega), any_none]
 rfl
theorem found_zero {o : Option (List Int)} (h : (found o).2 = 0) : ∃ f, o = some f ∧ found o = (f, 0) := by
 cases o with
 | none => simp [found] at h
 | some f => exact ⟨f, rfl, rfl⟩
theorem found_three {o : Option (List Int)} (h : (found o).2 = 3) : o = none := by
 cases o with
 | none => rfl
 | some f => simp [found] at h
end
end Go.Proofs.YtaihlcdkcampbaaGreatDoor
namespace Go.Proofs.YtaihlcdkcampbaaGreatDoor
open Go.Proofs
def law06_before_L0 (N : Nat) (x0 : (List Int)) (x1 : (List Int)) : Int → Option (Flow Bool Int) := fun s24 =>
 (bif ((decide (s24 < (x0.length : Int))) && (decide (s24 < (x1.length : Int)))) then (((idx x0 s24).bind fun x68 => ((idx x1 s24).bind fun x82 => some (x68 != x82))).bind fun j60 => (bif j60 then (((idx x0 s24).bind fun x109 => ((idx x1 s24).bind fun x123 => some (decide (x109 < x123)))).bind fun j104 => some (.ret j104)) else some (.next (W64 (s24 + 1))))) else some (.done s24))
def law06_before (N : Nat) (x0 : (List Int)) (x1 : (List Int)) : Option Bool :=
 ((iter (law06_before_L0 N x0 x1) N 0).bind fun o => o.k (fun r => some r) (fun s32 => some false))
theorem co_law06_before : CallOk Tryz.prog 66 := fun _ _ => by kernel_rfl
theorem c_law06_before (N : Nat) (w0 : World) (F0 : Mem) (hF : ∀ b o, F0 b = some o → w0.heap[b]? = some o) (x0 : (List Int)) (a0_0 : Option Addr) (n0_0 : Nat) (hb0_0 : LC x0.length n0_0) (hs0_0 : SlA tInt F0 a0_0 x0) (x1 : (List Int)) (a1_0 : Option Addr) (n1_0 : Nat) (hb1_0 : LC x1.length n1_0) (hs1_0 : SlA tInt F0 a1_0 x1) (r : Bool) (h : law06_before N x0 x1 = some r) :
  Calls Tryz.prog 66 ([(.slice a0_0 x0.length n0_0), (.slice a1_0 x1.length n1_0)] : List Value).toArray w0 (FRet w0 F0 fun F' v => v = (.bool r)) := by
 have hs0 := HS.start hF
 refine Go 36 Tryz.func66 ?_
 refine Sq (Rg [0] ?_)
 refine Vs 1 ?_
 refine Nss ?_
 refine Sq (Rg [0] ?_)
 refine Vs 1 ?_
 refine Nt ?_
 obtain ⟨o21, ho22, h23⟩ := bind_some h
 refine CWP.cut (fun f w => ∃ (s32 : Int) (F2 : Mem), o21 = .done s32 ∧ HS w0 F0 w F2 [] ∧ Mem.le F0 F2 ∧ FI f [] []) ?_ ?_
 ·refine Bk ?_
  refine CWP.loop (by kernel_rfl) (fun m f w => ∃ (s24 : Int) (F1 : Mem), iter (law06_before_L0 N x0 x1) m s24 = some o21 ∧ HS w0 F0 w F1 [] ∧ Mem.le F0 F1 ∧ FI f [] [(0, (.slice a0_0 x0.length n0_0)), (1, (.slice a1_0 x1.length n1_0)), (5, (vi s24))]) N ⟨0, F0, ho22, hs0, (Mem.le.refl _), fI⟩ ?_
  rintro m37 f w25 ⟨s24, F1, hit38, hs26, le27, ⟨_, rfl⟩⟩
  obtain ⟨m39, fl40, rfl, hb41, hnx42⟩ := iter_step hit38
  refine Sq ?_
  refine Sq (Rg [0, 1, 2, 3, 4, 5, 6, 7, 8, 9] ?_)
  refine RWP.cut (fun f w => ∃ (F3 : Mem), HS w0 F0 w F3 [] ∧ Mem.le F1 F3 ∧ FI f [] [(0, (.slice a0_0 x0.length n0_0)), (1, (.slice a1_0 x1.length n1_0)), (5, (vi s24)), (15, (.bool ((decide (s24 < (x0.length : Int))) && (decide (s24 < (x1.length : Int))))))]) ?_ ?_
  ·refine Vs 5 ?_
   refine RWP.split (decide (s24 < (x0.length : Int))) (fun hb51 => ?_) (fun hb51 => ?_)
   ·refine Vgs hb51 4 ?_
    refine Pk1 hb51 ?_
    exact RWP.nil ⟨rfl, F1, hs26, (Mem.le.refl _), (fJ ⟨rfl, rfl, rfl, (congrArg Value.bool (and_t hb51 (rfl))), trivial⟩)⟩
   ·refine Ss hb51 4 ?_
    refine Pk0 hb51 ?_
    exact RWP.nil ⟨rfl, F1, hs26, (Mem.le.refl _), (fJ ⟨rfl, rfl, rfl, (congrArg Value.bool (and_f hb51 (rfl))), trivial⟩)⟩
  ·rintro f w43 ⟨F3, hs44, le45, ⟨_, rfl⟩⟩
   refine thenQ_nrm ?_
   refine Cd hb41 (fun hb52 h53 => ?_) (fun hb52 h54 => ?_)
   ·refine Sc ?_
    refine thenQ_nrm ?_
    refine Sq ?_
    refine Bk ?_
    refine Sq ?_
    obtain ⟨j60, hj66, h67⟩ := bind_some h53
    refine RD 9 9 [] [] hs44 (fun f w => ∃ (F4 : Mem), HS w0 F0 w F4 [] ∧ Mem.le F3 F4 ∧ FI f [] [(0, (.slice a0_0 x0.length n0_0)), (1, (.slice a1_0 x1.length n1_0)), (5, (vi s24)), (26, (.bool j60))]) (fun wd55 hw56 => ?_) ?_
    ·refine Dv [0, 1] ?_
     obtain ⟨x68, hx69, h71⟩ := bind_some hj66
     obtain ⟨hi70, hx69'⟩ := idx_spec hx69
     obtain ⟨b72, o73, C74, E75, fz76, rfl, hF78, hE79⟩ := SlA.open (SlA.mono hs0_0 (le27.trans le45)) hx69'
     have hc81 := hE79 _ _ hx69'
     refine Di 2 hi70 ?_
     refine Dx 3 0 (fun _ hq => hq.1.1 _ _ hF78) hc81 ?_
     refine Dv [4, 5] ?_
     obtain ⟨x82, hx83, h85⟩ := bind_some h71
     obtain ⟨hi84, hx83'⟩ := idx_spec hx83
     obtain ⟨b86, o87, C88, E89, fz90, rfl, hF92, hE93⟩ := SlA.open (SlA.mono hs1_0 (le27.trans le45)) hx83'
     have hc95 := hE93 _ _ hx83'
     refine Di 6 hi84 ?_
     refine Dx 7 0 (fun _ hq => hq.1.1 _ _ hF92) hc95 ?_
     refine Dv [8] ?_
     obtain rfl := some_inj h85
     exact DWP.done (by kernel_rfl) ⟨F3, hw56, (Mem.le.refl _), fI⟩
    ·rintro f w57 ⟨F4, hs58, le59, ⟨_, rfl⟩⟩
     refine thenQ_nrm ?_
     refine Cd h67 (fun hb96 h97 => ?_) (fun hb96 h98 => ?_)
     ·refine Sq ?_
      obtain ⟨j104, hj107, h108⟩ := bind_some h97
      refine RD 10 10 [] [] hs58 (fun f w => ∃ (F5 : Mem), HS w0 F0 w F5 [] ∧ Mem.le F4 F5 ∧ FI f [] [(4, (.bool j104))]) (fun wd99 hw100 => ?_) ?_
      ·refine Dv [0, 1] ?_
       obtain ⟨x109, hx110, h112⟩ := bind_some hj107
       obtain ⟨hi111, hx110'⟩ := idx_spec hx110
       obtain ⟨b113, o114, C115, E116, fz117, rfl, hF119, hE120⟩ := SlA.open (SlA.mono hs0_0 ((le27.trans le45).trans le59)) hx110'
       have hc122 := hE120 _ _ hx110'
       refine Di 2 hi111 ?_
       refine Dx 3 0 (fun _ hq => hq.1.1 _ _ hF119) hc122 ?_
       refine Dv [4, 5] ?_
       obtain ⟨x123, hx124, h126⟩ := bind_some h112
       obtain ⟨hi125, hx124'⟩ := idx_spec hx124
       obtain ⟨b127, o128, C129, E130, fz131, rfl, hF133, hE134⟩ := SlA.open (SlA.mono hs1_0 ((le27.trans le45).trans le59)) hx124'
       have hc136 := hE134 _ _ hx124'
       refine Di 6 hi125 ?_
       refine Dx 7 0 (fun _ hq => hq.1.1 _ _ hF133) hc136 ?_
       refine Dv [8, 9] ?_
       obtain rfl := some_inj h126
       exact DWP.done (by kernel_rfl) ⟨F4, hw100, (Mem.le.refl _), fI⟩
      ·rintro f w101 ⟨F5, hs102, le103, ⟨_, rfl⟩⟩
       refine thenQ_nrm ?_
       refine Rt ?_
       refine blockQ_ret ?_
       refine thenQ_ret ?_
       refine thenQ_ret ?_
       refine blockQ_ret ?_
       have hret := iter_ret h108 hnx42
       subst hret
       refine .inr ?_
       refine thenQ_ret ?_
       obtain rfl := some_inj h23
       exact Re [(.bool j104)] hs102 rfl
     ·refine Sc ?_
      refine blockQ_nrm ?_
      refine thenQ_nrm ?_
      refine Rg [0, 1, 2] ?_
      refine Vs 3 ?_
      refine RWP.nil ?_
      have hn137 := iter_next h98 hnx42
      exact ⟨m39, Nat.lt_succ_self _, (W64 (s24 + 1)), F4, hn137, hs58, ((le27.trans le45).trans le59), fI⟩
   ·refine Ex ?_
    refine thenQ_ex ?_
    refine thenQ_ex ?_
    refine blockQ_hit rfl ?_
    have ho138 := iter_done h54 hnx42
    exact .inl ⟨rfl, s24, F3, ho138, hs44, (le27.trans le45), fI⟩
 ·rintro f w33 ⟨s32, F2, rfl, hs34, le35, ⟨_, rfl⟩⟩
  have h139 := k_done h23
  refine thenQ_nrm ?_
  refine Sq (Rg [0] ?_)
  refine Vs 1 ?_
  refine Nt ?_
  refine Rt ?_
  obtain rfl := some_inj h139
  exact Re [(.bool false)] hs34 rfl
end Go.Proofs.YtaihlcdkcampbaaGreatDoor
namespace Go.Proofs.YtaihlcdkcampbaaGreatDoor
open Go.Proofs
def law06_RulesGapless_L0 (N : Nat) (x0 : (List Clause)) (x1 : (List Span)) (x2 : (List Span)) (r21 : Bool) (j32 : (Bool)) (r74 : ((List Int) × Int)) (j106 : (Bool)) (r131 : (List (List Int))) : Int → Option (Flow Bool Int) := fun s142 =>
 (bif (decide (s142 < (r131.length : Int))) then ((idx r131 s142).bind fun x174 => ((rules_First N x0 x174).bind fun r188 => ((bif (r74.2 == 3) then (bif (r188.2 != 0) then some true else (bif (r74.2 == 0) then ((idx r131 s142).bind fun x221 => ((law06_before N x221 r74.1).bind fun r227 => (bif r227 then ((idx r131 s142).bind fun x238 => ((law06_same N x238 r74.1).bind fun r244 => (bif r244 then some (r188.2 != 3) else some false))) else ((idx r131 s142).bind fun x255 => ((law06_same N x255 r74.1).bind fun r261 => (bif r261 then some (r188.2 != 3) else some false)))))) else some false)) else (bif (r74.2 == 0) then ((idx r131 s142).bind fun x275 => ((law06_before N x275 r74.1).bind fun r281 => (bif r281 then (bif (r188.2 != 0) then some true else ((idx r131 s142).bind fun x295 => ((law06_same N x295 r74.1).bind fun r301 => (bif r301 then some (r188.2 != 3) else some false)))) else ((idx r131 s142).bind fun x312 => ((law06_same N x312 r74.1).bind fun r318 => (bif r318 then some (r188.2 != 3) else some false)))))) else some false)).bind fun j199 => (bif j199 then some (.ret false) else some (.next (W64 (s142 + 1))))))) else some (.done s142))
def law06_RulesGapless_L1 (N : Nat) (x0 : (List Clause)) (x1 : (List Span)) (x2 : (List Span)) (r21 : Bool) (j32 : (Bool)) (r74 : ((List Int) × Int)) (j106 : (Bool)) (r131 : (List (List Int))) (s155 : Int) : Int → Option (Flow Bool Int) := fun s351 =>
 (bif (decide (s351 < (x1.length : Int))) then (((idx x2 s351).bind fun x393 => ((idx x1 s351).bind fun x407 => (bif (decide (x393.Lo < x407.Lo)) then some true else ((idx x2 s351).bind fun x424 => ((idx x1 s351).bind fun x430 => some (decide (x424.Hi > x430.Hi))))))).bind fun j383 => (bif j383 then some (.ret r21) else some (.next (W64 (s351 + 1))))) else some (.done s351))
def law06_RulesGapless (N : Nat) (x0 : (List Clause)) (x1 : (List Span)) (x2 : (List Span)) : Option Bool :=
 ((law06_awake N ).bind fun r21 => (((law06_weight N x0).bind fun r41 => (bif (decide (r41 > 200)) then some true else ((law06_few N x1 200).bind fun r52 => (bif (!r52) then some true else ((law06_few N x2 200).bind fun r63 => some (!r63)))))).bind fun j32 => (bif j32 then some r21 else ((rules_Gap N x0 x1).bind fun r74 => (bif ((r74.2 != 0) && (r74.2 != 3)) then some (r21 && ((r74.1.length : Int) == 0)) else ((bif (r74.2 == 0) then ((law06_in N r74.1 x1).bind fun r120 => some (!r120)) else some false).bind fun j106 => (bif j106 then some false else ((ref06_All N x1).bind fun r131 => ((iter (law06_RulesGapless_L0 N x0 x1 x2 r21 j32 r74 j106 r131) N 0).bind fun o => o.k (fun r => some r) (fun s155 => (bif ((r74.2 == 0) || ((x2.length : Int) != (x1.length : Int))) then some r21 else ((iter (law06_RulesGapless_L1 N x0 x1 x2 r21 j32 r74 j106 r131 s155) N 0).bind fun o => o.k (fun r => some r) (fun s361 => ((rules_Gap N x0 x2).bind fun r442 => some (r21 && ((r442.2 == 3) || (r442.2 == 64)))))))))))))))))
theorem c_law06_RulesGapless (N : Nat) (w0 : World) (F0 : Mem) (hF : ∀ b o, F0 b = some o → w0.heap[b]? = some o) (hG : Glob F0) (x0 : (List Clause)) (a0_0 : Option Addr) (n0_0 : Nat) (hb0_0 : LC x0.length n0_0) (hs0_0 : SlA tClause F0 a0_0 x0) (x1 : (List Span)) (a1_0 : Option Addr) (n1_0 : Nat) (hb1_0 : LC x1.length n1_0) (hs1_0 : SlA tSpan F0 a1_0 x1) (x2 : (List Span)) (a2_0 : Option Addr) (n2_0 : Nat) (hb2_0 : LC x2.length n2_0) (hs2_0 : SlA tSpan F0 a2_0 x2) (r : Bool) (h : law06_RulesGapless N x0 x1 x2 = some r) :
  Calls Tryz.prog 15 ([(.slice a0_0 x0.length n0_0), (.slice a1_0 x1.length n1_0), (.slice a2_0 x2.length n2_0)] : List Value).toArray w0 (FRet w0 F0 fun F' v => v = (.bool r)) := by
 have hs0 := HS.start hF
 refine Go 165 Tryz.func15 ?_
 refine Sq (Rg [0] ?_)
 refine Vs 1 ?_
 refine Nss (Rg [0, 1] ?_)
 obtain ⟨r21, hr22, h23⟩ := bind_some h
 refine Cl' co_law06_awake hs0 (c_law06_awake N w0 F0 hs0.pers hG  _ hr22) ?_
 rintro _ F1 w25 hs26 le27 rfl
 refine Vs 1 ?_
 refine Nss ?_
 refine Sq (Rg [0, 1, 2, 3, 4, 5, 6, 7, 8, 9, 10, 11, 12] ?_)
 obtain ⟨j32, hj39, h40⟩ := bind_some h23
 refine RWP.cut (fun f w => ∃ (F2 : Mem), HS w0 F0 w F2 [] ∧ Mem.le F1 F2 ∧ FI f [] [(0, (.slice a0_0 x0.length n0_0)), (1, (.slice a1_0 x1.length n1_0)), (2, (.slice a2_0 x2.length n2_0)), (7, (.bool r21)), (30, (.bool j32))]) ?_ ?_
 ·refine Vs 1 ?_
  obtain ⟨r41, hr42, h43⟩ := bind_some hj39
  refine Cl' co_law06_weight hs26 (c_law06_weight N w25 F1 hs26.pers (x0) a0_0 n0_0 hb0_0 (SlA.mono hs0_0 le27) _ hr42) ?_
  rintro _ F3 w45 hs46 le47 rfl
  refine Vs 2 ?_
  refine Sp h43 (fun hb49 h50 => ?_) (fun hb49 h51 => ?_)
  ·refine Ss hb49 3 ?_
   refine Pk1 hb49 ?_
   refine Vs 1 ?_
   refine Ss (rfl : true = true) 3 ?_
   refine Pk1 (rfl : true = true) ?_
   obtain rfl := some_inj h50
   exact RWP.nil ⟨rfl, F3, hs46, le47, fI⟩
  ·refine Vgs hb49 1 ?_
   obtain ⟨r52, hr53, h54⟩ := bind_some h51
   refine Cg hb49 co_law06_few hs46 (c_law06_few N w45 F3 hs46.pers (x1) a1_0 n1_0 hb1_0 (SlA.mono hs1_0 (le27.trans le47)) (200) _ hr53) ?_
   rintro _ F4 w56 hs57 le58 rfl
   refine Vgs hb49 1 ?_
   refine Pk0 hb49 ?_
   refine Vs 1 ?_
   refine Sp h54 (fun hb60 h61 => ?_) (fun hb60 h62 => ?_)
   ·refine Ss hb60 3 ?_
    refine Pk1 hb60 ?_
    obtain rfl := some_inj h61
    exact RWP.nil ⟨rfl, F4, hs57, (le47.trans le58), fI⟩
   ·refine Vgs hb60 1 ?_
    obtain ⟨r63, hr64, h65⟩ := bind_some h62
    refine Cg hb60 co_law06_few hs57 (c_law06_few N w56 F4 hs57.pers (x2) a2_0 n2_0 hb2_0 (SlA.mono hs2_0 ((le27.trans le47).trans le58)) (200) _ hr64) ?_
    rintro _ F5 w67 hs68 le69 rfl
    refine Vgs hb60 1 ?_
    refine Pk0 hb60 ?_
    obtain rfl := some_inj h65
    exact RWP.nil ⟨rfl, F5, hs68, ((le47.trans le58).trans le69), fI⟩
 ·rintro f w29 ⟨F2, hs30, le31, ⟨_, rfl⟩⟩
  refine thenQ_nrm ?_
  refine Cd h40 (fun hb71 h72 => ?_) (fun hb71 h73 => ?_)
  ·refine Sq (Rg [0, 1] ?_)
   refine Vs 2 ?_
   refine Nt ?_
   refine Rt ?_
   refine thenQ_ret ?_
   obtain rfl := some_inj h72
   exact Re [(.bool r21)] hs30 rfl
  ·refine Sc ?_
   refine thenQ_nrm ?_
   refine Sq (Rg [0, 1, 2, 3, 4, 5, 6, 7] ?_)
   refine Vs 2 ?_
   obtain ⟨r74, hr75, h76⟩ := bind_some h73
   refine Cl' co_rules_Gap hs30 (c_rules_Gap N w29 F2 hs30.pers (x0) a0_0 n0_0 hb0_0 (SlA.mono hs0_0 (le27.trans le31)) (x1) a1_0 n1_0 hb1_0 (SlA.mono hs1_0 (le27.trans le31)) _ hr75) ?_
   rintro _ F6 w78 hs79 le80 ⟨ar74_0_0, nr74_0_0, rfl, hbr74_0_0, hsr74_0_0⟩
   refine Vs 5 ?_
   refine Nss ?_
   refine Sq (Rg [0, 1, 2, 3, 4, 5] ?_)
   refine RWP.cut (fun f w => ∃ (F7 : Mem), HS w0 F0 w F7 [] ∧ Mem.le F6 F7 ∧ FI f [] [(0, (.slice a0_0 x0.length n0_0)), (1, (.slice a1_0 x1.length n1_0)), (2, (.slice a2_0 x2.length n2_0)), (7, (.bool r21)), (8, (.slice ar74_0_0 r74.1.length nr74_0_0)), (9, (vi r74.2)), (43, (.bool ((r74.2 != 0) && (r74.2 != 3))))]) ?_ ?_
   ·refine Vs 3 ?_
    refine RWP.split (r74.2 != 0) (fun hb93 => ?_) (fun hb93 => ?_)
    ·refine Vgs hb93 2 ?_
     refine Pk1 hb93 ?_
     exact RWP.nil ⟨rfl, F6, hs79, (Mem.le.refl _), (fJ ⟨rfl, rfl, rfl, rfl, rfl, rfl, (congrArg Value.bool (and_t hb93 (rfl))), trivial⟩)⟩
    ·refine Ss hb93 2 ?_
     refine Pk0 hb93 ?_
     exact RWP.nil ⟨rfl, F6, hs79, (Mem.le.refl _), (fJ ⟨rfl, rfl, rfl, rfl, rfl, rfl, (congrArg Value.bool (and_f hb93 (rfl))), trivial⟩)⟩
   ·rintro f w82 ⟨F7, hs83, le84, ⟨_, rfl⟩⟩
    refine thenQ_nrm ?_
    refine Cd h76 (fun hb94 h95 => ?_) (fun hb94 h96 => ?_)
    ·refine Sq (Rg [0, 1, 2, 3, 4, 5, 6] ?_)
     refine RWP.cut (fun f w => ∃ (F8 : Mem), HS w0 F0 w F8 [] ∧ Mem.le F7 F8 ∧ FI f [] [(6, (.bool (r21 && ((r74.1.length : Int) == 0))))]) ?_ ?_
     ·refine Vs 2 ?_
      refine RWP.split r21 (fun hb102 => ?_) (fun hb102 => ?_)
      ·refine Vgs hb102 3 ?_
       refine Pk1 hb102 ?_
       refine Vs 1 ?_
       exact RWP.nil ⟨rfl, F7, hs83, (Mem.le.refl _), (fJ ⟨(congrArg Value.bool (and_t hb102 (rfl))), trivial⟩)⟩
      ·refine Ss hb102 3 ?_
       refine Pk0 hb102 ?_
       refine Vs 1 ?_
       exact RWP.nil ⟨rfl, F7, hs83, (Mem.le.refl _), (fJ ⟨(congrArg Value.bool (and_f hb102 (rfl))), trivial⟩)⟩
     ·rintro f w97 ⟨F8, hs98, le99, ⟨_, rfl⟩⟩
      refine thenQ_nrm ?_
      refine Rt ?_
      refine thenQ_ret ?_
      obtain rfl := some_inj h95
      exact Re [(.bool (r21 && ((r74.1.length : Int) == 0)))] hs98 rfl
    ·refine Sc ?_
     refine thenQ_nrm ?_
     refine Sq ?_
     refine Sq (Rg [0, 1, 2, 3, 4, 5, 6, 7] ?_)
     obtain ⟨j106, hj115, h116⟩ := bind_some h96
     refine RWP.cut (fun f w => ∃ (F9 : Mem), HS w0 F0 w F9 [] ∧ Mem.le F7 F9 ∧ FI f [] [(0, (.slice a0_0 x0.length n0_0)), (1, (.slice a1_0 x1.length n1_0)), (2, (.slice a2_0 x2.length n2_0)), (7, (.bool r21)), (8, (.slice ar74_0_0 r74.1.length nr74_0_0)), (9, (vi r74.2)), (57, (.bool j106))]) ?_ ?_
     ·refine Vs 3 ?_
      refine Sp hj115 (fun hb117 h118 => ?_) (fun hb117 h119 => ?_)
      ·refine Vgs hb117 2 ?_
       obtain ⟨r120, hr121, h122⟩ := bind_some h118
       refine Cg hb117 co_law06_in hs83 (c_law06_in N w82 F7 hs83.pers (r74.1) ar74_0_0 nr74_0_0 hbr74_0_0 (SlA.mono hsr74_0_0 le84) (x1) a1_0 n1_0 hb1_0 (SlA.mono hs1_0 (((le27.trans le31).trans le80).trans le84)) _ hr121) ?_
       rintro _ F10 w124 hs125 le126 rfl
       refine Vgs hb117 1 ?_
       refine Pk1 hb117 ?_
       obtain rfl := some_inj h122
       exact RWP.nil ⟨rfl, F10, hs125, le126, fI⟩
      ·refine Ss hb117 4 ?_
       refine Pk0 hb117 ?_
       obtain rfl := some_inj h119
       exact RWP.nil ⟨rfl, F7, hs83, (Mem.le.refl _), fI⟩
     ·rintro f w103 ⟨F9, hs104, le105, ⟨_, rfl⟩⟩
      refine thenQ_nrm ?_
      refine Cd h116 (fun hb128 h129 => ?_) (fun hb128 h130 => ?_)
      ·refine Sq (Rg [0] ?_)
       refine Vs 1 ?_
       refine Nt ?_
       refine Rt ?_
       refine thenQ_ret ?_
       obtain rfl := some_inj h129
       exact Re [(.bool false)] hs104 rfl
      ·refine Sc ?_
       refine thenQ_nrm ?_
       refine Sq (Rg [0, 1, 2] ?_)
       refine Vs 1 ?_
       obtain ⟨r131, hr132, h133⟩ := bind_some h130
       refine Cl' co_ref06_All hs104 (c_ref06_All N w103 F9 hs104.pers (x1) a1_0 n1_0 hb1_0 (SlA.mono hs1_0 ((((le27.trans le31).trans le80).trans le84).trans le105)) _ hr132) ?_
       rintro _ F11 w135 hs136 le137 ⟨ar131_0_0, nr131_0_0, rfl, hbr131_0_0, hsr131_0_0⟩
       refine Vs 1 ?_
       refine Nss ?_
       refine Sq (Rg [0] ?_)
       refine Vs 1 ?_
       refine Nt ?_
       obtain ⟨o139, ho140, h141⟩ := bind_some h133
       refine CWP.cut (fun f w => ∃ (s155 : Int) (F13 : Mem), o139 = .done s155 ∧ HS w0 F0 w F13 [] ∧ Mem.le F11 F13 ∧ FI f [] [(0, (.slice a0_0 x0.length n0_0)), (1, (.slice a1_0 x1.length n1_0)), (2, (.slice a2_0 x2.length n2_0)), (7, (.bool r21)), (9, (vi r74.2))]) ?_ ?_
       ·refine Bk ?_
        refine CWP.loop (by kernel_rfl) (fun m f w => ∃ (s142 : Int) (F12 : Mem), iter (law06_RulesGapless_L0 N x0 x1 x2 r21 j32 r74 j106 r131) m s142 = some o139 ∧ HS w0 F0 w F12 [] ∧ Mem.le F11 F12 ∧ FI f [] [(0, (.slice a0_0 x0.length n0_0)), (1, (.slice a1_0 x1.length n1_0)), (2, (.slice a2_0 x2.length n2_0)), (7, (.bool r21)), (8, (.slice ar74_0_0 r74.1.length nr74_0_0)), (9, (vi r74.2)), (10, (.slice ar131_0_0 r131.length nr131_0_0)), (11, (vi s142))]) N ⟨0, F11, ho140, hs136, (Mem.le.refl _), fI⟩ ?_
        rintro m165 f w143 ⟨s142, F12, hit166, hs144, le145, ⟨_, rfl⟩⟩
        obtain ⟨m167, fl168, rfl, hb169, hnx170⟩ := iter_step hit166
        refine Sq ?_
        refine Sq (Rg [0, 1, 2, 3] ?_)
        refine Vs 4 ?_
        refine Nt ?_
        refine Cd hb169 (fun hb171 h172 => ?_) (fun hb171 h173 => ?_)
        ·refine Sc ?_
         refine thenQ_nrm ?_
         refine Sq ?_
         refine Bk ?_
         refine Sq (Rg [0, 1, 2, 3, 4, 5, 6, 7, 8, 9, 10] ?_)
         refine Vs 3 ?_
         obtain ⟨x174, hx175, h177⟩ := bind_some h172
         obtain ⟨hi176, hx175'⟩ := idx_spec hx175
         obtain ⟨b178, o179, C180, E181, fz182, rfl, hF184, hE185⟩ := SlA.open (SlA.mono hsr131_0_0 le145) hx175'
         obtain ⟨ae186_0, ne186_0, hc187, hbe186_0, hse186_0⟩ := hE185 _ _ hx175'
         refine Ix hi176 ?_
         refine Lx 0 (hs144.pers _ _ hF184) hc187 ?_
         obtain ⟨r188, hr189, h190⟩ := bind_some h177
         refine Cl' co_rules_First hs144 (c_rules_First N w143 F12 hs144.pers (x0) a0_0 n0_0 hb0_0 (SlA.mono hs0_0 ((((((le27.trans le31).trans le80).trans le84).trans le105).trans le137).trans le145)) (x174) ae186_0 ne186_0 hbe186_0 hse186_0 _ hr189) ?_
         rintro _ F14 w192 hs193 le194 rfl
         refine Vs 5 ?_
         refine Nss (Rg [0, 1, 2, 3, 4, 5, 6, 7, 8, 9, 10, 11, 12, 13, 14, 15, 16, 17, 18, 19, 20, 21, 22, 23, 24, 25, 26, 27, 28, 29, 30, 31, 32, 33] ?_)
         obtain ⟨j199, hj210, h211⟩ := bind_some h190
         refine RWP.cut (fun f w => ∃ (F15 : Mem), HS w0 F0 w F15 [] ∧ Mem.le F14 F15 ∧ FI f [] [(0, (.slice a0_0 x0.length n0_0)), (1, (.slice a1_0 x1.length n1_0)), (2, (.slice a2_0 x2.length n2_0)), (7, (.bool r21)), (8, (.slice ar74_0_0 r74.1.length nr74_0_0)), (9, (vi r74.2)), (10, (.slice (some ⟨b178, o179, none⟩) r131.length nr131_0_0)), (11, (vi s142)), (108, (.bool j199))]) ?_ ?_
         ·refine Vs 3 ?_
          refine Sp hj210 (fun hb212 h213 => ?_) (fun hb212 h214 => ?_)
          ·refine Vgs hb212 2 ?_
           refine Pk1 hb212 ?_
           refine Vs 1 ?_
           refine Sp h213 (fun hb215 h216 => ?_) (fun hb215 h217 => ?_)
           ·refine Ss hb215 3 ?_
            refine Su' 7 ?_
            refine Su' 2 ?_
            refine Su' 2 ?_
            refine Su' 7 ?_
            refine Su' 2 ?_
            refine Su' 1 ?_
            refine Su' 1 ?_
            refine Ss hb215 1 ?_
            refine Pk1 hb215 ?_
            obtain rfl := some_inj h216
            exact RWP.nil ⟨rfl, F14, hs193, (Mem.le.refl _), fI⟩
           ·refine Vgs hb215 3 ?_
            refine Sp h217 (fun hb218 h219 => ?_) (fun hb218 h220 => ?_)
            ·refine Vgs hb218 2 ?_
             obtain ⟨x221, hx222, h224⟩ := bind_some h219
             obtain ⟨hi223, hx222'⟩ := idx_spec hx222
             obtain ⟨ae225_0, ne225_0, hc226, hbe225_0, hse225_0⟩ := hE185 _ _ hx222'
             refine Ixg hb218 hi223 ?_
             refine Lxg hb218 0 (hs193.pers _ _ (le194 _ _ hF184)) hc226 ?_
             refine Vgs hb218 1 ?_
             obtain ⟨r227, hr228, h229⟩ := bind_some h224
             refine Cg hb218 co_law06_before hs193 (c_law06_before N w192 F14 hs193.pers (x221) ae225_0 ne225_0 hbe225_0 (SlA.mono hse225_0 le194) (r74.1) ar74_0_0 nr74_0_0 hbr74_0_0 (SlA.mono hsr74_0_0 ((((le84.trans le105).trans le137).trans le145).trans le194)) _ hr228) ?_
             rintro _ F16 w231 hs232 le233 rfl
             refine Vgs hb218 1 ?_
             refine Sp h229 (fun hb235 h236 => ?_) (fun hb235 h237 => ?_)
             ·refine Vgs hb235 2 ?_
              refine Pg1 hb218 hb235 ?_
              refine Vgs hb218 1 ?_
              refine Vgs hb215 2 ?_
              obtain ⟨x238, hx239, h241⟩ := bind_some h236
              obtain ⟨hi240, hx239'⟩ := idx_spec hx239
              obtain ⟨ae242_0, ne242_0, hc243, hbe242_0, hse242_0⟩ := hE185 _ _ hx239'
              refine Ixg hb215 hi240 ?_
              refine Lxg hb215 0 (hs232.pers _ _ ((le194.trans le233) _ _ hF184)) hc243 ?_
              refine Vgs hb215 1 ?_
              obtain ⟨r244, hr245, h246⟩ := bind_some h241
              refine Cg hb215 co_law06_same hs232 (c_law06_same N w231 F16 hs232.pers (x238) ae242_0 ne242_0 hbe242_0 (SlA.mono hse242_0 (le194.trans le233)) (r74.1) ar74_0_0 nr74_0_0 hbr74_0_0 (SlA.mono hsr74_0_0 (((((le84.trans le105).trans le137).trans le145).trans le194).trans le233)) _ hr245) ?_
              rintro _ F17 w248 hs249 le250 rfl
              refine Vgs hb215 1 ?_
              refine Sp h246 (fun hb252 h253 => ?_) (fun hb252 h254 => ?_)
              ·refine Vgs hb252 2 ?_
               refine Pg1 hb215 hb252 ?_
               refine Pg0 hb218 hb215 ?_
               refine Pg1 hb215 hb218 ?_
               refine Pk0 hb215 ?_
               obtain rfl := some_inj h253
               exact RWP.nil ⟨rfl, F17, hs249, (le233.trans le250), fI⟩
              ·refine Ss hb252 2 ?_
               refine Pg0 hb215 hb252 ?_
               refine Pg0 hb218 hb215 ?_
               refine Pg1 hb215 hb218 ?_
               refine Pk0 hb215 ?_
               obtain rfl := some_inj h254
               exact RWP.nil ⟨rfl, F17, hs249, (le233.trans le250), fI⟩
             ·refine Ss hb235 2 ?_
              refine Pg0 hb218 hb235 ?_
              refine Vgs hb218 1 ?_
              refine Vg 96 77 20 false 95 rfl (mv 10 (.slice (some ⟨b178, o179, none⟩) r131.length nr131_0_0)) ?_
              refine Vg 97 3 20 false 95 rfl (mv 11 (vi s142)) ?_
              obtain ⟨x255, hx256, h258⟩ := bind_some h237
              obtain ⟨hi257, hx256'⟩ := idx_spec hx256
              obtain ⟨ae259_0, ne259_0, hc260, hbe259_0, hse259_0⟩ := hE185 _ _ hx256'
              refine Vg 98 0 20 false 95 rfl (ix 77 96 97 b178 o179 47 1 24 hi257) ?_
              refine Vg 99 47 20 false 95 rfl (lx 47 98 0 1 false 1 (.slice ae259_0 x255.length ne259_0) (hs232.pers _ _ ((le194.trans le233) _ _ hF184)) hc260) ?_
              refine Vg 100 47 20 false 95 rfl (mv 8 (.slice ar74_0_0 r74.1.length nr74_0_0)) ?_
              obtain ⟨r261, hr262, h263⟩ := bind_some h258
              refine RWP.call (dst := (some 101)) (ty := 4) (g := (some (20, false))) (by kernel_rfl) (gd_y (d := 95) (by kernel_rfl) rfl rfl) (f0 := (.func 50)) (aos := #[(.tmp 99), (.tmp 100)]) (ats := #[47, 47]) (fid := 50) (first := #[]) (cap := #[]) (args := [(.slice ae259_0 x255.length ne259_0), (.slice ar74_0_0 r74.1.length nr74_0_0)]) rfl co_law06_same (rfl) hs232 (c_law06_same N w231 F16 hs232.pers (x255) ae259_0 ne259_0 hbe259_0 (SlA.mono hse259_0 (le194.trans le233)) (r74.1) ar74_0_0 nr74_0_0 hbr74_0_0 (SlA.mono hsr74_0_0 (((((le84.trans le105).trans le137).trans le145).trans le194).trans le233)) _ hr262) ?_
              rintro _ F18 w265 hs266 le267 rfl
              refine Vg 102 4 20 false 95 rfl (mv 101 (.bool r261)) ?_
              refine Sp h263 (fun hb269 h270 => ?_) (fun hb269 h271 => ?_)
              ·refine Vgs hb269 2 ?_
               refine Vg 105 4 20 false 95 rfl (p1 102 (.tmp 104) (.const (.bool false)) (.bool (r188.2 != 3)) hb269) ?_
               refine Pg0 hb218 (rfl : false = false) ?_
               refine Pg1 hb215 hb218 ?_
               refine Pk0 hb215 ?_
               obtain rfl := some_inj h270
               exact RWP.nil ⟨rfl, F18, hs266, (le233.trans le267), fI⟩
              ·refine Ss hb269 2 ?_
               refine Vg 105 4 20 false 95 rfl (p0 102 (.tmp 104) (.const (.bool false)) (.bool false) hb269) ?_
               refine Pg0 hb218 (rfl : false = false) ?_
               refine Pg1 hb215 hb218 ?_
               refine Pk0 hb215 ?_
               obtain rfl := some_inj h271
               exact RWP.nil ⟨rfl, F18, hs266, (le233.trans le267), fI⟩
            ·refine Ss hb218 7 ?_
             refine Su' 2 ?_
             refine Ss hb218 2 ?_
             refine Su' 7 ?_
             refine Su' 2 ?_
             refine Su' 1 ?_
             refine Ss hb218 1 ?_
             refine Pg0 hb215 hb218 ?_
             refine Pk0 hb215 ?_
             obtain rfl := some_inj h220
             exact RWP.nil ⟨rfl, F14, hs193, (Mem.le.refl _), fI⟩
          ·refine Ss hb212 2 ?_
           refine Pk0 hb212 ?_
           refine Vs 1 ?_
           refine Vg 82 27 6 false 81 rfl (mv 9 (vi r74.2)) ?_
           refine Vg 83 4 6 false 81 rfl (run_eql (t := 27) (t' := 27) (x := (.tmp 82)) (y := (.const (vi 0))) (k := .i64) (a := r74.2) (b := 0) rfl rfl) ?_
           refine Vg 84 4 6 false 81 rfl (mv 83 (.bool (r74.2 == 0))) ?_
           refine Sp h214 (fun hb272 h273 => ?_) (fun hb272 h274 => ?_)
           ·refine Vgs hb272 2 ?_
            obtain ⟨x275, hx276, h278⟩ := bind_some h273
            obtain ⟨hi277, hx276'⟩ := idx_spec hx276
            obtain ⟨ae279_0, ne279_0, hc280, hbe279_0, hse279_0⟩ := hE185 _ _ hx276'
            refine Ixg hb272 hi277 ?_
            refine Lxg hb272 0 (hs193.pers _ _ (le194 _ _ hF184)) hc280 ?_
            refine Vgs hb272 1 ?_
            obtain ⟨r281, hr282, h283⟩ := bind_some h278
            refine Cg hb272 co_law06_before hs193 (c_law06_before N w192 F14 hs193.pers (x275) ae279_0 ne279_0 hbe279_0 (SlA.mono hse279_0 le194) (r74.1) ar74_0_0 nr74_0_0 hbr74_0_0 (SlA.mono hsr74_0_0 ((((le84.trans le105).trans le137).trans le145).trans le194)) _ hr282) ?_
            rintro _ F19 w285 hs286 le287 rfl
            refine Vgs hb272 1 ?_
            refine Sp h283 (fun hb289 h290 => ?_) (fun hb289 h291 => ?_)
            ·refine Vgs hb289 2 ?_
             refine Pg1 hb272 hb289 ?_
             refine Vgs hb272 1 ?_
             refine Sp h290 (fun hb292 h293 => ?_) (fun hb292 h294 => ?_)
             ·refine Ss hb292 7 ?_
              refine Su' 2 ?_
              refine Ss hb292 1 ?_
              refine Pg1 hb272 hb292 ?_
              refine Vg 107 4 6 false 81 rfl (p1 84 (.tmp 106) (.const (.bool false)) (.bool true) hb272) ?_
              refine Pk0 (rfl : false = false) ?_
              obtain rfl := some_inj h293
              exact RWP.nil ⟨rfl, F19, hs286, le287, fI⟩
             ·refine Vgs hb292 2 ?_
              obtain ⟨x295, hx296, h298⟩ := bind_some h294
              obtain ⟨hi297, hx296'⟩ := idx_spec hx296
              obtain ⟨ae299_0, ne299_0, hc300, hbe299_0, hse299_0⟩ := hE185 _ _ hx296'
              refine Ixg hb292 hi297 ?_
              refine Lxg hb292 0 (hs286.pers _ _ ((le194.trans le287) _ _ hF184)) hc300 ?_
              refine Vgs hb292 1 ?_
              obtain ⟨r301, hr302, h303⟩ := bind_some h298
              refine Cg hb292 co_law06_same hs286 (c_law06_same N w285 F19 hs286.pers (x295) ae299_0 ne299_0 hbe299_0 (SlA.mono hse299_0 (le194.trans le287)) (r74.1) ar74_0_0 nr74_0_0 hbr74_0_0 (SlA.mono hsr74_0_0 (((((le84.trans le105).trans le137).trans le145).trans le194).trans le287)) _ hr302) ?_
              rintro _ F20 w305 hs306 le307 rfl
              refine Vgs hb292 1 ?_
              refine Sp h303 (fun hb309 h310 => ?_) (fun hb309 h311 => ?_)
              ·refine Vgs hb309 2 ?_
               refine Pg1 hb292 hb309 ?_
               refine Pg0 hb272 hb292 ?_
               refine Vg 107 4 6 false 81 rfl (p1 84 (.tmp 106) (.const (.bool false)) (.bool (r188.2 != 3)) hb272) ?_
               refine Pk0 (rfl : false = false) ?_
               obtain rfl := some_inj h310
               exact RWP.nil ⟨rfl, F20, hs306, (le287.trans le307), fI⟩
              ·refine Ss hb309 2 ?_
               refine Pg0 hb292 hb309 ?_
               refine Pg0 hb272 hb292 ?_
               refine Vg 107 4 6 false 81 rfl (p1 84 (.tmp 106) (.const (.bool false)) (.bool false) hb272) ?_
               refine Pk0 (rfl : false = false) ?_
               obtain rfl := some_inj h311
               exact RWP.nil ⟨rfl, F20, hs306, (le287.trans le307), fI⟩
            ·refine Ss hb289 2 ?_
             refine Pg0 hb272 hb289 ?_
             refine Vgs hb272 1 ?_
             refine Vg 96 77 20 false 95 rfl (mv 10 (.slice (some ⟨b178, o179, none⟩) r131.length nr131_0_0)) ?_
             refine Vg 97 3 20 false 95 rfl (mv 11 (vi s142)) ?_
             obtain ⟨x312, hx313, h315⟩ := bind_some h291
             obtain ⟨hi314, hx313'⟩ := idx_spec hx313
             obtain ⟨ae316_0, ne316_0, hc317, hbe316_0, hse316_0⟩ := hE185 _ _ hx313'
             refine Vg 98 0 20 false 95 rfl (ix 77 96 97 b178 o179 47 1 24 hi314) ?_
             refine Vg 99 47 20 false 95 rfl (lx 47 98 0 1 false 1 (.slice ae316_0 x312.length ne316_0) (hs286.pers _ _ ((le194.trans le287) _ _ hF184)) hc317) ?_
             refine Vg 100 47 20 false 95 rfl (mv 8 (.slice ar74_0_0 r74.1.length nr74_0_0)) ?_
             obtain ⟨r318, hr319, h320⟩ := bind_some h315
             refine RWP.call (dst := (some 101)) (ty := 4) (g := (some (20, false))) (by kernel_rfl) (gd_y (d := 95) (by kernel_rfl) rfl rfl) (f0 := (.func 50)) (aos := #[(.tmp 99), (.tmp 100)]) (ats := #[47, 47]) (fid := 50) (first := #[]) (cap := #[]) (args := [(.slice ae316_0 x312.length ne316_0), (.slice ar74_0_0 r74.1.length nr74_0_0)]) rfl co_law06_same (rfl) hs286 (c_law06_same N w285 F19 hs286.pers (x312) ae316_0 ne316_0 hbe316_0 (SlA.mono hse316_0 (le194.trans le287)) (r74.1) ar74_0_0 nr74_0_0 hbr74_0_0 (SlA.mono hsr74_0_0 (((((le84.trans le105).trans le137).trans le145).trans le194).trans le287)) _ hr319) ?_
             rintro _ F21 w322 hs323 le324 rfl
             refine Vg 102 4 20 false 95 rfl (mv 101 (.bool r318)) ?_
             refine Sp h320 (fun hb326 h327 => ?_) (fun hb326 h328 => ?_)
             ·refine Vgs hb326 2 ?_
              refine Vg 105 4 20 false 95 rfl (p1 102 (.tmp 104) (.const (.bool false)) (.bool (r188.2 != 3)) hb326) ?_
              refine Pg0 hb272 (rfl : false = false) ?_
              refine Vg 107 4 6 false 81 rfl (p1 84 (.tmp 106) (.const (.bool false)) (.bool (r188.2 != 3)) hb272) ?_
              refine Pk0 (rfl : false = false) ?_
              obtain rfl := some_inj h327
              exact RWP.nil ⟨rfl, F21, hs323, (le287.trans le324), fI⟩
             ·refine Ss hb326 2 ?_
              refine Vg 105 4 20 false 95 rfl (p0 102 (.tmp 104) (.const (.bool false)) (.bool false) hb326) ?_
              refine Pg0 hb272 (rfl : false = false) ?_
              refine Vg 107 4 6 false 81 rfl (p1 84 (.tmp 106) (.const (.bool false)) (.bool false) hb272) ?_
              refine Pk0 (rfl : false = false) ?_
              obtain rfl := some_inj h328
              exact RWP.nil ⟨rfl, F21, hs323, (le287.trans le324), fI⟩
           ·refine Ss hb272 7 ?_
            refine Su' 2 ?_
            refine Ss hb272 2 ?_
            refine Su' 7 ?_
            refine Su' 2 ?_
            refine Su' 1 ?_
            refine Ss hb272 1 ?_
            refine Vg 107 4 6 false 81 rfl (p0 84 (.tmp 106) (.const (.bool false)) (.bool false) hb272) ?_
            refine Pk0 (rfl : false = false) ?_
            obtain rfl := some_inj h274
            exact RWP.nil ⟨rfl, F14, hs193, (Mem.le.refl _), fI⟩
         ·rintro f w196 ⟨F15, hs197, le198, ⟨_, rfl⟩⟩
          refine thenQ_nrm ?_
          refine Cd h211 (fun hb329 h330 => ?_) (fun hb329 h331 => ?_)
          ·refine Sq (Rg [0] ?_)
           refine Vs 1 ?_
           refine Nt ?_
           refine Rt ?_
           refine blockQ_ret ?_
           refine thenQ_ret ?_
           refine thenQ_ret ?_
           refine blockQ_ret ?_
           have hret := iter_ret h330 hnx170
           subst hret
           refine .inr ?_
           refine thenQ_ret ?_
           obtain rfl := some_inj h141
           exact Re [(.bool false)] hs197 rfl
          ·refine Sc ?_
           refine blockQ_nrm ?_
           refine thenQ_nrm ?_
           refine Rg [0, 1, 2] ?_
           refine Vs 3 ?_
           refine RWP.nil ?_
           have hn332 := iter_next h331 hnx170
           exact ⟨m167, Nat.lt_succ_self _, (W64 (s142 + 1)), F15, hn332, hs197, ((le145.trans le194).trans le198), fI⟩
        ·refine Ex ?_
         refine thenQ_ex ?_
         refine thenQ_ex ?_
         refine blockQ_hit rfl ?_
         have ho333 := iter_done h173 hnx170
         exact .inl ⟨rfl, s142, F12, ho333, hs144, le145, fI⟩
       ·rintro f w156 ⟨s155, F13, rfl, hs157, le158, ⟨_, rfl⟩⟩
        have h334 := k_done h141
        refine thenQ_nrm ?_
        refine Sq ?_
        refine Sq (Rg [0, 1, 2, 3, 4, 5, 6, 7, 8] ?_)
        refine RWP.cut (fun f w => ∃ (F22 : Mem), HS w0 F0 w F22 [] ∧ Mem.le F13 F22 ∧ FI f [] [(0, (.slice a0_0 x0.length n0_0)), (1, (.slice a1_0 x1.length n1_0)), (2, (.slice a2_0 x2.length n2_0)), (7, (.bool r21)), (117, (.bool ((r74.2 == 0) || ((x2.length : Int) != (x1.length : Int)))))]) ?_ ?_
        ·refine Vs 3 ?_
         refine RWP.split (r74.2 == 0) (fun hb344 => ?_) (fun hb344 => ?_)
         ·refine Ss hb344 5 ?_
          refine Pk1 hb344 ?_
          exact RWP.nil ⟨rfl, F13, hs157, (Mem.le.refl _), (fJ ⟨rfl, rfl, rfl, rfl, (congrArg Value.bool (or_t hb344 (rfl))), trivial⟩)⟩
         ·refine Vgs hb344 5 ?_
          refine Pk0 hb344 ?_
          exact RWP.nil ⟨rfl, F13, hs157, (Mem.le.refl _), (fJ ⟨rfl, rfl, rfl, rfl, (congrArg Value.bool (or_f hb344 (rfl))), trivial⟩)⟩
        ·rintro f w335 ⟨F22, hs336, le337, ⟨_, rfl⟩⟩
         refine thenQ_nrm ?_
         refine Cd h334 (fun hb345 h346 => ?_) (fun hb345 h347 => ?_)
         ·refine Sq (Rg [0, 1] ?_)
          refine Vs 2 ?_
          refine Nt ?_
          refine Rt ?_
          refine thenQ_ret ?_
          obtain rfl := some_inj h346
          exact Re [(.bool r21)] hs336 rfl
         ·refine Sc ?_
          refine thenQ_nrm ?_
          refine Sq ?_
          refine Sq (Rg [0] ?_)
          refine Vs 1 ?_
          refine Nt ?_
          obtain ⟨o348, ho349, h350⟩ := bind_some h347
          refine CWP.cut (fun f w => ∃ (s361 : Int) (F24 : Mem), o348 = .done s361 ∧ HS w0 F0 w F24 [] ∧ Mem.le F22 F24 ∧ FI f [] [(0, (.slice a0_0 x0.length n0_0)), (2, (.slice a2_0 x2.length n2_0)), (7, (.bool r21))]) ?_ ?_
          ·refine Bk ?_
           refine CWP.loop (by kernel_rfl) (fun m f w => ∃ (s351 : Int) (F23 : Mem), iter (law06_RulesGapless_L1 N x0 x1 x2 r21 j32 r74 j106 r131 s155) m s351 = some o348 ∧ HS w0 F0 w F23 [] ∧ Mem.le F22 F23 ∧ FI f [] [(0, (.slice a0_0 x0.length n0_0)), (1, (.slice a1_0 x1.length n1_0)), (2, (.slice a2_0 x2.length n2_0)), (7, (.bool r21)), (14, (vi s351))]) N ⟨0, F22, ho349, hs336, (Mem.le.refl _), fI⟩ ?_
           rintro m369 f w352 ⟨s351, F23, hit370, hs353, le354, ⟨_, rfl⟩⟩
           obtain ⟨m371, fl372, rfl, hb373, hnx374⟩ := iter_step hit370
           refine Sq ?_
           refine Sq (Rg [0, 1, 2, 3] ?_)
           refine Vs 4 ?_
           refine Nt ?_
           refine Cd hb373 (fun hb375 h376 => ?_) (fun hb375 h377 => ?_)
           ·refine Sc ?_
            refine thenQ_nrm ?_
            refine Sq ?_
            refine Bk ?_
            refine Sq ?_
            obtain ⟨j383, hj391, h392⟩ := bind_some h376
            refine RD 24 24 [] [] hs353 (fun f w => ∃ (F25 : Mem), HS w0 F0 w F25 [] ∧ Mem.le F23 F25 ∧ FI f [] [(0, (.slice a0_0 x0.length n0_0)), (1, (.slice a1_0 x1.length n1_0)), (2, (.slice a2_0 x2.length n2_0)), (7, (.bool r21)), (14, (vi s351)), (148, (.bool j383))]) (fun wd378 hw379 => ?_) ?_
            ·refine Dvl [0, 1] [tt, tt, ff, ff, ff, ff, ff, ff, ff, ff, ff, ff, ff, ff, ff, ff, ff, ff, ff, ff, ff, ff, ff, ff] ?_
             obtain ⟨x393, hx394, h396⟩ := bind_some hj391
             obtain ⟨hi395, hx394'⟩ := idx_spec hx394
             obtain ⟨b397, o398, C399, E400, fz401, rfl, hF403, hE404⟩ := SlA.open (SlA.mono hs2_0 ((((((((le27.trans le31).trans le80).trans le84).trans le105).trans le137).trans le158).trans le337).trans le354)) hx394'
             have hc406 := hE404 _ _ hx394'
             refine Di 2 hi395 ?_
             refine Dvl [3] [tt, tt, tt, tt, ff, ff, ff, ff, ff, ff, ff, ff, ff, ff, ff, ff, ff, ff, ff, ff, ff, ff, ff, ff] ?_
             refine Dx 4 0 (fun _ hq => hq.1.1 _ _ hF403) hc406 ?_
             refine Dvl [5, 6] [tt, tt, tt, tt, tt, tt, tt, ff, ff, ff, ff, ff, ff, ff, ff, ff, ff, ff, ff, ff, ff, ff, ff, ff] ?_
             obtain ⟨x407, hx408, h410⟩ := bind_some h396
             obtain ⟨hi409, hx408'⟩ := idx_spec hx408
             obtain ⟨b411, o412, C413, E414, fz415, rfl, hF417, hE418⟩ := SlA.open (SlA.mono hs1_0 ((((((((le27.trans le31).trans le80).trans le84).trans le105).trans le137).trans le158).trans le337).trans le354)) hx408'
             have hc420 := hE418 _ _ hx408'
             refine Di 7 hi409 ?_
             refine Dvl [8] [tt, tt, tt, tt, tt, tt, tt, tt, tt, ff, ff, ff, ff, ff, ff, ff, ff, ff, ff, ff, ff, ff, ff, ff] ?_
             refine Dx 9 0 (fun _ hq => hq.1.1 _ _ hF417) hc420 ?_
             refine Dvl [10, 11] [tt, tt, tt, tt, tt, tt, tt, tt, tt, tt, tt, tt, ff, ff, ff, ff, ff, ff, ff, ff, ff, ff, ff, ff] ?_
             refine Sd h410 (fun hb421 h422 => ?_) (fun hb421 h423 => ?_)
             ·refine Dkl [(12, 137), (13, 138), (14, 139), (15, 140), (16, 141), (17, 142)] 11 false 136 hb421 [tt, tt, tt, tt, tt, tt, tt, tt, tt, tt, tt, tt, tt, tt, tt, tt, tt, tt, ff, ff, ff, ff, ff, ff] ?_
              refine Dkl [(18, 143), (19, 144), (20, 145), (21, 146), (22, 147)] 11 false 136 hb421 [tt, tt, tt, tt, tt, tt, tt, tt, tt, tt, tt, tt, tt, tt, tt, tt, tt, tt, tt, tt, tt, tt, tt, ff] ?_
              refine Dtl 23 148 4 _ [tt, tt, tt, tt, tt, tt, tt, tt, tt, tt, tt, tt, tt, tt, tt, tt, tt, tt, tt, tt, tt, tt, tt, tt] (fun _ hq => p1 136 (.const (.bool true)) (.tmp 147) (.bool true) hb421) ?_
              obtain rfl := some_inj h422
              exact DWP.done (by kernel_rfl) ⟨F23, hw379, (Mem.le.refl _), fI⟩
             ·refine Dgl 12 137 68 _ [tt, tt, tt, tt, tt, tt, tt, tt, tt, tt, tt, tt, tt, ff, ff, ff, ff, ff, ff, ff, ff, ff, ff, ff] 11 false 136 hb421 (fun _ hq => mv 2 (.slice (some ⟨b397, o398, none⟩) x2.length n2_0)) ?_
              refine Dgl 13 138 3 _ [tt, tt, tt, tt, tt, tt, tt, tt, tt, tt, tt, tt, tt, tt, ff, ff, ff, ff, ff, ff, ff, ff, ff, ff] 11 false 136 hb421 (fun _ hq => mv 14 (vi s351)) ?_
              obtain ⟨x424, hx425, h427⟩ := bind_some h423
              obtain ⟨hi426, hx425'⟩ := idx_spec hx425
              have hc429 := hE404 _ _ hx425'
              refine Dgl 14 139 0 (.pointer (some ⟨b397, (o398 + (s351 : Int).toNat * 2), none⟩)) [tt, tt, tt, tt, tt, tt, tt, tt, tt, tt, tt, tt, tt, tt, tt, ff, ff, ff, ff, ff, ff, ff, ff, ff] 11 false 136 hb421 (fun _ hq => ix 68 137 138 b397 o398 72 2 16 hi426) ?_
              refine Dgl 15 140 0 (.pointer (some ⟨b397, ((o398 + (s351 : Int).toNat * 2) + 1), none⟩)) [tt, tt, tt, tt, tt, tt, tt, tt, tt, tt, tt, tt, tt, tt, tt, tt, ff, ff, ff, ff, ff, ff, ff, ff] 11 false 136 hb421 (fun _ hq => fa 72 139 1 1 1 b397 (o398 + (s351 : Int).toNat * 2) ((o398 + (s351 : Int).toNat * 2) + 1)) ?_
              refine Dgl 16 141 3 _ [tt, tt, tt, tt, tt, tt, tt, tt, tt, tt, tt, tt, tt, tt, tt, tt, tt, ff, ff, ff, ff, ff, ff, ff] 11 false 136 hb421 (fun _ hq => lx 3 140 1 2 false 1 (vi x424.Hi) (hq.1.1 _ _ hF403) hc429) ?_
              refine Dgl 17 142 68 _ [tt, tt, tt, tt, tt, tt, tt, tt, tt, tt, tt, tt, tt, tt, tt, tt, tt, tt, ff, ff, ff, ff, ff, ff] 11 false 136 hb421 (fun _ hq => mv 1 (.slice (some ⟨b411, o412, none⟩) x1.length n1_0)) ?_
              refine Dgl 18 143 3 _ [tt, tt, tt, tt, tt, tt, tt, tt, tt, tt, tt, tt, tt, tt, tt, tt, tt, tt, tt, ff, ff, ff, ff, ff] 11 false 136 hb421 (fun _ hq => mv 14 (vi s351)) ?_
              obtain ⟨x430, hx431, h433⟩ := bind_some h427
              obtain ⟨hi432, hx431'⟩ := idx_spec hx431
              have hc435 := hE418 _ _ hx431'
              refine Dgl 19 144 0 (.pointer (some ⟨b411, (o412 + (s351 : Int).toNat * 2), none⟩)) [tt, tt, tt, tt, tt, tt, tt, tt, tt, tt, tt, tt, tt, tt, tt, tt, tt, tt, tt, tt, ff, ff, ff, ff] 11 false 136 hb421 (fun _ hq => ix 68 142 143 b411 o412 72 2 16 hi432) ?_
              refine Dgl 20 145 0 (.pointer (some ⟨b411, ((o412 + (s351 : Int).toNat * 2) + 1), none⟩)) [tt, tt, tt, tt, tt, tt, tt, tt, tt, tt, tt, tt, tt, tt, tt, tt, tt, tt, tt, tt, tt, ff, ff, ff] 11 false 136 hb421 (fun _ hq => fa 72 144 1 1 1 b411 (o412 + (s351 : Int).toNat * 2) ((o412 + (s351 : Int).toNat * 2) + 1)) ?_
              refine Dgl 21 146 3 _ [tt, tt, tt, tt, tt, tt, tt, tt, tt, tt, tt, tt, tt, tt, tt, tt, tt, tt, tt, tt, tt, tt, ff, ff] 11 false 136 hb421 (fun _ hq => lx 3 145 1 2 false 1 (vi x430.Hi) (hq.1.1 _ _ hF417) hc435) ?_
              refine Dgl 22 147 4 (.bool (decide (x424.Hi > x430.Hi))) [tt, tt, tt, tt, tt, tt, tt, tt, tt, tt, tt, tt, tt, tt, tt, tt, tt, tt, tt, tt, tt, tt, tt, ff] 11 false 136 hb421 (fun _ hq => run_gtr (t := 3) (t' := 3) (x := (.tmp 141)) (y := (.tmp 146)) (k := .i64) (a := x424.Hi) (b := x430.Hi) rfl rfl) ?_
              refine Dtl 23 148 4 _ [tt, tt, tt, tt, tt, tt, tt, tt, tt, tt, tt, tt, tt, tt, tt, tt, tt, tt, tt, tt, tt, tt, tt, tt] (fun _ hq => p0 136 (.const (.bool true)) (.tmp 147) (.bool (decide (x424.Hi > x430.Hi))) hb421) ?_
              obtain rfl := some_inj h433
              exact DWP.done (by kernel_rfl) ⟨F23, hw379, (Mem.le.refl _), fI⟩
            ·rintro f w380 ⟨F25, hs381, le382, ⟨_, rfl⟩⟩
             refine thenQ_nrm ?_
             refine Cd h392 (fun hb436 h437 => ?_) (fun hb436 h438 => ?_)
             ·refine Sq (Rg [0, 1] ?_)
              refine Vs 2 ?_
              refine Nt ?_
              refine Rt ?_
              refine blockQ_ret ?_
              refine thenQ_ret ?_
              refine thenQ_ret ?_
              refine blockQ_ret ?_
              have hret := iter_ret h437 hnx374
              subst hret
              refine .inr ?_
              refine thenQ_ret ?_
              obtain rfl := some_inj h350
              exact Re [(.bool r21)] hs381 rfl
             ·refine Sc ?_
              refine blockQ_nrm ?_
              refine thenQ_nrm ?_
              refine Rg [0, 1, 2] ?_
              refine Vs 3 ?_
              refine RWP.nil ?_
              have hn439 := iter_next h438 hnx374
              exact ⟨m371, Nat.lt_succ_self _, (W64 (s351 + 1)), F25, hn439, hs381, (le354.trans le382), fI⟩
           ·refine Ex ?_
            refine thenQ_ex ?_
            refine thenQ_ex ?_
            refine blockQ_hit rfl ?_
            have ho440 := iter_done h377 hnx374
            exact .inl ⟨rfl, s351, F23, ho440, hs353, le354, fI⟩
          ·rintro f w362 ⟨s361, F24, rfl, hs363, le364, ⟨_, rfl⟩⟩
           have h441 := k_done h350
           refine thenQ_nrm ?_
           refine Sq (Rg [0, 1, 2, 3, 4, 5, 6, 7] ?_)
           refine Vs 2 ?_
           obtain ⟨r442, hr443, h444⟩ := bind_some h441
           refine Cl' co_rules_Gap hs363 (c_rules_Gap N w362 F24 hs363.pers (x0) a0_0 n0_0 hb0_0 (SlA.mono hs0_0 ((((((((le27.trans le31).trans le80).trans le84).trans le105).trans le137).trans le158).trans le337).trans le364)) (x2) a2_0 n2_0 hb2_0 (SlA.mono hs2_0 ((((((((le27.trans le31).trans le80).trans le84).trans le105).trans le137).trans le158).trans le337).trans le364)) _ hr443) ?_
           rintro _ F26 w446 hs447 le448 ⟨ar442_0_0, nr442_0_0, rfl, hbr442_0_0, hsr442_0_0⟩
           refine Vs 5 ?_
           refine Nss (Rg [0, 1, 2, 3, 4, 5, 6, 7, 8, 9] ?_)
           refine RWP.cut (fun f w => ∃ (F27 : Mem), HS w0 F0 w F27 [] ∧ Mem.le F26 F27 ∧ FI f [] [(6, (.bool (r21 && ((r442.2 == 3) || (r442.2 == 64)))))]) ?_ ?_
           ·refine Vs 2 ?_
            refine RWP.split r21 (fun hb455 => ?_) (fun hb455 => ?_)
            ·refine Vgs hb455 3 ?_
             refine RWP.split (r442.2 == 3) (fun hb456 => ?_) (fun hb456 => ?_)
             ·refine Ss hb456 2 ?_
              refine Pg1 hb455 hb456 ?_
              refine Pk1 hb455 ?_
              refine Vs 1 ?_
              exact RWP.nil ⟨rfl, F26, hs447, (Mem.le.refl _), (fJ ⟨(congrArg Value.bool (and_t hb455 (or_t hb456 (rfl)))), trivial⟩)⟩
             ·refine Vgs hb456 2 ?_
              refine Pg0 hb455 hb456 ?_
              refine Pk1 hb455 ?_
              refine Vs 1 ?_
              exact RWP.nil ⟨rfl, F26, hs447, (Mem.le.refl _), (fJ ⟨(congrArg Value.bool (and_t hb455 (or_f hb456 (rfl)))), trivial⟩)⟩
            ·refine Ss hb455 3 ?_
             refine Su' 2 ?_
             refine Ss hb455 1 ?_
             refine Pk0 hb455 ?_
             refine Vs 1 ?_
             exact RWP.nil ⟨rfl, F26, hs447, (Mem.le.refl _), (fJ ⟨(congrArg Value.bool (and_f hb455 (rfl))), trivial⟩)⟩
           ·rintro f w450 ⟨F27, hs451, le452, ⟨_, rfl⟩⟩
            refine thenQ_nrm ?_
            refine Rt ?_
            obtain rfl := some_inj h444
            exact Re [(.bool (r21 && ((r442.2 == 3) || (r442.2 == 64))))] hs451 rfl
end Go.Proofs.YtaihlcdkcampbaaGreatDoor
namespace Go.Proofs.YtaihlcdkcampbaaGreatDoor
def ltB : List Int → List Int → Bool
 | a :: x, b :: y => if a = b then ltB x y else decide (a < b)
 | _, _ => false
theorem ltB_irr : ∀ a : List Int, ltB a a = false
 | [] => rfl
 | a :: x => by unfold ltB; rw [if_pos rfl]; exact ltB_irr x
theorem ltB_asymm : ∀ {a b : List Int}, ltB a b = true → ltB b a = false
 | a :: x, b :: y, h => by
  unfold ltB at h ⊢
  by_cases e : a = b
  ·subst e
   rw [if_pos rfl] at h ⊢
   exact ltB_asymm h
  ·rw [if_neg e] at h
   rw [if_neg (Ne.symm e)]
   simp at h ⊢; omega
 | [], _, h => by simp [ltB] at h
 | _ :: _, [], h => by simp [ltB] at h
theorem upto_sorted (a b : Int) : (upto a b).Pairwise (· < ·) := by
 unfold upto
 rw [List.pairwise_map]
 exact (List.pairwise_lt_range).imp fun h => by omega
theorem allL_sorted : ∀ d : List Span, (allL d).Pairwise fun a b => ltB a b = true
 | [] => by simp [allL]
 | s :: d => by
  unfold allL
  rw [List.pairwise_flatMap]
  refine ⟨fun v _ => ?_, ?_⟩
  ·rw [List.pairwise_map]
   exact (allL_sorted d).imp fun h => by unfold ltB; rw [if_pos rfl]; exact h
  ·refine (upto_sorted s.Lo s.Hi).imp fun {a b} hab => ?_
   intro x hx y hy
   obtain ⟨p, _, rfl⟩ := List.mem_map.1 hx
   obtain ⟨q, _, rfl⟩ := List.mem_map.1 hy
   unfold ltB
   rw [if_neg (by omega)]
   exact decide_eq_true hab
section
variable {N : Nat}
theorem m_before {a b : List Int} (hN : 100 < N) (ha : a.length = 14) (hb : b.length = 14) : law06_before N a b = some (ltB a b) := by
 unfold law06_before
 obtain ⟨o, ho, hR⟩ := iter_ex (body := law06_before_L0 N a b) 14 (fun i s => s = (i : Int) ∧ ltB a b = ltB (a.drop i) (b.drop i)) (fun o => o.k (fun r => some r) (fun _ => some false) = some (ltB a b)) (by
  rintro i s hi ⟨rfl, he⟩
  by_cases h : i < 14
  ·have h1 : i < a.length := by omega
   have h2 : i < b.length := by omega
   rw [List.drop_eq_getElem_cons h1, List.drop_eq_getElem_cons h2, ltB] at he
   by_cases hab : a[i] = b[i]
   ·rw [if_pos hab] at he
    refine .inl ⟨_, ?_, ⟨rfl, he⟩, h⟩
    unfold law06_before_L0
    rw [lt_t h1, lt_t h2, Bool.and_self, cond_true, idx_nat h1, Option.bind_some, idx_nat h2, Option.bind_some, Option.bind_some, show (a[i] != b[i]) = false by simpa using hab, cond_false, W64_succ (by omega)]
   ·rw [if_neg hab] at he
    refine .inr ⟨.ret (decide (a[i] < b[i])), ?_, (fun _ h => by cases h), ?_⟩
    ·unfold law06_before_L0
     rw [lt_t h1, lt_t h2, Bool.and_self, cond_true]
     simp only [idx_nat h1, idx_nat h2, Option.bind_some]
     rw [show (a[i] != b[i]) = true by simpa using hab, cond_true]
    ·rw [he]; rfl
  ·have : i = 14 := by omega
   subst this
   refine .inr ⟨.done ((14 : Nat) : Int), ?_, (fun _ h => by cases h), ?_⟩
   ·unfold law06_before_L0
    rw [show decide (((14 : Nat) : Int) < (a.length : Int)) = false by rw [ha]; rfl, Bool.false_and, cond_false]
   ·rw [he, List.drop_of_length_le (by omega)]; rfl) 14 N 0 0 (by omega) ⟨rfl, by simp⟩ (by omega)
 rw [ho, Option.bind_some]; exact hR
theorem m_same {a b : List Int} (hN : 100 < N) (ha : a.length = 14) (hb : b.length = 14) : law06_same N a b = some (decide (a = b)) := by
 unfold law06_same
 rw [show ((a.length : Int) != (b.length : Int)) = false by rw [ha, hb]; rfl, cond_false]
 rw [iter_check' (n := a.length) (fun i => decide (a[i]? = b[i]?)) false (fun i hi => by
  unfold law06_same_L0
  rw [lt_t hi, cond_true, idx_nat hi, Option.bind_some, idx_nat (show i < b.length by omega), Option.bind_some, Option.bind_some, List.getElem?_eq_getElem hi, List.getElem?_eq_getElem (show i < b.length by omega), W64_succ (by omega)]
  by_cases h : a[i] = b[i]
  ·rw [show (a[i] != b[i]) = false by simpa using h, cond_false, decide_eq_true (by rw [h]), cond_true]
  ·rw [show (a[i] != b[i]) = true by simpa using h, cond_true, decide_eq_false (by simpa using h), cond_false]) (by unfold law06_same_L0; rw [lt_f, cond_false]) (by omega)]
 cases hc : allB a.length fun i => decide (a[i]? = b[i]?) with
 | true =>
  rw [cond_true, decide_eq_true]
  apply List.ext_getElem? fun i => ?_
  by_cases hi : i < a.length
  ·exact of_decide_eq_true (allB_t hc hi)
  ·rw [List.getElem?_eq_none (by omega), List.getElem?_eq_none (by omega)]
 | false =>
  rw [cond_false, decide_eq_false]
  rintro rfl
  rw [allB_of fun i _ => by simp] at hc
  cases hc
theorem gap_parts {l : List Clause} {d : List Span} (h : (gapS l d).2 = 0 ∨ (gapS l d).2 = 3) : sndL l = true ∧ dom d = true ∧ gapS l d = found ((allL d).find? fun f => decide (fi (isT f) l < 0)) := by
 unfold gapS at h ⊢
 cases hs : sndL l with
 | false => rw [hs, if_pos rfl] at h; simp at h
 | true =>
  rw [hs, if_neg tf] at h
  cases hd : dom d with
  | false => rw [hd, if_pos rfl] at h; simp at h
  | true => exact ⟨rfl, rfl, by rw [if_neg tf, if_neg tf]⟩
theorem firstS_ok {l : List Clause} {f : List Int} (hs : sndL l = true) (hf : fac f = true) : firstS l f = if fi (isT f) l < 0 then (0, 3) else (fi (isT f) l, 0) := by
 unfold firstS; rw [hs, hf, if_neg tf, if_neg tf]
theorem gapless_holds (l : List Clause) (d e : List Span) (hN : 2000000 < N) (hl : FitL N l) : law06_RulesGapless N l d e = some true := by
 obtain ⟨w, hw, _⟩ := s_few (N := N) (by omega) d 200
 obtain ⟨w2, hw2, _⟩ := s_few (N := N) (by omega) e 200
 unfold law06_RulesGapless law06_awake
 rw [s_weight hl, hw, hw2, s_Gap (by omega) hl]
 simp only [Option.bind_some]
 generalize decide (wt l > 200) = b1
 cases b1 with
 | true => rfl
 | false =>
  cases w with
  | false => rfl
  | true =>
   cases w2 with
   | false => rfl
   | true =>
    simp only [cond_false, Bool.not_true, Option.bind_some]
    by_cases hz : (gapS l d).2 = 0 ∨ (gapS l d).2 = 3
    ·obtain ⟨hs, hd, hg⟩ := gap_parts hz
     have hv : (allL d).length ≤ 4096 := by rw [allL_length]; exact dom_vol hd
     have hbox : ∀ f, f ∈ allL d → f.length = 14 := fun f hf => by rw [box_len (mem_allL.1 hf), dom_len hd]
     rw [show ((gapS l d).2 != 0 && (gapS l d).2 != 3) = false by rcases hz with h | h <;> simp [h], cond_false]
     rcases hz with hz | hz
     ·rw [hg] at hz
      obtain ⟨f, h1, h2⟩ := found_zero hz
      have hf := List.mem_of_find?_eq_some h1
      obtain ⟨hp, m, hm, hmf, hbefore⟩ := List.find?_eq_some_iff_getElem.1 h1
      rw [hg, h2, show ((0 : Int) == 0) = true from rfl, cond_true, s_in (by omega) (dom_len hd) (mem_allL.1 hf), Option.bind_some, Option.bind_some, Bool.not_true, cond_false, s_All hd hN, Option.bind_some]
      rw [iter_first (allL d) (fun _ => false) (fun _ => false) (fun n hn => by
       have hgm := List.getElem_mem hn
       have hfc := dom_fac hd hgm
       unfold law06_RulesGapless_L0
       simp only
       rw [lt_t hn, cond_true]
       simp only [idx_nat hn, Option.bind_some]
       rw [s_First (by omega) hl, Option.bind_some, show ((0 : Int) == 3) = false from rfl, cond_false, show ((0 : Int) == 0) = true from rfl, cond_true, m_before (by omega) (hbox _ hgm) (hbox _ hf), Option.bind_some, m_same (by omega) (hbox _ hgm) (hbox _ hf), firstS_ok hs hfc]
       have hsame : (bif decide ((allL d)[n] = f) then some ((if fi (isT (allL d)[n]) l < 0 then ((0 : Int), (3 : Int)) else (fi (isT (allL d)[n]) l, 0)).2 != 3) else some false) = some false := by
        by_cases he : (allL d)[n] = f
        ·rw [decide_eq_true he, cond_true, he, if_pos (by simpa using hp)]; rfl
        ·rw [decide_eq_false he, cond_false]
       cases hlt : ltB (allL d)[n] f with
       | false => rw [cond_false, Option.bind_some, hsame]; rfl
       | true =>
        have hnm : n < m := by
         rcases Nat.lt_trichotomy n m with h | h | h
         ·exact h
         ·subst h; rw [hmf, ltB_irr] at hlt; cases hlt
         ·have := List.pairwise_iff_getElem.1 (allL_sorted d) m n hm hn h
          rw [hmf] at this
          rw [ltB_asymm this] at hlt; cases hlt
        have hnp : ¬ fi (isT (allL d)[n]) l < 0 := by
         have := hbefore n hnm
         simpa using this
        rw [cond_true, Option.bind_some, hsame, if_neg hnp]
        rfl) (by unfold law06_RulesGapless_L0; rw [lt_f, cond_false]) (by omega) (by omega), any_none, cond_false, Option.bind_some]
      rfl
     ·rw [hg] at hz
      have hn := found_three hz
      have hall := List.find?_eq_none.1 hn
      rw [hg, hn]
      simp only [found]
      rw [show ((3 : Int) == 0) = false from rfl, cond_false, Option.bind_some, cond_false, s_All hd hN, Option.bind_some]
      rw [iter_first (allL d) (fun _ => false) (fun _ => false) (fun n hn => by
       have hgm := List.getElem_mem hn
       have hfc := dom_fac hd hgm
       have hnp : ¬ fi (isT (allL d)[n]) l < 0 := by have := hall _ hgm; simpa using this
       unfold law06_RulesGapless_L0
       simp only
       rw [lt_t hn, cond_true, idx_nat hn, Option.bind_some, s_First (by omega) hl, Option.bind_some, firstS_ok hs hfc, if_neg hnp]
       rfl) (by unfold law06_RulesGapless_L0; rw [lt_f, cond_false]) (by omega) (by omega), any_none, cond_false, Option.bind_some]
      simp only [Flow.k]
      rw [Bool.false_or]
      by_cases hle : e.length = d.length
      ·have hdl := dom_len hd
       rw [show ((e.length : Int) != (d.length : Int)) = false by simp [hle], cond_false]
       rcases iter_check (body := law06_RulesGapless_L1 N l d e true false ([], 3) false (allL d) ((allL d).length : Int)) (n := d.length) (fun i => match e[i]?, d[i]? with | some a, some b => decide (b.Lo ≤ a.Lo) && decide (a.Hi ≤ b.Hi) | _, _ => false) (fun _ => true) (fun i hi => by
         have hi2 : i < e.length := by omega
         unfold law06_RulesGapless_L1
         rw [lt_t hi, cond_true]
         simp only [idx_nat hi, idx_nat hi2, Option.bind_some, List.getElem?_eq_getElem hi, List.getElem?_eq_getElem hi2]
         by_cases h1 : e[i].Lo < d[i].Lo
         ·rw [decide_eq_true h1, cond_true, Option.bind_some, cond_true, decide_eq_false (by omega), Bool.false_and, cond_false]
         ·rw [decide_eq_false h1, cond_false, Option.bind_some, decide_eq_true (by omega : d[i].Lo ≤ e[i].Lo), Bool.true_and]
          by_cases h2 : e[i].Hi > d[i].Hi
          ·rw [decide_eq_true h2, cond_true, decide_eq_false (by omega), cond_false]
          ·rw [decide_eq_false h2, cond_false, decide_eq_true (by omega), cond_true, W64_succ (by omega)]) (by unfold law06_RulesGapless_L1; rw [lt_f, cond_false]) (by omega : d.length < N) with ⟨h1, h2⟩ | ⟨_, i, _, h2⟩
       ·rw [h2, Option.bind_some]
        simp only [Flow.k]
        rw [s_Gap (by omega) hl, Option.bind_some, Bool.true_and]
        congr 1
        unfold gapS
        rw [hs, if_neg tf]
        cases he : dom e with
        | false => rfl
        | true =>
         rw [if_neg tf, List.find?_eq_none.2 fun f hf => ?_]
         ·rfl
         ·have hbf := mem_allL.1 hf
          have hlf := box_len hbf
          refine hall f (mem_allL.2 (box_of (by omega) fun i hi hj => ?_))
          have hb1 := box_get hbf i (by omega) hj
          have h3 := allB_t h1 hi
          rw [List.getElem?_eq_getElem hi, List.getElem?_eq_getElem (show i < e.length by omega)] at h3
          simp only [Bool.and_eq_true, decide_eq_true_eq] at h3
          omega
       ·rw [h2, Option.bind_some]
      ·rw [show ((e.length : Int) != (d.length : Int)) = true by simp; omega, cond_true]
    ·rw [show ((gapS l d).2 != 0 && (gapS l d).2 != 3) = true by simp only [not_or] at hz; simp [hz.1, hz.2], cond_true]
     have : (gapS l d).1 = [] := by
      unfold gapS at hz ⊢
      cases hs : sndL l with
      | false => rfl
      | true =>
       rw [hs, if_neg tf] at hz
       rw [if_neg tf]
       cases hd : dom d with
       | false => rfl
       | true =>
        rw [hd, if_neg tf] at hz
        cases hq : (allL d).find? fun f => decide (fi (isT f) l < 0) with
        | none => rw [hq] at hz; exact absurd (.inr rfl) hz
        | some f => rw [hq] at hz; exact absurd (.inl rfl) hz
     rw [this]; rfl
end
end Go.Proofs.YtaihlcdkcampbaaGreatDoor
namespace Go.Proofs.YtaihlcdkcampbaaGreatDoor
open Go.Proofs
end Go.Proofs.YtaihlcdkcampbaaGreatDoor
namespace Go.Proofs.YtaihlcdkcampbaaGreatDoor
open Go.Proofs
end Go.Proofs.YtaihlcdkcampbaaGreatDoor
namespace Go.Proofs.YtaihlcdkcampbaaGreatDoor
section
variable {N : Nat}
end
end Go.Proofs.YtaihlcdkcampbaaGreatDoor
namespace Go.Proofs.YtaihlcdkcampbaaGreatDoor
theorem gapless_row (l : List Clause) (d e : List Span) (h0 : qL qClause l) (_ : qL qSpan d) (_ : qL qSpan e) : ∃ N, law06_RulesGapless N l d e = some true := by
 obtain ⟨m, hm⟩ := fitL_ex h0
 exact ⟨m + 2000001, gapless_holds l d e (by omega) (hm _ (by omega))⟩
end Go.Proofs.YtaihlcdkcampbaaGreatDoor
