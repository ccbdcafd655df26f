/- Lemmas of the claim RulesBlanksUpto, printed by a program of the claimant and by hand. No statement of the seat is proved here. -/
import Derived.Test.YtaihlcdkcampbaaGreatDoorE6x1
set_option linter.unusedVariables false
set_option linter.unusedSimpArgs false
set_option linter.unusedSectionVars false
set_option maxHeartbeats 4000000
set_option maxRecDepth 100000
namespace Go.Proofs.YtaihlcdkcampbaaGreatDoor
def ups (g : Fr) (d : List Deferred) : List (Nat × Value) -> Fr
 | [] => ⟨g.v, d⟩
 | (i, v) :: l => upd (ups g d l) i v
def FI (f : Fr) (d : List Deferred) (l : List (Nat × Value)) : Prop := ∃ g, f = ups g d l
theorem OX {f : Fr} {i : Nat} {v : Value} (h : f i = v) : upd f i v = f := by
 subst h
 cases f with
 | mk fv fd =>
  simp only [upd, Fr.mk.injEq, and_true]
  funext j
  cases hb : Nat.beq j i with
  | false => rfl
  | true => rw [Nat.eq_of_beq_eq_true hb]; rfl
def Eqs (f : Fr) : List (Nat × Value) -> Prop
 | [] => True
 | (i, v) :: l => f i = v /\ Eqs f l
theorem JQ {f : Fr} {d : List Deferred} (hd : f.d = d) : ∀ {l : List (Nat × Value)}, Eqs f l -> f = ups f d l
 | [], _ => by subst hd; rfl
 | (i, v) :: l, h => by
  show f = upd (ups f d l) i v
  rw [<- JQ hd h.2]; exact (OX h.1).symm
theorem PG {f : Fr} : ∀ {l : List (Nat × Value)}, l.map (fun p => f p.1) = l.map (·.2) -> Eqs f l
 | [], _ => trivial
 | (i, v) :: l, h => by
  simp only [List.map_cons, List.cons.injEq] at h
  exact ⟨h.1, PG h.2⟩
theorem kq {α : Type} {a : α} (b : α) {c : α} (h : b = c) (k : a = b := by kernel_rfl) : a = c := k.trans h
theorem fI {f : Fr} {d : List Deferred} {l : List (Nat × Value)} (h : l.map (fun p => f p.1) = l.map (·.2) := by kernel_rfl) (hd : f.d = d := by kernel_rfl) : FI f d l := ⟨f, JQ hd (PG h)⟩
theorem fJ {f : Fr} {d : List Deferred} {l : List (Nat × Value)} (h : Eqs f l) (hd : f.d = d := by kernel_rfl) : FI f d l := ⟨f, JQ hd h⟩
def pkC : Op -> Operand | .pick c _ _ => c | _ => .tmp 0
def pkA : Op -> Operand | .pick _ a _ => a | _ => .tmp 0
def pkB : Op -> Operand | .pick _ _ b => b | _ => .tmp 0
def OK : Op -> Bool | .pick _ _ _ => true | _ => false
theorem GN {op : Op} (h : OK op = true) : op = .pick (pkC op) (pkA op) (pkB op) := by cases op <;> simp_all [OK, pkC, pkA, pkB]
def ldX : Op -> Operand | .load _ x => x | _ => .tmp 0
def ldT : Op -> TypeId | .load t _ => t | _ => 0
def MM : Op -> Bool | .load _ _ => true | _ => false
theorem Ek {op : Op} (h : MM op = true) : op = .load (ldT op) (ldX op) := by cases op <;> simp_all [MM, ldX, ldT]
def pO : Value -> Nat | .pointer (some ⟨_, o, _⟩) => o | _ => 0
def sB : Value -> Nat | .slice (some ⟨b, _, _⟩) _ _ => b | _ => 0
def sO : Value -> Nat | .slice (some ⟨_, o, _⟩) _ _ => o | _ => 0
def sC : Value -> Nat | .slice _ _ c => c | _ => 0
def iK : Value -> IntKind | .int k _ => k | _ => .i64
def ixX : Op -> Operand | .indexAddr _ x _ => x | _ => .tmp 0
def ixY : Op -> Operand | .indexAddr _ _ y => y | _ => .tmp 0
def ixT : Op -> TypeId | .indexAddr t _ _ => t | _ => 0
def Nx : Op -> Bool | .indexAddr _ _ _ => true | _ => false
theorem Fg {op : Op} (h : Nx op = true) : op = .indexAddr (ixT op) (ixX op) (ixY op) := by cases op <;> simp_all [Nx, ixT, ixX, ixY]
def stX : Op -> Operand | .store _ x _ => x | _ => .tmp 0
def stY : Op -> Operand | .store _ _ y => y | _ => .tmp 0
def stT : Op -> TypeId | .store t _ _ => t | _ => 0
def I0 : Op -> Bool | .store _ _ _ => true | _ => false
theorem Ff {op : Op} (h : I0 op = true) : op = .store (stT op) (stX op) (stY op) := by cases op <;> simp_all [I0, stT, stX, stY]
def Rj (t : TypeId) : Op -> Bool | .alloc t' => Nat.beq t t' | _ => false
theorem OM {t : TypeId} {op : Op} (h : Rj t op = true) : op = .alloc t := by
 cases op <;> simp only [Rj, Bool.false_eq_true] at h
 rw [Nat.eq_of_beq_eq_true h]
def bxX : Op -> Operand | .box _ x => x | _ => .tmp 0
def Ri (t : TypeId) : Op -> Bool | .box t' _ => Nat.beq t t' | _ => false
theorem OL {t : TypeId} {op : Op} (h : Ri t op = true) : op = .box t (bxX op) := by
 cases op <;> simp only [Ri, Bool.false_eq_true] at h
 rw [Nat.eq_of_beq_eq_true h]; rfl
def bsV (P : Program) (f : Fr) : Op -> Option (TypeId × List Value) | .buildSlice t len parts => IB P t len (parts.toList.map fun p => (p.1, fev f p.2)) | _ => none
def bsL : Op -> Nat | .buildSlice _ len _ => len | _ => 0
def clV (f : Fr) : Op -> Option (FuncId × List Value)
 | .call c => (match c.callee with
  | .value f0 => (match fev f f0 with
   | .func (.func g) fi ca => some (g, fi.toList ++ c.args.toList.map (fev f) ++ ca.toList)
   | _ => none)
  | _ => none)
 | _ => none
theorem Gz {P : Program} {w : World} {f : Fr} {op : Op} {ty : TypeId} {g : FuncId} {args : List Value} (h : clV f op = some (g, args)) (hok : Aq P g) : (Ao (fev f) op ty).run P w = .ok (.enter g args.toArray) w := by
 unfold clV at h
 split at h
 ·rename_i c
  obtain ⟨callee, aos, ats⟩ := c
  simp only at h
  split at h
  ·split at h
   ·rename_i hf
    simp only [Option.some.injEq, Prod.mk.injEq] at h
    obtain ⟨rfl, rfl⟩ := h
    exact C8 hf hok rfl
   ·cases h
  ·cases h
 ·cases h
section
variable {P : Program} {ro : Option Nat} {n : Nat} {R : Array Oper} {Q : Exit -> Fr -> World -> Prop} {i : Nat} {rest : List Nat} {f : Fr} {w w' w0 : World} {F0 F : Mem} {L : List (Option Nat × Obj)}
theorem RWP.valU {v : Value} (ho : ung R i = true) (hy : (Ao (fev f) (Am R i) (Fk R i)).run P w = .ok (.value v) w') (k : RWP P ro n R Q rest (AY f (Bd R i) v) w') : RWP P ro n R Q (i :: rest) f w := SD (Bz ho) rfl hy k
theorem Pk1 {t : Bool} (ht : t = true) (k : RWP P ro n R Q rest (AY f (Bd R i) (fev f (pkA (Am R i)))) w) (hc : fev f (pkC (Am R i)) = .bool t := by kernel_rfl) (ho : (ung R i && OK (Am R i)) = true := by kernel_rfl) : RWP P ro n R Q (i :: rest) f w := by
 simp only [Bool.and_eq_true] at ho
 refine RWP.valU ho.1 ?_ k
 have := GN ho.2
 rw [this] at hc ⊢; exact IJ hc ht rfl
theorem Pk0 {t : Bool} (ht : t = false) (k : RWP P ro n R Q rest (AY f (Bd R i) (fev f (pkB (Am R i)))) w) (hc : fev f (pkC (Am R i)) = .bool t := by kernel_rfl) (ho : (ung R i && OK (Am R i)) = true := by kernel_rfl) : RWP P ro n R Q (i :: rest) f w := by
 simp only [Bool.and_eq_true] at ho
 refine RWP.valU ho.1 ?_ k
 have := GN ho.2
 rw [this] at hc ⊢; exact IK hc ht rfl
def ldV (P : Program) (t : TypeId) (C : Array Value) (o : Nat) : Value := match Dr P t with | some (g, s) => mkV g (As C o s) | none => undef
def ldK (P : Program) (t : TypeId) (C : Array Value) (o : Nat) : Bool := match Dr P t with | some (g, s) => Nat.beq (As C o s).length s && (g || s == 1) | none => false
theorem Nd {ρ : Operand -> Value} {t ty : TypeId} {x : Operand} {b o : Nat} {C : Array Value} {E : TypeId} {fz : Nat × Nat} (hx : ρ x = .pointer (some ⟨b, o, none⟩)) (hp : w.heap[b]? = some (.cells C E fz)) (hk : ldK P t C o = true) :
  (Ao ρ (.load t x) ty).run P w = .ok (.value (ldV P t C o)) w := by
 unfold ldK at hk; unfold ldV
 split at hk
 ·rename_i g s ht
  simp only [Bool.and_eq_true] at hk
  exact B6 hx ht hp (Nat.eq_of_beq_eq_true hk.1) hk.2 rfl
 ·cases hk
theorem Ld {b : Nat} {C : Array Value} {E : TypeId} {fz : Nat × Nat} (hp : w.heap[b]? = some (.cells C E fz)) (k : RWP P ro n R Q rest (AY f (Bd R i) (ldV P (ldT (Am R i)) C (pO (fev f (ldX (Am R i)))))) w)
  (hx : fev f (ldX (Am R i)) = .pointer (some ⟨b, pO (fev f (ldX (Am R i))), none⟩) := by kernel_rfl) (ho : (ung R i && (MM (Am R i) && ldK P (ldT (Am R i)) C (pO (fev f (ldX (Am R i)))))) = true := by kernel_rfl) : RWP P ro n R Q (i :: rest) f w := by
 simp only [Bool.and_eq_true] at ho
 refine RWP.valU ho.1 ?_ k
 have := Ek ho.2.1
 rw [this]; exact Nd hx hp ho.2.2
def lxV (P : Program) (t : TypeId) (cs : List Value) (j : Nat) : Value := match Dr P t with | some (g, s) => mkV g ((cs.drop j).take s) | none => undef
def lxK (P : Program) (t : TypeId) (cs : List Value) (j kk : Nat) : Bool := match Dr P t with | some (g, s) => decide (j + s <= kk) && (Nat.beq ((cs.drop j).take s).length s && (g || s == 1)) | none => false
theorem Na {ρ : Operand -> Value} {t ty : TypeId} {x : Operand} {j b o kk : Nat} {C : Array Value} {E : TypeId} {fz : Nat × Nat} {cs : List Value} (hx : ρ x = .pointer (some ⟨b, o + j, none⟩)) (hp : w.heap[b]? = some (.cells C E fz)) (hc : As C o kk = cs) (hk : lxK P t cs j kk = true) :
  (Ao ρ (.load t x) ty).run P w = .ok (.value (lxV P t cs j)) w := by
 unfold lxK at hk; unfold lxV
 split at hk
 ·rename_i g s ht
  simp only [Bool.and_eq_true] at hk
  exact IL hx ht hp hc hk.1 ⟨Nat.eq_of_beq_eq_true hk.2.1, trivial⟩ hk.2.2 rfl
 ·cases hk
theorem Lx (j : Nat) {b o kk : Nat} {C : Array Value} {E : TypeId} {fz : Nat × Nat} {cs : List Value} (hp : w.heap[b]? = some (.cells C E fz)) (hc : As C o kk = cs) (k : RWP P ro n R Q rest (AY f (Bd R i) (lxV P (ldT (Am R i)) cs j)) w)
  (hx : fev f (ldX (Am R i)) = .pointer (some ⟨b, o + j, none⟩) := by kernel_rfl) (ho : (ung R i && (MM (Am R i) && lxK P (ldT (Am R i)) cs j kk)) = true := by kernel_rfl) : RWP P ro n R Q (i :: rest) f w := by
 simp only [Bool.and_eq_true] at ho
 refine RWP.valU ho.1 ?_ k
 have := Ek ho.2.1
 rw [this]; exact Na hx hp hc ho.2.2
def elS (P : Program) (t : TypeId) : Nat := match A1 P t with | some (_, s, _) => s | none => 0
theorem Ix {m : Nat} {y : Int} (hi : 0 <= y /\ y < (m : Int)) (k : RWP P ro n R Q rest (AY f (Bd R i) (.pointer (some ⟨sB (fev f (ixX (Am R i))), sO (fev f (ixX (Am R i))) + y.toNat * elS P (ixT (Am R i)), none⟩))) w)
  (hx : fev f (ixX (Am R i)) = .slice (some ⟨sB (fev f (ixX (Am R i))), sO (fev f (ixX (Am R i))), none⟩) m (sC (fev f (ixX (Am R i)))) := by kernel_rfl) (hy : fev f (ixY (Am R i)) = .int (iK (fev f (ixY (Am R i)))) y := by kernel_rfl)
  (ho : (ung R i && (Nx (Am R i) && slQ P (ixT (Am R i)))) = true := by kernel_rfl) : RWP P ro n R Q (i :: rest) f w := by
 simp only [Bool.and_eq_true] at ho
 obtain ⟨h1, h2, h3⟩ := ho
 refine RWP.valU h1 ?_ k
 unfold slQ at h3
 split at h3
 ·rename_i q hq; obtain ⟨E, s, by_⟩ := q
  have es : elS P (ixT (Am R i)) = s := by simp [elS, hq]
  rw [es]
  have e := Fg h2
  have := GJ (P := P) (w := w) (ty := Fk R i) hx hy hq hi
  rw [<- e] at this; exact this
 ·cases h3
theorem Ix0 {m : Nat} {y : Int} (hi : 0 <= y /\ y < (m : Int)) (k : RWP P ro n R Q rest (AY f (Bd R i) (.pointer (some ⟨sB (fev f (ixX (Am R i))), y.toNat * elS P (ixT (Am R i)), none⟩))) w)
  (hx : fev f (ixX (Am R i)) = .slice (some ⟨sB (fev f (ixX (Am R i))), 0, none⟩) m (sC (fev f (ixX (Am R i)))) := by kernel_rfl) (hy : fev f (ixY (Am R i)) = .int (iK (fev f (ixY (Am R i)))) y := by kernel_rfl)
  (ho : (ung R i && (Nx (Am R i) && slQ P (ixT (Am R i)))) = true := by kernel_rfl) : RWP P ro n R Q (i :: rest) f w := by
 simp only [Bool.and_eq_true] at ho
 obtain ⟨h1, h2, h3⟩ := ho
 refine RWP.valU h1 ?_ k
 unfold slQ at h3
 split at h3
 ·rename_i q hq; obtain ⟨E, s, by_⟩ := q
  have es : elS P (ixT (Am R i)) = s := by simp [elS, hq]
  rw [es]
  have e := Fg h2
  have := JX (P := P) (w := w) (ty := Fk R i) hx hy hq hi
  rw [<- e] at this; exact this
 ·cases h3
theorem Pd {ρ : Operand -> Value} {t ty : TypeId} {x y : Operand} {m : Nat} {q : Int} (hi : 0 <= q /\ q < (m : Int)) (hx : ρ x = .slice (some ⟨sB (ρ x), sO (ρ x), none⟩) m (sC (ρ x))) (hy : ρ y = .int (iK (ρ y)) q) (h3 : slQ P t = true) :
  (Ao ρ (.indexAddr t x y) ty).run P w = .ok (.value (.pointer (some ⟨sB (ρ x), sO (ρ x) + q.toNat * elS P t, none⟩))) w := by
 unfold slQ at h3
 split at h3
 ·rename_i a hq; obtain ⟨E, s, by_⟩ := a
  have es : elS P t = s := by simp [elS, hq]
  rw [es]; exact GJ hx hy hq hi
 ·cases h3
theorem Qo {t ty : TypeId} {x y : Operand} {m : Nat} {q : Int} (hi : 0 <= q /\ q < (m : Int)) (hx : fev f x = .slice (some ⟨sB (fev f x), 0, none⟩) m (sC (fev f x))) (hy : fev f y = .int (iK (fev f y)) q) (h3 : slQ P t = true) :
  (Ao (fev f) (.indexAddr t x y) ty).run P w = .ok (.value (.pointer (some ⟨sB (fev f x), q.toNat * elS P t, none⟩))) w := by
 unfold slQ at h3
 split at h3
 ·rename_i a hq; obtain ⟨E, s, by_⟩ := a
  have es : elS P t = s := by simp [elS, hq]
  rw [es]; exact JX hx hy hq hi
 ·cases h3
theorem RWP.valG {gb' gc : Bool} (hg : gc = gb') {v : Value} (hy : (Ao (fev f) (Am R i) (Fk R i)).run P w = .ok (.value v) w') (k : RWP P ro n R Q rest (AY f (Bd R i) v) w')
  (ho2 : KN R (gj R [i]) gb' i = true) (hj : FA R (gj R [i]) = some (gq R [i])) (hf : f (gq R [i]) = .bool gc) : RWP P ro n R Q (i :: rest) f w := by
 rcases J9 ho2 with e | e
 ·exact SD e rfl hy k
 ·exact SD e (Nz hj hf hg) hy k
theorem Pg1 {gb' gc : Bool} (hg : gc = gb') {t : Bool} (ht : t = true) (k : RWP P ro n R Q rest (AY f (Bd R i) (fev f (pkA (Am R i)))) w) (hc : fev f (pkC (Am R i)) = .bool t := by kernel_rfl) (ho : OK (Am R i) = true := by kernel_rfl)
  (ho2 : KN R (gj R [i]) gb' i = true := by kernel_rfl) (hj : FA R (gj R [i]) = some (gq R [i]) := by kernel_rfl) (hf : f (gq R [i]) = .bool gc := by kernel_rfl) : RWP P ro n R Q (i :: rest) f w := by
 refine RWP.valG hg ?_ k ho2 hj hf
 have := GN ho
 rw [this] at hc ⊢; exact IJ hc ht rfl
theorem Pg0 {gb' gc : Bool} (hg : gc = gb') {t : Bool} (ht : t = false) (k : RWP P ro n R Q rest (AY f (Bd R i) (fev f (pkB (Am R i)))) w) (hc : fev f (pkC (Am R i)) = .bool t := by kernel_rfl) (ho : OK (Am R i) = true := by kernel_rfl)
  (ho2 : KN R (gj R [i]) gb' i = true := by kernel_rfl) (hj : FA R (gj R [i]) = some (gq R [i]) := by kernel_rfl) (hf : f (gq R [i]) = .bool gc := by kernel_rfl) : RWP P ro n R Q (i :: rest) f w := by
 refine RWP.valG hg ?_ k ho2 hj hf
 have := GN ho
 rw [this] at hc ⊢; exact IK hc ht rfl
theorem Lg {gb' gc : Bool} (hg : gc = gb') {b : Nat} {C : Array Value} {E : TypeId} {fz : Nat × Nat} (hp : w.heap[b]? = some (.cells C E fz)) (k : RWP P ro n R Q rest (AY f (Bd R i) (ldV P (ldT (Am R i)) C (pO (fev f (ldX (Am R i)))))) w)
  (hx : fev f (ldX (Am R i)) = .pointer (some ⟨b, pO (fev f (ldX (Am R i))), none⟩) := by kernel_rfl) (ho : (MM (Am R i) && ldK P (ldT (Am R i)) C (pO (fev f (ldX (Am R i))))) = true := by kernel_rfl)
  (ho2 : KN R (gj R [i]) gb' i = true := by kernel_rfl) (hj : FA R (gj R [i]) = some (gq R [i]) := by kernel_rfl) (hf : f (gq R [i]) = .bool gc := by kernel_rfl) : RWP P ro n R Q (i :: rest) f w := by
 simp only [Bool.and_eq_true] at ho
 refine RWP.valG hg ?_ k ho2 hj hf
 have := Ek ho.1
 rw [this]; exact Nd hx hp ho.2
theorem Lxg {gb' gc : Bool} (hg : gc = gb') (j : Nat) {b o kk : Nat} {C : Array Value} {E : TypeId} {fz : Nat × Nat} {cs : List Value} (hp : w.heap[b]? = some (.cells C E fz)) (hcs : As C o kk = cs) (k : RWP P ro n R Q rest (AY f (Bd R i) (lxV P (ldT (Am R i)) cs j)) w)
  (hx : fev f (ldX (Am R i)) = .pointer (some ⟨b, o + j, none⟩) := by kernel_rfl) (ho : (MM (Am R i) && lxK P (ldT (Am R i)) cs j kk) = true := by kernel_rfl)
  (ho2 : KN R (gj R [i]) gb' i = true := by kernel_rfl) (hj : FA R (gj R [i]) = some (gq R [i]) := by kernel_rfl) (hf : f (gq R [i]) = .bool gc := by kernel_rfl) : RWP P ro n R Q (i :: rest) f w := by
 simp only [Bool.and_eq_true] at ho
 refine RWP.valG hg ?_ k ho2 hj hf
 have := Ek ho.1
 rw [this]; exact Na hx hp hcs ho.2
theorem Ixg {gb' gc : Bool} (hg : gc = gb') {m : Nat} {y : Int} (hi : 0 <= y /\ y < (m : Int)) (k : RWP P ro n R Q rest (AY f (Bd R i) (.pointer (some ⟨sB (fev f (ixX (Am R i))), sO (fev f (ixX (Am R i))) + y.toNat * elS P (ixT (Am R i)), none⟩))) w)
  (hx : fev f (ixX (Am R i)) = .slice (some ⟨sB (fev f (ixX (Am R i))), sO (fev f (ixX (Am R i))), none⟩) m (sC (fev f (ixX (Am R i)))) := by kernel_rfl) (hy : fev f (ixY (Am R i)) = .int (iK (fev f (ixY (Am R i)))) y := by kernel_rfl)
  (ho : (Nx (Am R i) && slQ P (ixT (Am R i))) = true := by kernel_rfl)
  (ho2 : KN R (gj R [i]) gb' i = true := by kernel_rfl) (hj : FA R (gj R [i]) = some (gq R [i]) := by kernel_rfl) (hf : f (gq R [i]) = .bool gc := by kernel_rfl) : RWP P ro n R Q (i :: rest) f w := by
 simp only [Bool.and_eq_true] at ho
 refine RWP.valG hg ?_ k ho2 hj hf
 have e := Fg ho.1
 have := Pd (P := P) (w := w) (ty := Fk R i) hi hx hy ho.2
 rw [<- e] at this; exact this
theorem Al' (t : TypeId) (C : Array Value) (hs : HS w0 F0 w F L) (k : ∀ b w', HS w0 F0 w' F ((some b, .cells C t (0, 0)) :: L) -> RWP P ro n R Q rest (AY f (Bd R i) (.pointer (some ⟨b, 0, none⟩))) w')
  (hC : (BA P t).map Value.cells = some C := by kernel_rfl) (ho : (ung R i && Rj t (Am R i)) = true := by kernel_rfl) : RWP P ro n R Q (i :: rest) f w := by
 simp only [Bool.and_eq_true] at ho
 cases hz : BA P t with
 | none => rw [hz] at hC; cases hC
 | some z =>
  rw [hz] at hC; simp only [Option.map_some, Option.some.injEq] at hC
  have e := OM ho.2
  have := Bz ho.1
  rw [e] at this
  exact SO this rfl hz hC hs k
theorem Bx' (t : TypeId) (C : Array Value) (hs : HS w0 F0 w F L) (k : ∀ b w', HS w0 F0 w' F ((some b, .cells C t (0, 0)) :: L) -> RWP P ro n R Q rest (AY f (Bd R i) (.pointer (some ⟨b, 0, none⟩))) w')
  (hC : (fev f (bxX (Am R i))).cells = C := by kernel_rfl) (ho : (ung R i && Ri t (Am R i)) = true := by kernel_rfl) : RWP P ro n R Q (i :: rest) f w := by
 simp only [Bool.and_eq_true] at ho
 have e := OL ho.2
 have := Bz ho.1
 rw [e] at this
 exact RWP.box this rfl rfl hC hs k
theorem Bs (E : TypeId) (cs : List Value) (hs : HS w0 F0 w F L) (k : ∀ b w', HS w0 F0 w' F ((some b, .cells cs.toArray E (0, 0)) :: L) -> RWP P ro n R Q rest (AY f (Bd R i) (.slice (some ⟨b, 0, none⟩) (bsL (Am R i)) (bsL (Am R i)))) w')
  (hb : bsV P f (Am R i) = some (E, cs) := by kernel_rfl) (ho : ung R i = true := by kernel_rfl) : RWP P ro n R Q (i :: rest) f w := by
 have := Bz ho
 cases e : Am R i with
 | buildSlice t len parts =>
  rw [e] at hb this k
  exact RWP.buildSlice this rfl rfl hb hs k
 | _ => rw [e] at hb; simp [bsV] at hb
def Ds (P : Program) (t : TypeId) (v : Value) (o : Nat) (C : Array Value) : Bool := match Dr P t with | some (_, s) => Nat.beq v.cells.size s && (decide (o + s <= C.size) && v.cells.toList.all (·.oneCell')) | none => false
theorem JU {ρ : Operand -> Value} {t ty : TypeId} {x y : Operand} {b o : Nat} {C C' : Array Value} {E : TypeId} (hx : ρ x = .pointer (some ⟨b, o, none⟩)) (hp : w.heap[b]? = some (.cells C E (0, 0))) (hk : Ds P t (ρ y) o C = true) (hC : C3 C o (ρ y).cells.toList = C') :
  (Ao ρ (.store t x y) ty).run P w = .ok .skip (Cm w b (.cells C' E (0, 0))) := by
 unfold Ds at hk
 split at hk
 ·rename_i g s ht
  simp only [Bool.and_eq_true] at hk
  exact Fm hx rfl ht hp (Nat.eq_of_beq_eq_true hk.1) hk.2.1 hk.2.2 hC
 ·cases hk
theorem Je {b : Nat} {C C' : Array Value} {E : TypeId} (hp : w.heap[b]? = some (.cells C E (0, 0))) (k : RWP P ro n R Q rest f (Cm w b (.cells C' E (0, 0))))
  (hx : fev f (stX (Am R i)) = .pointer (some ⟨b, pO (fev f (stX (Am R i))), none⟩)) (hC : C3 C (pO (fev f (stX (Am R i)))) (fev f (stY (Am R i))).cells.toList = C')
  (ho : (ung R i && (I0 (Am R i) && (Ds P (stT (Am R i)) (fev f (stY (Am R i))) (pO (fev f (stX (Am R i)))) C && (match Bd R i with | none => true | some _ => false)))) = true) : RWP P ro n R Q (i :: rest) f w := by
 simp only [Bool.and_eq_true] at ho
 obtain ⟨h1, h2, h3, h4⟩ := ho
 have e := Ff h2
 have := Bz h1
 cases hd : Bd R i with
 | some d => rw [hd] at h4; cases h4
 | none =>
  rw [hd] at this
  refine RWP.unit this rfl ?_ k
  rw [e]; exact JU hx hp h3 hC
theorem Cl' {fid : FuncId} {args : List Value} {post : Mem -> Value -> Prop} (hok : Aq P fid) (hs : HS w0 F0 w F L) (hc : Calls P fid args.toArray w (AV w F post))
  (k : ∀ v F1 w1, HS w0 F0 w1 F1 L -> SG F F1 -> post F1 v -> RWP P ro n R Q rest (AY f (Bd R i) v) w1) (ha : clV f (Am R i) = some (fid, args) := by kernel_rfl) (ho : ung R i = true := by kernel_rfl) : RWP P ro n R Q (i :: rest) f w := by
 refine SE (Bz ho) rfl (Gz ha hok) hc ?_
 rintro e w' ⟨r, F', rfl, h1, h2⟩
 exact k r F' w' (hs.call h1) h1.le h2
theorem Cg {fid : FuncId} {args : List Value} {post : Mem -> Value -> Prop} {b c : Bool} (hg : c = b) (hok : Aq P fid) (hs : HS w0 F0 w F L) (hc : Calls P fid args.toArray w (AV w F post))
  (k : ∀ v F1 w1, HS w0 F0 w1 F1 L -> SG F F1 -> post F1 v -> RWP P ro n R Q rest (AY f (Bd R i) v) w1) (ha : clV f (Am R i) = some (fid, args) := by kernel_rfl)
  (ho : KN R (gj R [i]) b i = true := by kernel_rfl) (hj : FA R (gj R [i]) = some (gq R [i]) := by kernel_rfl) (hf : f (gq R [i]) = .bool c := by kernel_rfl) : RWP P ro n R Q (i :: rest) f w := by
 have hE : ∀ e w', AV w F post e w' -> match e with
   | .returned v => RWP P ro n R Q rest (AY f (Bd R i) v) w'
   | .panicked Jr => Q (.panic Jr) f w'
   | .outgrown => False := by
  rintro e w' ⟨r, F', rfl, h1, h2⟩
  exact k r F' w' (hs.call h1) h1.le h2
 rcases J9 ho with e | e
 ·exact SE e rfl (Gz ha hok) hc hE
 ·exact SE e (Nz hj hf hg) (Gz ha hok) hc hE
theorem CB {fid : FuncId} {args : List Value} {wb : World} {Fb : Mem} {post : Mem -> Value -> Own -> Prop} (hok : Aq P fid) (hc : Calls P fid args.toArray w (P6 wb Fb F post))
  (k : ∀ v F1 w1 L', HS wb Fb w1 F1 L' -> SG F F1 -> post F1 v L' -> RWP P ro n R Q rest (AY f (Bd R i) v) w1) (ha : clV f (Am R i) = some (fid, args) := by kernel_rfl) (ho : ung R i = true := by kernel_rfl) : RWP P ro n R Q (i :: rest) f w := by
 refine SE (Bz ho) rfl (Gz ha hok) hc ?_
 rintro e w' ⟨F', r, L', rfl, h1, h2, h3⟩
 exact k r F' w' L' h1 h2 h3
theorem CP {fid : FuncId} {args : List Value} {wb : World} {Fb : Mem} {α β : Type} {Lf : Own} {res : β ⊕ α} {bv : β -> Value} {post : α -> Mem -> Value -> Own -> Prop} (hok : Aq P fid) (hc : Calls P fid args.toArray w (BK wb Fb F Lf res bv post))
  (k : ∀ r v F1 w1 L', res = .inr r -> HS wb Fb w1 F1 L' -> SG F F1 -> post r F1 v L' -> RWP P ro n R Q rest (AY f (Bd R i) v) w1)
  (kp : ∀ b F1 w1, res = .inl b -> HS wb Fb w1 F1 Lf -> SG F F1 -> Q (.panic [{ v := bv b, recovered := false }]) f w1) (ha : clV f (Am R i) = some (fid, args) := by kernel_rfl) (ho : ung R i = true := by kernel_rfl) : RWP P ro n R Q (i :: rest) f w := by
 refine SE (Bz ho) rfl (Gz ha hok) hc ?_
 rintro e w' (⟨r, F', v, L', h0, rfl, h1, h2, h3⟩ | ⟨b, F', h0, rfl, h1, h2⟩)
 ·exact k r v F' w' L' h0 h1 h2 h3
 ·exact kp b F' w' h0 h1 h2
def clQ (f : Fr) : Op -> Option (FuncId × List Value)
 | .call c => (match c.callee with
  | .value f0 => (match fev f f0 with
   | .func (.func g) fi ca => some (g, fi.toList ++ (c.args.toList.map (fev f) ++ ca.toList))
   | _ => none)
  | _ => none)
 | _ => none
theorem PW (f : Fr) (op : Op) : clQ f op = clV f op := by
 unfold clQ clV
 split <;> try rfl
 split <;> try rfl
 split <;> try rfl
 simp [List.append_assoc]
theorem Cq {fid : FuncId} {args : List Value} {post : Mem -> Value -> Prop} (hok : Aq P fid) (hs : HS w0 F0 w F L) (hc : Calls P fid args.toArray w (AV w F post))
  (k : ∀ v F1 w1, HS w0 F0 w1 F1 L -> SG F F1 -> post F1 v -> RWP P ro n R Q rest (AY f (Bd R i) v) w1) (ha : clQ f (Am R i) = some (fid, args) := by kernel_rfl) (ho : ung R i = true := by kernel_rfl) : RWP P ro n R Q (i :: rest) f w := Cl' hok hs hc k (PW f _ ▸ ha) ho
theorem CPq {fid : FuncId} {args : List Value} {wb : World} {Fb : Mem} {α β : Type} {Lf : Own} {res : β ⊕ α} {bv : β -> Value} {post : α -> Mem -> Value -> Own -> Prop} (hok : Aq P fid) (hc : Calls P fid args.toArray w (BK wb Fb F Lf res bv post))
  (k : ∀ r v F1 w1 L', res = .inr r -> HS wb Fb w1 F1 L' -> SG F F1 -> post r F1 v L' -> RWP P ro n R Q rest (AY f (Bd R i) v) w1)
  (kp : ∀ b F1 w1, res = .inl b -> HS wb Fb w1 F1 Lf -> SG F F1 -> Q (.panic [{ v := bv b, recovered := false }]) f w1) (ha : clQ f (Am R i) = some (fid, args) := by kernel_rfl) (ho : ung R i = true := by kernel_rfl) : RWP P ro n R Q (i :: rest) f w := CP hok hc k kp (PW f _ ▸ ha) ho
theorem Go (m : Nat) {fid : FuncId} {fn : Func} {args : List Value} {S : Ending -> World -> Prop} (hf : P.funcs[fid]? = some fn) (h : CWP P none m (Cb fn) (RG P fn.results S) (f0 args) w)
  (hk : (Nat.beq fn.ntmps m && (decide (args.length <= m) && isS fn.body)) = true := by kernel_rfl) : Calls P fid args.toArray w S := by
 simp only [Bool.and_eq_true] at hk
 have h1 := Gk (d := .skip) hk.2.2
 exact EB hf h1 (Nat.eq_of_beq_eq_true hk.1) hk.2.1 h
variable {c : Code} {Q' : Exit -> Fr -> World -> Prop}
theorem Cd {α : Type} {t : Bool} {x y r : α} (h : (bif t then x else y) = r) (ht : t = true -> x = r -> CWP P ro n (PT c) Q f w) (hf : t = false -> y = r -> CWP P ro n (PX c) Q f w) (hc : fev f (NB c) = .bool t := by kernel_rfl) (hk : kin c = 4 := by kernel_rfl) : CWP P ro n c Q f w :=
 CWP.cond hk hc (fun e => ht e (PU h e)) (fun e => hf e (PV h e))
theorem Cp (t : Bool) (ht : t = true -> CWP P ro n (PT c) Q f w) (hf : t = false -> CWP P ro n (PX c) Q f w) (hc : fev f (NB c) = .bool t := by kernel_rfl) (hk : kin c = 4 := by kernel_rfl) : CWP P ro n c Q f w := CWP.cond hk hc ht hf
theorem C1 {t : Bool} (e : t = true) (h : CWP P ro n (PT c) Q f w) (hc : fev f (NB c) = .bool t := by kernel_rfl) (hk : kin c = 4 := by kernel_rfl) : CWP P ro n c Q f w := CWP.cond1 hk hc e h
theorem C0 {t : Bool} (e : t = false) (h : CWP P ro n (PX c) Q f w) (hc : fev f (NB c) = .bool t := by kernel_rfl) (hk : kin c = 4 := by kernel_rfl) : CWP P ro n c Q f w := CWP.cond0 hk hc e h
theorem Sp {α : Type} {t : Bool} {x y r : α} (h : (bif t then x else y) = r) {l : List Nat} (ht : t = true -> x = r -> RWP P ro n R Q l f w) (hf : t = false -> y = r -> RWP P ro n R Q l f w) : RWP P ro n R Q l f w :=
 SL t (fun e => ht e (PU h e)) (fun e => hf e (PV h e))
theorem Rt (h : Q .ret f w) (hk : kin c = 8 := by kernel_rfl) : CWP P ro n c Q f w := CWP.ret hk h
theorem Ex (h : Q (.exit (cid c)) f w) (hk : kin c = 7 := by kernel_rfl) : CWP P ro n c Q f w := CWP.exit hk h
end
def Nh (f : Fr) : List ResultVar -> Option (List Value)
 | [] => some []
 | .tmp t :: rs => (match Nh f rs with | some l => some (f t :: l) | none => none)
 | _ => none
theorem GK {P : Program} {w : World} {f : Fr} : ∀ {rs : List ResultVar} {vs : List Value}, Nh f rs = some vs -> P3 P w f rs vs
 | [], _, h => by cases h; trivial
 | .tmp t :: rs, vs, h => by
  unfold Nh at h
  split at h
  ·rename_i l hl; cases h; exact ⟨rfl, GK hl⟩
  ·cases h
 | .cell _ _ :: rs, vs, h => by simp [Nh] at h
theorem Re {P : Program} {rs : Array ResultVar} {w w0 : World} {F0 F : Mem} {f : Fr} {L : List (Option Nat × Obj)} {post : Mem -> Value -> Prop} (vs : List Value) (hs : HS w0 F0 w F L) (hp : post F (Du vs)) (hr : Nh f rs.toList = some vs := by kernel_rfl) (hd : f.d = [] := by kernel_rfl) :
  f.d = [] /\ ∃ v, (Cf rs f).run P w = .ok v w /\ AV w0 F0 post (.returned v) w :=
 ⟨hd, Du vs, AB rfl (GK hr), Du vs, F, rfl, hs.clear, hp⟩
theorem ReB {P : Program} {rs : Array ResultVar} {w wb : World} {Fb F0 F : Mem} {f : Fr} {L : Own} {post : Mem -> Value -> Own -> Prop} (vs : List Value) (hs : HS wb Fb w F L) (hl : SG F0 F) (hp : post F (Du vs) L) (hr : Nh f rs.toList = some vs := by kernel_rfl) (hd : f.d = [] := by kernel_rfl) :
  f.d = [] /\ ∃ v, (Cf rs f).run P w = .ok v w /\ P6 wb Fb F0 post (.returned v) w :=
 ⟨hd, Du vs, AB rfl (GK hr), F, Du vs, L, rfl, hs, hl, hp⟩
theorem ReP {P : Program} {rs : Array ResultVar} {w wb : World} {Fb F0 F : Mem} {f : Fr} {L Lf : Own} {α β : Type} {a : α} {bv : β -> Value} {post : α -> Mem -> Value -> Own -> Prop} (vs : List Value) (hs : HS wb Fb w F L) (hl : SG F0 F) (hp : post a F (Du vs) L) (hr : Nh f rs.toList = some vs := by kernel_rfl) (hd : f.d = [] := by kernel_rfl) :
  f.d = [] /\ ∃ v, (Cf rs f).run P w = .ok v w /\ BK wb Fb F0 Lf (.inr a) bv post (.returned v) w :=
 ⟨hd, Du vs, AB rfl (GK hr), .inl ⟨a, F, Du vs, L, rfl, rfl, hs, hl, hp⟩⟩
theorem Ch {w wb : World} {Fb F0 F : Mem} {f : Fr} {Lf : Own} {α β : Type} {b : β} {bv : β -> Value} {post : α -> Mem -> Value -> Own -> Prop} (hs : HS wb Fb w F Lf) (hl : SG F0 F) (hd : f.d = [] := by kernel_rfl) :
  f.d = [] /\ BK wb Fb F0 Lf (.inl b) bv post (.panicked [{ v := bv b, recovered := false }]) w := ⟨hd, .inr ⟨b, F, rfl, rfl, hs, hl⟩⟩
section
variable {w0 w : World} {F0 F : Mem} {L : List (Option Nat × Obj)} {e : Option Nat × Obj}
theorem HS.dr0 (h : HS w0 F0 w F (e :: L)) : HS w0 F0 w F (L) := h.drop 0
theorem HS.at0 {b : Nat} {o : Obj} (h : HS w0 F0 w F ((some b, o) :: L)) : w.heap[b]? = some o := h.ownAt (k := 0) rfl
theorem HS.fc0 {b : Nat} {o : Obj} (h : HS w0 F0 w F ((some b, o) :: L)) : ∃ F1, HS w0 F0 w F1 (L) /\ SG F F1 /\ F1 b = some o := h.freezeC (k := 0) rfl
theorem HS.fr0 {α : Type} {T : Ty α} {E : TypeId} {a : S0} {cap : Nat} {l : List α} (h : HS w0 F0 w F (e :: L)) (hr : Av T E F a cap l e) : ∃ F1, HS w0 F0 w F1 (L) /\ SG F F1 /\ SlA T F1 a l := h.freezeRow (k := 0) rfl hr
theorem HS.rd0 {α : Type} {T : Ty α} {E : TypeId} {a : S0} {cap : Nat} {l : List α} (h : HS w0 F0 w F (e :: L)) (hr : Av T E F a cap l e) : Rd T F w a l := Av.rd h (k := 0) rfl hr
theorem HS.dr1 {e0 : Option Nat × Obj} (h : HS w0 F0 w F (e0 :: e :: L)) : HS w0 F0 w F (e0 :: L) := h.drop 1
theorem HS.pk1 {e0 : Option Nat × Obj} (h : HS w0 F0 w F (e0 :: e :: L)) : HS w0 F0 w F (e :: e0 :: L) := h.pick (k := 1) rfl
theorem HS.at1 {e0 : Option Nat × Obj} {b : Nat} {o : Obj} (h : HS w0 F0 w F (e0 :: (some b, o) :: L)) : w.heap[b]? = some o := h.ownAt (k := 1) rfl
theorem HS.fc1 {e0 : Option Nat × Obj} {b : Nat} {o : Obj} (h : HS w0 F0 w F (e0 :: (some b, o) :: L)) : ∃ F1, HS w0 F0 w F1 (e0 :: L) /\ SG F F1 /\ F1 b = some o := h.freezeC (k := 1) rfl
theorem HS.dr2 {e0 e1 : Option Nat × Obj} (h : HS w0 F0 w F (e0 :: e1 :: e :: L)) : HS w0 F0 w F (e0 :: e1 :: L) := h.drop 2
theorem HS.pk2 {e0 e1 : Option Nat × Obj} (h : HS w0 F0 w F (e0 :: e1 :: e :: L)) : HS w0 F0 w F (e :: e0 :: e1 :: L) := h.pick (k := 2) rfl
theorem HS.at2 {e0 e1 : Option Nat × Obj} {b : Nat} {o : Obj} (h : HS w0 F0 w F (e0 :: e1 :: (some b, o) :: L)) : w.heap[b]? = some o := h.ownAt (k := 2) rfl
theorem HS.dr3 {e0 e1 e2 : Option Nat × Obj} (h : HS w0 F0 w F (e0 :: e1 :: e2 :: e :: L)) : HS w0 F0 w F (e0 :: e1 :: e2 :: L) := h.drop 3
theorem HS.pk3 {e0 e1 e2 : Option Nat × Obj} (h : HS w0 F0 w F (e0 :: e1 :: e2 :: e :: L)) : HS w0 F0 w F (e :: e0 :: e1 :: e2 :: L) := h.pick (k := 3) rfl
theorem HS.at3 {e0 e1 e2 : Option Nat × Obj} {b : Nat} {o : Obj} (h : HS w0 F0 w F (e0 :: e1 :: e2 :: (some b, o) :: L)) : w.heap[b]? = some o := h.ownAt (k := 3) rfl
theorem HS.pk4 {e0 e1 e2 e3 : Option Nat × Obj} (h : HS w0 F0 w F (e0 :: e1 :: e2 :: e3 :: e :: L)) : HS w0 F0 w F (e :: e0 :: e1 :: e2 :: e3 :: L) := h.pick (k := 4) rfl
theorem HS.at4 {e0 e1 e2 e3 : Option Nat × Obj} {b : Nat} {o : Obj} (h : HS w0 F0 w F (e0 :: e1 :: e2 :: e3 :: (some b, o) :: L)) : w.heap[b]? = some o := h.ownAt (k := 4) rfl
theorem HS.pk5 {e0 e1 e2 e3 e4 : Option Nat × Obj} (h : HS w0 F0 w F (e0 :: e1 :: e2 :: e3 :: e4 :: e :: L)) : HS w0 F0 w F (e :: e0 :: e1 :: e2 :: e3 :: e4 :: L) := h.pick (k := 5) rfl
theorem HS.at5 {e0 e1 e2 e3 e4 : Option Nat × Obj} {b : Nat} {o : Obj} (h : HS w0 F0 w F (e0 :: e1 :: e2 :: e3 :: e4 :: (some b, o) :: L)) : w.heap[b]? = some o := h.ownAt (k := 5) rfl
theorem HS.pk6 {e0 e1 e2 e3 e4 e5 : Option Nat × Obj} (h : HS w0 F0 w F (e0 :: e1 :: e2 :: e3 :: e4 :: e5 :: e :: L)) : HS w0 F0 w F (e :: e0 :: e1 :: e2 :: e3 :: e4 :: e5 :: L) := h.pick (k := 6) rfl
theorem HS.pk7 {e0 e1 e2 e3 e4 e5 e6 : Option Nat × Obj} (h : HS w0 F0 w F (e0 :: e1 :: e2 :: e3 :: e4 :: e5 :: e6 :: e :: L)) : HS w0 F0 w F (e :: e0 :: e1 :: e2 :: e3 :: e4 :: e5 :: e6 :: L) := h.pick (k := 7) rfl
variable {P : Program} {ro : Option Nat} {n : Nat} {R : Array Oper} {Q : Exit -> Fr -> World -> Prop} {i : Nat} {rest : List Nat} {f : Fr} {α : Type} {T : Ty α} {E : TypeId} {a : S0} {cap : Nat} {l m : List α}
def apX : Op -> Operand | .call c => c.args[0]?.getD (.tmp 0) | _ => .tmp 0
def apY : Op -> Operand | .call c => c.args[1]?.getD (.tmp 0) | _ => .tmp 0
def apK (P : Program) (E : TypeId) (sz : Nat) : Op -> Bool
 | .call c => (match c.callee with
  | .builtin .append => (match c.args.toList, c.argTypes.toList with
   | [_, _], [t, t2] => (match A1 P t, BA P E with
    | some (E', s, by_), some z => Nat.beq E E' && (Nat.beq s sz && (decide (by_ <= 1024) && (ML P t2 && Nat.beq z.cells.size sz)))
    | _, _ => false)
   | _, _ => false)
  | _ => false)
 | _ => false
theorem IF {op : Op} {sz : Nat} (h : apK P E sz op = true) : ∃ t t2 by_ z, op = .call { callee := .builtin .append, args := #[apX op, apY op], argTypes := #[t, t2] } /\ A1 P t = some (E, sz, by_) /\ decide (by_ <= 1024) = true /\ ML P t2 = true /\ BA P E = some z /\ z.cells.size = sz := by
 unfold apK at h
 split at h
 ·rename_i c
  obtain ⟨callee, aos, ats⟩ := c
  simp only at h
  split at h
  ·split at h
   ·rename_i x y t t2 h1 h2
    split at h
    ·rename_i E' s by_ z he hz
     simp only [Bool.and_eq_true] at h
     obtain ⟨e1, e2, e3, e4, e5⟩ := h
     have e1 := Nat.eq_of_beq_eq_true e1
     have e2 := Nat.eq_of_beq_eq_true e2
     subst e1; subst e2
     have ha : aos = #[x, y] := by cases aos; simpa using h1
     have hb : ats = #[t, t2] := by cases ats; simpa using h2
     subst ha; subst hb
     exact ⟨t, t2, by_, z, rfl, he, e3, e4, hz, Nat.eq_of_beq_eq_true e5⟩
    ·cases h
   ·cases h
  ·cases h
 ·cases h
theorem St0 {b : Nat} {C : Array Value} {E : TypeId} (C' : Array Value) (hs : HS w0 F0 w F ((some b, .cells C E (0, 0)) :: L)) (k : ∀ w', HS w0 F0 w' F ((some b, .cells C' E (0, 0)) :: L) -> RWP P ro n R Q rest f w')
  (hx : fev f (stX (Am R i)) = .pointer (some ⟨b, pO (fev f (stX (Am R i))), none⟩) := by kernel_rfl) (hC : C3 C (pO (fev f (stX (Am R i)))) (fev f (stY (Am R i))).cells.toList = C' := by kernel_rfl)
  (ho : (ung R i && (I0 (Am R i) && (Ds P (stT (Am R i)) (fev f (stY (Am R i))) (pO (fev f (stX (Am R i)))) C && (match Bd R i with | none => true | some _ => false)))) = true := by kernel_rfl) : RWP P ro n R Q (i :: rest) f w :=
 Je (hs.ownAt (k := 0) rfl) (k _ (hs.put (k := 0) rfl _)) hx hC ho
theorem Ap0 {a2 : S0} (h1 : T.One) (hs : HS w0 F0 w F (e :: L)) (hr : Av T E F a cap l e) (hm : Rd T F w a2 m) {r : List α} (hap : C4 l m = some r)
  (k : ∀ a' cap' e' w', HS w0 F0 w' F (e' :: L) -> Av T E F a' cap' r e' -> RWP P ro n R Q rest (AY f (Bd R i) (.slice a' r.length cap')) w')
  (hx : fev f (apX (Am R i)) = .slice a l.length cap := by kernel_rfl) (hy : fev f (apY (Am R i)) = .slice a2 m.length (sC (fev f (apY (Am R i)))) := by kernel_rfl) (ho : (ung R i && apK P E T.sz (Am R i)) = true := by kernel_rfl) : RWP P ro n R Q (i :: rest) f w := by
 simp only [Bool.and_eq_true] at ho
 obtain ⟨t, t2, by_, z, e1, he, hb, hni, hz, hzs⟩ := IF ho.2
 have := Bz ho.1
 rw [e1] at this
 exact RWP.append this rfl hx hy he hb hni hz hzs h1 hs (k := 0) rfl hr hm hap k
theorem St1 {e0 : Option Nat × Obj} {b : Nat} {C : Array Value} {E : TypeId} (C' : Array Value) (hs : HS w0 F0 w F (e0 :: (some b, .cells C E (0, 0)) :: L)) (k : ∀ w', HS w0 F0 w' F (e0 :: (some b, .cells C' E (0, 0)) :: L) -> RWP P ro n R Q rest f w')
  (hx : fev f (stX (Am R i)) = .pointer (some ⟨b, pO (fev f (stX (Am R i))), none⟩) := by kernel_rfl) (hC : C3 C (pO (fev f (stX (Am R i)))) (fev f (stY (Am R i))).cells.toList = C' := by kernel_rfl)
  (ho : (ung R i && (I0 (Am R i) && (Ds P (stT (Am R i)) (fev f (stY (Am R i))) (pO (fev f (stX (Am R i)))) C && (match Bd R i with | none => true | some _ => false)))) = true := by kernel_rfl) : RWP P ro n R Q (i :: rest) f w :=
 Je (hs.ownAt (k := 1) rfl) (k _ (hs.put (k := 1) rfl _)) hx hC ho
theorem St2 {e0 e1 : Option Nat × Obj} {b : Nat} {C : Array Value} {E : TypeId} (C' : Array Value) (hs : HS w0 F0 w F (e0 :: e1 :: (some b, .cells C E (0, 0)) :: L)) (k : ∀ w', HS w0 F0 w' F (e0 :: e1 :: (some b, .cells C' E (0, 0)) :: L) -> RWP P ro n R Q rest f w')
  (hx : fev f (stX (Am R i)) = .pointer (some ⟨b, pO (fev f (stX (Am R i))), none⟩) := by kernel_rfl) (hC : C3 C (pO (fev f (stX (Am R i)))) (fev f (stY (Am R i))).cells.toList = C' := by kernel_rfl)
  (ho : (ung R i && (I0 (Am R i) && (Ds P (stT (Am R i)) (fev f (stY (Am R i))) (pO (fev f (stX (Am R i)))) C && (match Bd R i with | none => true | some _ => false)))) = true := by kernel_rfl) : RWP P ro n R Q (i :: rest) f w :=
 Je (hs.ownAt (k := 2) rfl) (k _ (hs.put (k := 2) rfl _)) hx hC ho
theorem St3 {e0 e1 e2 : Option Nat × Obj} {b : Nat} {C : Array Value} {E : TypeId} (C' : Array Value) (hs : HS w0 F0 w F (e0 :: e1 :: e2 :: (some b, .cells C E (0, 0)) :: L)) (k : ∀ w', HS w0 F0 w' F (e0 :: e1 :: e2 :: (some b, .cells C' E (0, 0)) :: L) -> RWP P ro n R Q rest f w')
  (hx : fev f (stX (Am R i)) = .pointer (some ⟨b, pO (fev f (stX (Am R i))), none⟩) := by kernel_rfl) (hC : C3 C (pO (fev f (stX (Am R i)))) (fev f (stY (Am R i))).cells.toList = C' := by kernel_rfl)
  (ho : (ung R i && (I0 (Am R i) && (Ds P (stT (Am R i)) (fev f (stY (Am R i))) (pO (fev f (stX (Am R i)))) C && (match Bd R i with | none => true | some _ => false)))) = true := by kernel_rfl) : RWP P ro n R Q (i :: rest) f w :=
 Je (hs.ownAt (k := 3) rfl) (k _ (hs.put (k := 3) rfl _)) hx hC ho
theorem St4 {e0 e1 e2 e3 : Option Nat × Obj} {b : Nat} {C : Array Value} {E : TypeId} (C' : Array Value) (hs : HS w0 F0 w F (e0 :: e1 :: e2 :: e3 :: (some b, .cells C E (0, 0)) :: L)) (k : ∀ w', HS w0 F0 w' F (e0 :: e1 :: e2 :: e3 :: (some b, .cells C' E (0, 0)) :: L) -> RWP P ro n R Q rest f w')
  (hx : fev f (stX (Am R i)) = .pointer (some ⟨b, pO (fev f (stX (Am R i))), none⟩) := by kernel_rfl) (hC : C3 C (pO (fev f (stX (Am R i)))) (fev f (stY (Am R i))).cells.toList = C' := by kernel_rfl)
  (ho : (ung R i && (I0 (Am R i) && (Ds P (stT (Am R i)) (fev f (stY (Am R i))) (pO (fev f (stX (Am R i)))) C && (match Bd R i with | none => true | some _ => false)))) = true := by kernel_rfl) : RWP P ro n R Q (i :: rest) f w :=
 Je (hs.ownAt (k := 4) rfl) (k _ (hs.put (k := 4) rfl _)) hx hC ho
theorem St6 {e0 e1 e2 e3 e4 e5 : Option Nat × Obj} {b : Nat} {C : Array Value} {E : TypeId} (C' : Array Value) (hs : HS w0 F0 w F (e0 :: e1 :: e2 :: e3 :: e4 :: e5 :: (some b, .cells C E (0, 0)) :: L)) (k : ∀ w', HS w0 F0 w' F (e0 :: e1 :: e2 :: e3 :: e4 :: e5 :: (some b, .cells C' E (0, 0)) :: L) -> RWP P ro n R Q rest f w')
  (hx : fev f (stX (Am R i)) = .pointer (some ⟨b, pO (fev f (stX (Am R i))), none⟩) := by kernel_rfl) (hC : C3 C (pO (fev f (stX (Am R i)))) (fev f (stY (Am R i))).cells.toList = C' := by kernel_rfl)
  (ho : (ung R i && (I0 (Am R i) && (Ds P (stT (Am R i)) (fev f (stY (Am R i))) (pO (fev f (stX (Am R i)))) C && (match Bd R i with | none => true | some _ => false)))) = true := by kernel_rfl) : RWP P ro n R Q (i :: rest) f w :=
 Je (hs.ownAt (k := 6) rfl) (k _ (hs.put (k := 6) rfl _)) hx hC ho
end
section
variable {P : Program} {n : Nat} {R : Array Oper} {Q : Exit -> Fr -> World -> Prop} {PQ : List PanicEntry -> List Deferred -> World -> Prop} {Post : Fr -> World -> Prop} {z fuel : Nat} {Sw : Bool -> World -> Prop} {i : Nat} {f : Fr} {w w' w0 : World} {F0 F Fs : Mem} {l : List Bool} {L Lc Lz : List (Option Nat × Obj)} {e : Option Nat × Obj}
def rdy (R : Array Oper) (z i : Nat) (l : List Bool) : Bool := Region.free .any R l.toArray i && ((Region.ready .any R l.toArray).contains i && K3 R z i)
def dvf (P : Program) (R : Array Oper) : List Nat -> Fr -> Fr
 | [], f => f
 | i :: is, f => dvf P R is (AY f (Bd R i) ((pv P (fev f) (Am R i)).getD undef))
def dvl : List Nat -> List Bool -> List Bool
 | [], l => l
 | i :: is, l => dvl is (l.set i true)
def PK (P : Program) (R : Array Oper) (z : Nat) : List Nat -> List Bool -> Fr -> Bool
 | [], _, _ => true
 | i :: is, l, f => ung R i && (isS (pv P (fev f) (Am R i)) && (rdy R z i l && PK P R z is (l.set i true) (AY f (Bd R i) ((pv P (fev f) (Am R i)).getD undef))))
theorem P5 : ∀ (is : List Nat) {l : List Bool} {f : Fr} {fuel : Nat}, DWP P n R PQ Post z Sw fuel (dvl is l) (dvf P R is f) w -> PK P R z is l f = true -> DWP P n R PQ Post z Sw (fuel + is.length) l f w
 | [], _, _, _, k, _ => k
 | i :: is, l, f, fuel, k, h => by
  simp only [PK, rdy, Bool.and_eq_true] at h
  obtain ⟨h1, h2, ⟨h3, h4, h5⟩, h6⟩ := h
  exact SR (Bz h1) h3 h4 h5 rfl rfl (fun _ _ => LL (Gk h2)) rfl (P5 is k h6)
theorem Dv (is : List Nat) {fu : Nat} (k : DWP P n R PQ Post z Sw (fu - is.length) (dvl is l) (dvf P R is f) w) (h : PK P R z is l f = true := by kernel_rfl) (hfu : Nat.beq fu ((fu - is.length) + is.length) = true := by kernel_rfl) : DWP P n R PQ Post z Sw fu l f w := by
 have := Nat.eq_of_beq_eq_true hfu; rw [this]
 exact P5 is k h
theorem Dvl (is : List Nat) (l' : List Bool) {fu : Nat} (k : DWP P n R PQ Post z Sw (fu - is.length) l' (dvf P R is f) w) (h : PK P R z is l f = true := by kernel_rfl) (hl : dvl is l = l' := by kernel_rfl) (hfu : Nat.beq fu ((fu - is.length) + is.length) = true := by kernel_rfl) : DWP P n R PQ Post z Sw fu l f w := by
 subst hl; exact Dv is k h hfu
theorem DWP.tk {v : Value} (i : Nat) {fu : Nat} (hy : ∀ w', Sw (l.toArray.getD z true) w' -> (Ao (fev f) (Am R i) (Fk R i)).run P w' = .ok (.value v) w') (k : DWP P n R PQ Post z Sw (fu - 1) (l.set i true) (AY f (Bd R i) v) w) (ho : ung R i = true) (hr : rdy R z i l = true)
  (hfu : Nat.beq fu ((fu - 1) + 1) = true) : DWP P n R PQ Post z Sw fu l f w := by
 simp only [rdy, Bool.and_eq_true] at hr
 have := Nat.eq_of_beq_eq_true hfu; rw [this]
 exact SR (Bz ho) hr.1 hr.2.1 hr.2.2 rfl rfl hy rfl k
theorem Dl (i : Nat) {fu : Nat} {b : Nat} {C : Array Value} {E : TypeId} {fz : Nat × Nat} (hp : ∀ w', Sw (l.toArray.getD z true) w' -> w'.heap[b]? = some (.cells C E fz)) (k : DWP P n R PQ Post z Sw (fu - 1) (l.set i true) (AY f (Bd R i) (ldV P (ldT (Am R i)) C (pO (fev f (ldX (Am R i)))))) w)
  (hx : fev f (ldX (Am R i)) = .pointer (some ⟨b, pO (fev f (ldX (Am R i))), none⟩) := by kernel_rfl) (ho : (ung R i && (MM (Am R i) && ldK P (ldT (Am R i)) C (pO (fev f (ldX (Am R i)))))) = true := by kernel_rfl) (hr : rdy R z i l = true := by kernel_rfl)
  (hfu : Nat.beq fu ((fu - 1) + 1) = true := by kernel_rfl) : DWP P n R PQ Post z Sw fu l f w := by
 simp only [Bool.and_eq_true] at ho
 refine DWP.tk i (fun w' hw => ?_) k ho.1 hr hfu
 have := Ek ho.2.1
 rw [this]; exact Nd hx (hp w' hw) ho.2.2
theorem Dx (i j : Nat) {fu : Nat} {b o kk : Nat} {C : Array Value} {E : TypeId} {fz : Nat × Nat} {cs : List Value} (hp : ∀ w', Sw (l.toArray.getD z true) w' -> w'.heap[b]? = some (.cells C E fz)) (hc : As C o kk = cs) (k : DWP P n R PQ Post z Sw (fu - 1) (l.set i true) (AY f (Bd R i) (lxV P (ldT (Am R i)) cs j)) w)
  (hx : fev f (ldX (Am R i)) = .pointer (some ⟨b, o + j, none⟩) := by kernel_rfl) (ho : (ung R i && (MM (Am R i) && lxK P (ldT (Am R i)) cs j kk)) = true := by kernel_rfl) (hr : rdy R z i l = true := by kernel_rfl)
  (hfu : Nat.beq fu ((fu - 1) + 1) = true := by kernel_rfl) : DWP P n R PQ Post z Sw fu l f w := by
 simp only [Bool.and_eq_true] at ho
 refine DWP.tk i (fun w' hw => ?_) k ho.1 hr hfu
 have := Ek ho.2.1
 rw [this]; exact Na hx (hp w' hw) hc ho.2.2
theorem Di (i : Nat) {fu m : Nat} {q : Int} (hi : 0 <= q /\ q < (m : Int)) (k : DWP P n R PQ Post z Sw (fu - 1) (l.set i true) (AY f (Bd R i) (.pointer (some ⟨sB (fev f (ixX (Am R i))), sO (fev f (ixX (Am R i))) + q.toNat * elS P (ixT (Am R i)), none⟩))) w)
  (hx : fev f (ixX (Am R i)) = .slice (some ⟨sB (fev f (ixX (Am R i))), sO (fev f (ixX (Am R i))), none⟩) m (sC (fev f (ixX (Am R i)))) := by kernel_rfl) (hy : fev f (ixY (Am R i)) = .int (iK (fev f (ixY (Am R i)))) q := by kernel_rfl)
  (ho : (ung R i && (Nx (Am R i) && slQ P (ixT (Am R i)))) = true := by kernel_rfl) (hr : rdy R z i l = true := by kernel_rfl) (hfu : Nat.beq fu ((fu - 1) + 1) = true := by kernel_rfl) : DWP P n R PQ Post z Sw fu l f w := by
 simp only [Bool.and_eq_true] at ho
 refine DWP.tk i (fun w' hw => ?_) k ho.1 hr hfu
 have e := Fg ho.2.1
 have := Pd (P := P) (w := w') (ty := Fk R i) hi hx hy ho.2.2
 rw [<- e] at this; exact this
theorem Dj (i : Nat) {fu m : Nat} {q : Int} (hi : 0 <= q /\ q < (m : Int)) (k : DWP P n R PQ Post z Sw (fu - 1) (l.set i true) (AY f (Bd R i) (.pointer (some ⟨sB (fev f (ixX (Am R i))), q.toNat * elS P (ixT (Am R i)), none⟩))) w)
  (hx : fev f (ixX (Am R i)) = .slice (some ⟨sB (fev f (ixX (Am R i))), 0, none⟩) m (sC (fev f (ixX (Am R i)))) := by kernel_rfl) (hy : fev f (ixY (Am R i)) = .int (iK (fev f (ixY (Am R i)))) q := by kernel_rfl)
  (ho : (ung R i && (Nx (Am R i) && slQ P (ixT (Am R i)))) = true := by kernel_rfl) (hr : rdy R z i l = true := by kernel_rfl) (hfu : Nat.beq fu ((fu - 1) + 1) = true := by kernel_rfl) : DWP P n R PQ Post z Sw fu l f w := by
 simp only [Bool.and_eq_true] at ho
 refine DWP.tk i (fun w' hw => ?_) k ho.1 hr hfu
 have e := Fg ho.2.1
 have := Qo (P := P) (w := w') (ty := Fk R i) hi hx hy ho.2.2
 rw [<- e] at this; exact this
theorem D1 (i : Nat) {fu : Nat} (h : Ay P n R PQ Post z Sw (fu - 1) l i f w) (hr : Region.ready .any R l.toArray = [i] := by kernel_rfl) (hfu : Nat.beq fu ((fu - 1) + 1) = true := by kernel_rfl) : DWP P n R PQ Post z Sw fu l f w := by
 have := Nat.eq_of_beq_eq_true hfu; rw [this]
 exact SS hr h
theorem zdT {zd : Bool} {A : Prop} (h : zd = true) : zd = false -> A := fun e => by rw [h] at e; cases e
theorem DCl {fid : FuncId} {args : List Value} {post : Mem -> Value -> Prop} (hok : Aq P fid) (hs : HS w0 F0 w F L) (hc : Calls P fid args.toArray w (AV w F post))
  (k : ∀ v F1 w1, HS w0 F0 w1 F1 L -> SG F F1 -> post F1 v -> DWP P n R PQ Post z (DZ Fs Lc Lz) fuel (l.set i true) (AY f (Bd R i) v) w1) (ha : clV f (Am R i) = some (fid, args) := by kernel_rfl) (ho : ung R i = true := by kernel_rfl)
  (hz : ((l.set i true).toArray.getD z true == l.toArray.getD z true) = true := by kernel_rfl) : Ay P n R PQ Post z (DZ Fs Lc Lz) fuel l i f w := by
 cases e : Am R i with
 | call c =>
  obtain ⟨callee, aos, ats⟩ := c
  have ho' := Bz ho
  rw [e] at ha ho'
  unfold clV at ha
  simp only at ha
  split at ha
  ·split at ha
   ·rename_i hf
    simp only [Option.some.injEq, Prod.mk.injEq] at ha
    obtain ⟨rfl, rfl⟩ := ha
    exact Ay.call rfl (by simpa using hz) rfl ho' rfl hf hok rfl hs hc k
   ·cases ha
  ·cases ha
 | _ => rw [e] at ha; simp [clV] at ha
theorem DBs (E : TypeId) (cs : List Value) (hs : HS w0 F0 w F L) (hle : SG Fs F) (k : ∀ b w', HS w0 F0 w' F ((some b, .cells cs.toArray E (0, 0)) :: L) -> DWP P n R PQ Post z (DZ Fs Lc Lz) fuel (l.set i true) (AY f (Bd R i) (.slice (some ⟨b, 0, none⟩) (bsL (Am R i)) (bsL (Am R i)))) w')
  (hb : bsV P f (Am R i) = some (E, cs) := by kernel_rfl) (ho : ung R i = true := by kernel_rfl) (hL : ∀ p, p ∈ Lc -> p ∈ L := by simp) (hLz : (l.set i true).toArray.getD z true = false -> ∀ p, p ∈ Lz -> p ∈ L := by first | (intro _; simp; done) | exact zdT (by kernel_rfl)) : Ay P n R PQ Post z (DZ Fs Lc Lz) fuel l i f w := by
 have := Bz ho
 cases e : Am R i with
 | buildSlice t len parts =>
  rw [e] at hb this k
  exact Ay.buildSlice rfl rfl this rfl rfl hb hs hle hL hLz k
 | _ => rw [e] at hb; simp [bsV] at hb
theorem DCP {fid : FuncId} {args : List Value} {wb : World} {Fb : Mem} {α β : Type} {Lf : Own} {res : β ⊕ α} {bv : β -> Value} {post : α -> Mem -> Value -> Own -> Prop} (hok : Aq P fid) (hc : Calls P fid args.toArray w (BK wb Fb F Lf res bv post))
  (k : ∀ r v F1 w1 L', res = .inr r -> HS wb Fb w1 F1 L' -> SG F F1 -> post r F1 v L' -> DZ Fs Lc Lz ((l.set i true).toArray.getD z true) w1 /\ DWP P n R PQ Post z (DZ Fs Lc Lz) fuel (l.set i true) (AY f (Bd R i) v) w1)
  (kp : ∀ b F1 w1, res = .inl b -> HS wb Fb w1 F1 Lf -> SG F F1 -> PQ [{ v := bv b, recovered := false }] f.d w1) (ha : clV f (Am R i) = some (fid, args) := by kernel_rfl) (ho : ung R i = true := by kernel_rfl) : Ay P n R PQ Post z (DZ Fs Lc Lz) fuel l i f w := by
 cases e : Am R i with
 | call c =>
  obtain ⟨callee, aos, ats⟩ := c
  have ho' := Bz ho
  rw [e] at ha ho'
  unfold clV at ha
  simp only at ha
  split at ha
  ·split at ha
   ·rename_i hf
    simp only [Option.some.injEq, Prod.mk.injEq] at ha
    obtain ⟨rfl, rfl⟩ := ha
    exact Ay.callBP rfl rfl ho' rfl hf hok rfl hc k kp
   ·cases ha
  ·cases ha
 | _ => rw [e] at ha; simp [clV] at ha
def fls : Nat -> List Bool
 | 0 => []
 | n + 1 => false :: fls n
variable {c : Code}
def Qy (R : Array Oper) : Bool := R.all fun o => !Il o.op
def Q5 (P : Program) (n m : Nat) (c : Code) : Bool := Nat.beq (kin c) 2 && (okR n (DR c) && (Region.noSelect (DR c) && (Qy (DR c) && Nat.beq (DR c).size m)))
theorem Rl : ∀ n, Array.replicate n false = (fls n).toArray := fun n => by
 have : List.replicate n false = fls n := by induction n with
  | zero => rfl
  | succ n ih => rw [List.replicate_succ, ih]; rfl
 rw [<- this]; simp
theorem Qx {R : Array Oper} (hd : Qy R = true) (ro : Option Nat) {Q : Exit -> Act -> World -> Prop} {i : Nat} {K K' : Act -> World -> Prop} (hK : ∀ a w, K a w -> K' a w) {a : Act} {w : World} (h : wpOpIn (FW none) 0 P R Q i K a w) : wpOpIn (FW ro) 0 P R Q i K' a w := by
 have h := wpOpIn_mono hK h
 unfold wpOpIn at h ⊢
 cases ho : R[i]? with
 | none => simp only [ho] at h ⊢; exact h
 | some o =>
  simp only [ho] at h ⊢
  split
  ·rename_i hw
   simp only [hw, if_true] at h
   have hi : i < R.size := by
    rcases Nat.lt_or_ge i R.size with h' | h'
    ·exact h'
    ·simp [Array.getElem?_eq_none h'] at ho
   have hnd : Il o.op = false := by
    unfold Qy at hd
    rw [Array.all_eq_true] at hd
    have := hd i hi
    have e : R[i] = o := by simpa [Array.getElem?_eq_getElem hi] using ho
    rw [e] at this; simpa using this
   unfold Oper.wpIn at h ⊢
   refine ⟨fun _ _ => trivial, ?_⟩
   have e : ∀ r, Oper.semAt r a.eval o = execOp a.eval o := fun r => E9 hnd r a.eval o rfl
   have h2 := h.2
   rw [e] at h2 ⊢
   exact h2
  ·rename_i hw
   simp only [hw, if_false] at h
   exact ⟨fun _ _ => trivial, h.2⟩
theorem P0 {R : Array Oper} (hd : Qy R = true) (ro : Option Nat) {Q : Exit -> Act -> World -> Prop} : ∀ (fuel : Nat) (l : Array Bool) (a : Act) (w : World), wpAnyIn (FW none) 0 P .any R Q fuel l a w -> wpAnyIn (FW ro) 0 P .any R Q fuel l a w
 | 0, _, _, _, h => h
 | fuel + 1, _, _, _, h => ⟨h.1, fun i hi => Qx hd ro (fun a w => P0 hd ro fuel _ a w) (h.2 i hi)⟩
variable {ro : Option Nat}
theorem RDP (z m : Nat) (Lc Lz : List (Option Nat × Obj)) (hs : HS w0 F0 w F L) (PQ : List PanicEntry -> List Deferred -> World -> Prop) (Post : Fr -> World -> Prop)
  (h : ∀ w', HS w0 F0 w' F L -> DWP P n (DR c) PQ Post z (DZ F Lc Lz) m (fls m) f w') (k : ∀ f w, Post f w -> Q .normal f w) (kp : ∀ c f w, PQ c f.d w -> Q (.panic c) f w) (hm : P.follows .mixedOrders = true := by kernel_rfl) (ho : Q5 P n m c = true := by kernel_rfl) (hc : ∀ p, p ∈ Lc -> p ∈ L := by simp) (hz : ∀ p, p ∈ Lz -> p ∈ L := by simp) : CWP P ro n c Q f w := by
 simp only [Q5, Bool.and_eq_true] at ho
 obtain ⟨hk, hok, hns, hnd, hfu⟩ := ho
 replace hk := Nat.eq_of_beq_eq_true hk
 replace hfu := Nat.eq_of_beq_eq_true hfu
 subst hfu
 cases c <;> simp [kin] at hk
 rename_i id ops d
 cases d <;> simp [kin] at hk
 intro a ha
 have hs' : HS w0 F0 { w with drawn := w.drawn + 1 } F L := hs.heap rfl
 refine wpIn_mono (wpIn_region_any hm (P0 hnd ro _ _ _ _ (Hh (z := z) (S := DZ F Lc Lz) _ _ _ _ ?_))) (Q := lq n (nq PQ Post)) ?_
 ·simp only [DR] at *
  rw [Rl]
  exact h _ hs' hok hns (BI hs' (SH F) hc fun _ => hz) a ha
 ·rintro e a w ⟨f, hf, hP⟩
  cases e with
  | normal => exact ⟨f, hf, k _ _ hP⟩
  | panic c => exact ⟨f, hf, kp _ _ _ hP⟩
  | _ => exact hP.elim
theorem RD (z m : Nat) (Lc Lz : List (Option Nat × Obj)) (hs : HS w0 F0 w F L) (Post : Fr -> World -> Prop)
  (h : ∀ w', HS w0 F0 w' F L -> DWP P n (DR c) (fun _ _ _ => False) Post z (DZ F Lc Lz) m (fls m) f w') (k : ∀ f w, Post f w -> Q .normal f w) (hm : P.follows .mixedOrders = true := by kernel_rfl) (ho : Q5 P n m c = true := by kernel_rfl) (hc : ∀ p, p ∈ Lc -> p ∈ L := by simp) (hz : ∀ p, p ∈ Lz -> p ∈ L := by simp) : CWP P ro n c Q f w :=
 RDP z m Lc Lz hs (fun _ _ _ => False) Post h k (fun _ _ _ h => h.elim) hm ho hc hz
variable {α : Type} {T : Ty α} {E : TypeId} {a : S0} {cap : Nat} {ls m : List α}
theorem Sv {e0 e1 : Option Nat × Obj} {b : Nat} {C : Array Value} {E : TypeId} (C' : Array Value) (hs : HS w0 F0 w F (e0 :: e1 :: (some b, .cells C E (0, 0)) :: L)) (hle : SG Fs F) (k : ∀ w', HS w0 F0 w' F (e0 :: e1 :: (some b, .cells C' E (0, 0)) :: L) -> DWP P n R PQ Post z (DZ Fs Lc Lz) fuel (l.set i true) f w')
  (hx : fev f (stX (Am R i)) = .pointer (some ⟨b, pO (fev f (stX (Am R i))), none⟩) := by kernel_rfl) (hC : C3 C (pO (fev f (stX (Am R i)))) (fev f (stY (Am R i))).cells.toList = C' := by kernel_rfl)
  (ho : (ung R i && (I0 (Am R i) && (Ds P (stT (Am R i)) (fev f (stY (Am R i))) (pO (fev f (stX (Am R i)))) C && (match Bd R i with | none => true | some _ => false)))) = true := by kernel_rfl)
  (hL : ∀ p, p ∈ Lc -> p ∈ e0 :: e1 :: (some b, .cells C' E (0, 0)) :: L := by simp) (hLz : (l.set i true).toArray.getD z true = false -> ∀ p, p ∈ Lz -> p ∈ e0 :: e1 :: (some b, .cells C' E (0, 0)) :: L := by first | (intro _; simp; done) | exact zdT (by kernel_rfl)) : Ay P n R PQ Post z (DZ Fs Lc Lz) fuel l i f w := by
 simp only [Bool.and_eq_true] at ho
 obtain ⟨h1, h2, h3, h4⟩ := ho
 have e := Ff h2
 have := Bz h1
 cases hd : Bd R i with
 | some d => rw [hd] at h4; cases h4
 | none =>
  rw [hd] at this
  have hp := hs.put (k := 2) rfl (.cells C' E (0, 0))
  refine SU rfl rfl this rfl ?_ (BI hp hle hL hLz) (k _ hp)
  have hr := JU (P := P) (ty := Fk R i) (w := w) hx (hs.ownAt (k := 2) rfl) h3 hC
  rw [<- e] at hr; exact hr
theorem Sy {e0 e1 : Option Nat × Obj} {a2 : S0} (h1 : T.One) (hs : HS w0 F0 w F (e0 :: e1 :: e :: L)) (hr : Av T E F a cap ls e) (hm : Rd T F w a2 m) {r : List α} (hap : C4 ls m = some r) (hle : SG Fs F)
  (k : ∀ a' cap' e' w', HS w0 F0 w' F (e0 :: e1 :: e' :: L) -> Av T E F a' cap' r e' -> DWP P n R PQ Post z (DZ Fs Lc Lz) fuel (l.set i true) (AY f (Bd R i) (.slice a' r.length cap')) w')
  (hx : fev f (apX (Am R i)) = .slice a ls.length cap := by kernel_rfl) (hy : fev f (apY (Am R i)) = .slice a2 m.length (sC (fev f (apY (Am R i)))) := by kernel_rfl) (ho : (ung R i && apK P E T.sz (Am R i)) = true := by kernel_rfl)
  (hL : ∀ e' p, p ∈ Lc -> p ∈ e0 :: e1 :: e' :: L := by (intro _; simp)) (hLz : (l.set i true).toArray.getD z true = false -> ∀ e' p, p ∈ Lz -> p ∈ e0 :: e1 :: e' :: L := by first | (intro _ _; simp; done) | exact zdT (by kernel_rfl)) : Ay P n R PQ Post z (DZ Fs Lc Lz) fuel l i f w := by
 simp only [Bool.and_eq_true] at ho
 obtain ⟨t, t2, by_, zz, e1, he, hb, hni, hz, hzs⟩ := IF ho.2
 have := Bz ho.1
 rw [e1] at this
 exact Ay.append rfl rfl this rfl hx hy he hb hni hz hzs h1 hs (k := 2) rfl hr hm hap hle hL hLz k
theorem Rx {e0 e1 e2 : Option Nat × Obj} {b : Nat} {C : Array Value} {E : TypeId} (C' : Array Value) (hs : HS w0 F0 w F (e0 :: e1 :: e2 :: (some b, .cells C E (0, 0)) :: L)) (hle : SG Fs F) (k : ∀ w', HS w0 F0 w' F (e0 :: e1 :: e2 :: (some b, .cells C' E (0, 0)) :: L) -> DWP P n R PQ Post z (DZ Fs Lc Lz) fuel (l.set i true) f w')
  (hx : fev f (stX (Am R i)) = .pointer (some ⟨b, pO (fev f (stX (Am R i))), none⟩) := by kernel_rfl) (hC : C3 C (pO (fev f (stX (Am R i)))) (fev f (stY (Am R i))).cells.toList = C' := by kernel_rfl)
  (ho : (ung R i && (I0 (Am R i) && (Ds P (stT (Am R i)) (fev f (stY (Am R i))) (pO (fev f (stX (Am R i)))) C && (match Bd R i with | none => true | some _ => false)))) = true := by kernel_rfl)
  (hL : ∀ p, p ∈ Lc -> p ∈ e0 :: e1 :: e2 :: (some b, .cells C' E (0, 0)) :: L := by simp) (hLz : (l.set i true).toArray.getD z true = false -> ∀ p, p ∈ Lz -> p ∈ e0 :: e1 :: e2 :: (some b, .cells C' E (0, 0)) :: L := by first | (intro _; simp; done) | exact zdT (by kernel_rfl)) : Ay P n R PQ Post z (DZ Fs Lc Lz) fuel l i f w := by
 simp only [Bool.and_eq_true] at ho
 obtain ⟨h1, h2, h3, h4⟩ := ho
 have e := Ff h2
 have := Bz h1
 cases hd : Bd R i with
 | some d => rw [hd] at h4; cases h4
 | none =>
  rw [hd] at this
  have hp := hs.put (k := 3) rfl (.cells C' E (0, 0))
  refine SU rfl rfl this rfl ?_ (BI hp hle hL hLz) (k _ hp)
  have hr := JU (P := P) (ty := Fk R i) (w := w) hx (hs.ownAt (k := 3) rfl) h3 hC
  rw [<- e] at hr; exact hr
theorem Su {e0 e1 e2 e3 : Option Nat × Obj} {b : Nat} {C : Array Value} {E : TypeId} (C' : Array Value) (hs : HS w0 F0 w F (e0 :: e1 :: e2 :: e3 :: (some b, .cells C E (0, 0)) :: L)) (hle : SG Fs F) (k : ∀ w', HS w0 F0 w' F (e0 :: e1 :: e2 :: e3 :: (some b, .cells C' E (0, 0)) :: L) -> DWP P n R PQ Post z (DZ Fs Lc Lz) fuel (l.set i true) f w')
  (hx : fev f (stX (Am R i)) = .pointer (some ⟨b, pO (fev f (stX (Am R i))), none⟩) := by kernel_rfl) (hC : C3 C (pO (fev f (stX (Am R i)))) (fev f (stY (Am R i))).cells.toList = C' := by kernel_rfl)
  (ho : (ung R i && (I0 (Am R i) && (Ds P (stT (Am R i)) (fev f (stY (Am R i))) (pO (fev f (stX (Am R i)))) C && (match Bd R i with | none => true | some _ => false)))) = true := by kernel_rfl)
  (hL : ∀ p, p ∈ Lc -> p ∈ e0 :: e1 :: e2 :: e3 :: (some b, .cells C' E (0, 0)) :: L := by simp) (hLz : (l.set i true).toArray.getD z true = false -> ∀ p, p ∈ Lz -> p ∈ e0 :: e1 :: e2 :: e3 :: (some b, .cells C' E (0, 0)) :: L := by first | (intro _; simp; done) | exact zdT (by kernel_rfl)) : Ay P n R PQ Post z (DZ Fs Lc Lz) fuel l i f w := by
 simp only [Bool.and_eq_true] at ho
 obtain ⟨h1, h2, h3, h4⟩ := ho
 have e := Ff h2
 have := Bz h1
 cases hd : Bd R i with
 | some d => rw [hd] at h4; cases h4
 | none =>
  rw [hd] at this
  have hp := hs.put (k := 4) rfl (.cells C' E (0, 0))
  refine SU rfl rfl this rfl ?_ (BI hp hle hL hLz) (k _ hp)
  have hr := JU (P := P) (ty := Fk R i) (w := w) hx (hs.ownAt (k := 4) rfl) h3 hC
  rw [<- e] at hr; exact hr
theorem QJ {e0 e1 e2 e3 e4 : Option Nat × Obj} {b : Nat} {C : Array Value} {E : TypeId} (C' : Array Value) (hs : HS w0 F0 w F (e0 :: e1 :: e2 :: e3 :: e4 :: (some b, .cells C E (0, 0)) :: L)) (hle : SG Fs F) (k : ∀ w', HS w0 F0 w' F (e0 :: e1 :: e2 :: e3 :: e4 :: (some b, .cells C' E (0, 0)) :: L) -> DWP P n R PQ Post z (DZ Fs Lc Lz) fuel (l.set i true) f w')
  (hx : fev f (stX (Am R i)) = .pointer (some ⟨b, pO (fev f (stX (Am R i))), none⟩) := by kernel_rfl) (hC : C3 C (pO (fev f (stX (Am R i)))) (fev f (stY (Am R i))).cells.toList = C' := by kernel_rfl)
  (ho : (ung R i && (I0 (Am R i) && (Ds P (stT (Am R i)) (fev f (stY (Am R i))) (pO (fev f (stX (Am R i)))) C && (match Bd R i with | none => true | some _ => false)))) = true := by kernel_rfl)
  (hL : ∀ p, p ∈ Lc -> p ∈ e0 :: e1 :: e2 :: e3 :: e4 :: (some b, .cells C' E (0, 0)) :: L := by simp) (hLz : (l.set i true).toArray.getD z true = false -> ∀ p, p ∈ Lz -> p ∈ e0 :: e1 :: e2 :: e3 :: e4 :: (some b, .cells C' E (0, 0)) :: L := by first | (intro _; simp; done) | exact zdT (by kernel_rfl)) : Ay P n R PQ Post z (DZ Fs Lc Lz) fuel l i f w := by
 simp only [Bool.and_eq_true] at ho
 obtain ⟨h1, h2, h3, h4⟩ := ho
 have e := Ff h2
 have := Bz h1
 cases hd : Bd R i with
 | some d => rw [hd] at h4; cases h4
 | none =>
  rw [hd] at this
  have hp := hs.put (k := 5) rfl (.cells C' E (0, 0))
  refine SU rfl rfl this rfl ?_ (BI hp hle hL hLz) (k _ hp)
  have hr := JU (P := P) (ty := Fk R i) (w := w) hx (hs.ownAt (k := 5) rfl) h3 hC
  rw [<- e] at hr; exact hr
theorem Sx {e0 e1 e2 e3 e4 : Option Nat × Obj} {a2 : S0} (h1 : T.One) (hs : HS w0 F0 w F (e0 :: e1 :: e2 :: e3 :: e4 :: e :: L)) (hr : Av T E F a cap ls e) (hm : Rd T F w a2 m) {r : List α} (hap : C4 ls m = some r) (hle : SG Fs F)
  (k : ∀ a' cap' e' w', HS w0 F0 w' F (e0 :: e1 :: e2 :: e3 :: e4 :: e' :: L) -> Av T E F a' cap' r e' -> DWP P n R PQ Post z (DZ Fs Lc Lz) fuel (l.set i true) (AY f (Bd R i) (.slice a' r.length cap')) w')
  (hx : fev f (apX (Am R i)) = .slice a ls.length cap := by kernel_rfl) (hy : fev f (apY (Am R i)) = .slice a2 m.length (sC (fev f (apY (Am R i)))) := by kernel_rfl) (ho : (ung R i && apK P E T.sz (Am R i)) = true := by kernel_rfl)
  (hL : ∀ e' p, p ∈ Lc -> p ∈ e0 :: e1 :: e2 :: e3 :: e4 :: e' :: L := by (intro _; simp)) (hLz : (l.set i true).toArray.getD z true = false -> ∀ e' p, p ∈ Lz -> p ∈ e0 :: e1 :: e2 :: e3 :: e4 :: e' :: L := by first | (intro _ _; simp; done) | exact zdT (by kernel_rfl)) : Ay P n R PQ Post z (DZ Fs Lc Lz) fuel l i f w := by
 simp only [Bool.and_eq_true] at ho
 obtain ⟨t, t2, by_, zz, e1, he, hb, hni, hz, hzs⟩ := IF ho.2
 have := Bz ho.1
 rw [e1] at this
 exact Ay.append rfl rfl this rfl hx hy he hb hni hz hzs h1 hs (k := 5) rfl hr hm hap hle hL hLz k
theorem Sd {e0 e1 e2 e3 e4 e5 e6 : Option Nat × Obj} {a2 : S0} (h1 : T.One) (hs : HS w0 F0 w F (e0 :: e1 :: e2 :: e3 :: e4 :: e5 :: e6 :: e :: L)) (hr : Av T E F a cap ls e) (hm : Rd T F w a2 m) {r : List α} (hap : C4 ls m = some r) (hle : SG Fs F)
  (k : ∀ a' cap' e' w', HS w0 F0 w' F (e0 :: e1 :: e2 :: e3 :: e4 :: e5 :: e6 :: e' :: L) -> Av T E F a' cap' r e' -> DWP P n R PQ Post z (DZ Fs Lc Lz) fuel (l.set i true) (AY f (Bd R i) (.slice a' r.length cap')) w')
  (hx : fev f (apX (Am R i)) = .slice a ls.length cap := by kernel_rfl) (hy : fev f (apY (Am R i)) = .slice a2 m.length (sC (fev f (apY (Am R i)))) := by kernel_rfl) (ho : (ung R i && apK P E T.sz (Am R i)) = true := by kernel_rfl)
  (hL : ∀ e' p, p ∈ Lc -> p ∈ e0 :: e1 :: e2 :: e3 :: e4 :: e5 :: e6 :: e' :: L := by (intro _; simp)) (hLz : (l.set i true).toArray.getD z true = false -> ∀ e' p, p ∈ Lz -> p ∈ e0 :: e1 :: e2 :: e3 :: e4 :: e5 :: e6 :: e' :: L := by first | (intro _ _; simp; done) | exact zdT (by kernel_rfl)) : Ay P n R PQ Post z (DZ Fs Lc Lz) fuel l i f w := by
 simp only [Bool.and_eq_true] at ho
 obtain ⟨t, t2, by_, zz, e1, he, hb, hni, hz, hzs⟩ := IF ho.2
 have := Bz ho.1
 rw [e1] at this
 exact Ay.append rfl rfl this rfl hx hy he hb hni hz hzs h1 hs (k := 7) rfl hr hm hap hle hL hLz k
end
theorem YP.mono {P : Program} {l : Nat} {args : List Value} {w : World} {S S' : Ending -> World -> Prop} (h : YP P l args w S) (hi : ∀ e w', S e w' -> S' e w') : YP P l args w S' :=
 let ⟨fn, t, a, b, h1, h2⟩ := h; ⟨fn, t, a, b, h1, h2.mono hi⟩
structure Expr where
 Op : Int
 Value : Int
 Kids : (List Expr)
structure Clause where
 When : Expr
 Then : Expr
structure C6 where
 Points : (List Clause)
 Multipliers : (List Clause)
 Penalties : (List Clause)
 Repeats : (List Expr)
structure QH where
 Lo : Int
 Hi : Int
 deriving DecidableEq
structure N3 where
 I : Int
 K : Int
 deriving DecidableEq
structure Ah where
 kind_ : Int
 at_ : Int
 text_ : SZ
 deriving DecidableEq
structure Aa where
 l_ : (List Ah)
 open_ : Int
 deriving DecidableEq
structure Ae where
 Kind : Int
 At : Int
 Text : SZ
 deriving DecidableEq
structure AO where
 L : (List Ae)
 At : Int
 Open : Int
 Bad : Int
 Where : Int
 deriving DecidableEq
structure Bt where
 Expr : Expr
 at_ : Int
structure Key where
 Clause : Int
 Value : Int
 deriving DecidableEq
structure Af where
 e_ : Int
 at_ : Int
 deriving DecidableEq
structure B1 where
 text_ : SZ
 rank_ : Int
 left_ : Int
 right_ : Int
 deriving DecidableEq
structure BP where
 most_ : Int
 own_ : Int
 kids_ : (List Int)
 deriving DecidableEq
structure SB where
 word_ : SZ
 l_ : (List Clause)
inductive IG (F : Mem) : List Value -> Expr -> Prop
 | leaf (op value : Int) (a : S0) (c : Nat) (hc : LC 0 c) : IG F [.int .i64 op, .int .i64 value, .slice a 0 c] ⟨op, value, []⟩
 | node (op value : Int) (b ob : Nat) (C : Array Value) (E : Nat) (fz : Nat × Nat) (c : Nat) (k : List Expr) (hc : LC k.length c) (hF : F b = some (.cells C E fz))
   (hk : ∀ i x, k[i]? = some x -> IG F (As C (ob + i * 3) 3) x) : IG F [.int .i64 op, .int .i64 value, .slice (some ⟨b, ob, none⟩) k.length c] ⟨op, value, k⟩
theorem IG.len {F : Mem} {cs : List Value} {x : Expr} (h : IG F cs x) : cs.length = 3 := by cases h <;> rfl
theorem IG.mono {F F' : Mem} (hl : SG F F') {cs : List Value} {x : Expr} (h : IG F cs x) : IG F' cs x := by
 induction h with
 | leaf op value a c hc => exact .leaf op value a c hc
 | node op value b ob C E fz c k hc hF hk ih => exact .node op value b ob C E fz c k hc (hl _ _ hF) ih
def Ar : Ty Expr := ⟨3, true, IG, fun h => h.len, fun hl h => h.mono hl, rfl⟩
theorem AR {F : Mem} {cs : List Value} {x : Expr} (h : Ar.R F cs x) : ∃ (a : S0) (c : Nat), cs = [.int .i64 x.Op, .int .i64 x.Value, .slice a x.Kids.length c] /\ LC x.Kids.length c /\ SlA Ar F a x.Kids := by
 cases h with
 | leaf op value a c hc => exact ⟨a, c, rfl, hc, .inl rfl⟩
 | node op value b ob C E fz c k hc hF hk => exact ⟨_, c, rfl, hc, .inr ⟨b, ob, C, E, fz, rfl, hF, hk⟩⟩
theorem A6 {F : Mem} {cs : List Value} {x : Expr} (h : ∃ (a : S0) (c : Nat), cs = [.int .i64 x.Op, .int .i64 x.Value, .slice a x.Kids.length c] /\ LC x.Kids.length c /\ SlA Ar F a x.Kids) : Ar.R F cs x := by
 obtain ⟨a, c, rfl, hc, hs⟩ := h
 obtain ⟨op, value, k⟩ := x
 rcases hs with rfl | ⟨b, o, C, E, fz, rfl, hF, hx⟩
 ·exact .leaf op value a c hc
 ·exact .node op value b o C E fz c k hc hF hx
theorem Pn : Ar.One := fun h => by obtain ⟨a, c, rfl, _⟩ := AR h; rfl
def AC : Ty Clause := ⟨6, true, fun F cs x => ∃ (a_2 : S0) (n_2 : Nat) (a_5 : S0) (n_5 : Nat), cs = [(.int .i64 x.When.Op), (.int .i64 x.When.Value), (.slice a_2 x.When.Kids.length n_2), (.int .i64 x.Then.Op), (.int .i64 x.Then.Value), (.slice a_5 x.Then.Kids.length n_5)] /\ LC x.When.Kids.length n_2 /\ SlA Ar F a_2 x.When.Kids /\ LC x.Then.Kids.length n_5 /\ SlA Ar F a_5 x.Then.Kids,
 fun h => by obtain ⟨a_2, n_2, a_5, n_5, rfl, _, _, _, _⟩ := h; rfl,
 fun hl h => by obtain ⟨a_2, n_2, a_5, n_5, hc, hb_2, hs_2, hb_5, hs_5⟩ := h; exact ⟨a_2, n_2, a_5, n_5, hc, hb_2, hs_2.mono hl, hb_5, hs_5.mono hl⟩, rfl⟩
theorem N5 : AC.One := fun h => by first | (subst h; rfl) | (obtain ⟨a_2, n_2, a_5, n_5, rfl, _, _, _, _⟩ := h; rfl)
def Ag : Ty Ah := ⟨3, true, fun _ cs x => cs = [(.int .i64 x.kind_), (.int .i64 x.at_), (.string ⟨(x.text_).toArray⟩)],
 fun h => by subst h; rfl,
 fun _ h => h, rfl⟩
theorem LN : Ag.One := fun h => by first | (subst h; rfl) | (obtain rfl := h; rfl)
def MX (F : Mem) (gq : FuncId) (fq kq : List Value) (q : Int -> Option Bool) : Prop := ∀ (w' : World) (F' : Mem) (y0 : Int) (r : Bool), SG F F' -> (∀ b o, F' b = some o -> w'.heap[b]? = some o) -> q y0 = some r -> Calls Tryz.prog gq ((fq : List Value) ++ (([(.int .i64 y0)] : List Value) ++ kq)).toArray w' (AV w' F' fun F'' v => v = (.bool r))
theorem MX.mono {F F1 : Mem} {gq : FuncId} {fq kq : List Value} {q : Int -> Option Bool} (h : MX F gq fq kq q) (hl : SG F F1) : MX F1 gq fq kq q := fun w1 F2 y0 r le1 pe1 hr1 => h w1 F2 y0 r (hl.trans le1) pe1 hr1
def Oo (F : Mem) (gq : FuncId) (fq kq : List Value) (q : Clause -> Option Bool) : Prop := ∀ (w' : World) (F' : Mem) (y0 : Clause) (ay0_2 : S0) (ny0_2 : Nat) (hby0_2 : LC y0.When.Kids.length ny0_2) (hsy0_2 : SlA Ar F' ay0_2 y0.When.Kids) (ay0_5 : S0) (ny0_5 : Nat) (hby0_5 : LC y0.Then.Kids.length ny0_5) (hsy0_5 : SlA Ar F' ay0_5 y0.Then.Kids) (r : Bool), SG F F' -> (∀ b o, F' b = some o -> w'.heap[b]? = some o) -> q y0 = some r -> Calls Tryz.prog gq ((fq : List Value) ++ (([(.agg #[(.int .i64 y0.When.Op), (.int .i64 y0.When.Value), (.slice ay0_2 y0.When.Kids.length ny0_2), (.int .i64 y0.Then.Op), (.int .i64 y0.Then.Value), (.slice ay0_5 y0.Then.Kids.length ny0_5)])] : List Value) ++ kq)).toArray w' (AV w' F' fun F'' v => v = (.bool r))
theorem Oo.mono {F F1 : Mem} {gq : FuncId} {fq kq : List Value} {q : Clause -> Option Bool} (h : Oo F gq fq kq q) (hl : SG F F1) : Oo F1 gq fq kq q := fun w1 F2 y0 ay0_2 ny0_2 hby0_2 hsy0_2 ay0_5 ny0_5 hby0_5 hsy0_5 r le1 pe1 hr1 => h w1 F2 y0 ay0_2 ny0_2 hby0_2 hsy0_2 ay0_5 ny0_5 hby0_5 hsy0_5 r (hl.trans le1) pe1 hr1
def QI (F : Mem) (gq : FuncId) (fq kq : List Value) (q : Expr -> Expr -> Option Bool) : Prop := ∀ (w' : World) (F' : Mem) (y0 : Expr) (ay0_2 : S0) (ny0_2 : Nat) (hby0_2 : LC y0.Kids.length ny0_2) (hsy0_2 : SlA Ar F' ay0_2 y0.Kids) (y1 : Expr) (ay1_2 : S0) (ny1_2 : Nat) (hby1_2 : LC y1.Kids.length ny1_2) (hsy1_2 : SlA Ar F' ay1_2 y1.Kids) (r : Bool), SG F F' -> (∀ b o, F' b = some o -> w'.heap[b]? = some o) -> q y0 y1 = some r -> Calls Tryz.prog gq ((fq : List Value) ++ (([(.agg #[(.int .i64 y0.Op), (.int .i64 y0.Value), (.slice ay0_2 y0.Kids.length ny0_2)]), (.agg #[(.int .i64 y1.Op), (.int .i64 y1.Value), (.slice ay1_2 y1.Kids.length ny1_2)])] : List Value) ++ kq)).toArray w' (AV w' F' fun F'' v => v = (.bool r))
theorem QI.mono {F F1 : Mem} {gq : FuncId} {fq kq : List Value} {q : Expr -> Expr -> Option Bool} (h : QI F gq fq kq q) (hl : SG F F1) : QI F1 gq fq kq q := fun w1 F2 y0 ay0_2 ny0_2 hby0_2 hsy0_2 y1 ay1_2 ny1_2 hby1_2 hsy1_2 r le1 pe1 hr1 => h w1 F2 y0 ay0_2 ny0_2 hby0_2 hsy0_2 y1 ay1_2 ny1_2 hby1_2 hsy1_2 r (hl.trans le1) pe1 hr1
def On (F : Mem) (gq : FuncId) (fq kq : List Value) (q : Int -> Int -> Int -> Option SZ) : Prop := ∀ (w' : World) (F' : Mem) (y0 : Int) (y1 : Int) (y2 : Int) (r : SZ), SG F F' -> (∀ b o, F' b = some o -> w'.heap[b]? = some o) -> q y0 y1 y2 = some r -> Calls Tryz.prog gq ((fq : List Value) ++ (([(.int .i64 y0), (.int .u8 y1), (.int .u8 y2)] : List Value) ++ kq)).toArray w' (AV w' F' fun F'' v => v = (.string ⟨(r).toArray⟩))
theorem On.mono {F F1 : Mem} {gq : FuncId} {fq kq : List Value} {q : Int -> Int -> Int -> Option SZ} (h : On F gq fq kq q) (hl : SG F F1) : On F1 gq fq kq q := fun w1 F2 y0 y1 y2 r le1 pe1 hr1 => h w1 F2 y0 y1 y2 r (hl.trans le1) pe1 hr1
def P4 (F : Mem) (gq : FuncId) (fq kq : List Value) (q : (List Int) -> Option Bool) : Prop := ∀ (w' : World) (F' : Mem) (y0 : (List Int)) (ay0_0 : S0) (ny0_0 : Nat) (hby0_0 : LC y0.length ny0_0) (hsy0_0 : SlA Ci F' ay0_0 y0) (r : Bool), SG F F' -> (∀ b o, F' b = some o -> w'.heap[b]? = some o) -> q y0 = some r -> Calls Tryz.prog gq ((fq : List Value) ++ (([(.slice ay0_0 y0.length ny0_0)] : List Value) ++ kq)).toArray w' (AV w' F' fun F'' v => v = (.bool r))
theorem P4.mono {F F1 : Mem} {gq : FuncId} {fq kq : List Value} {q : (List Int) -> Option Bool} (h : P4 F gq fq kq q) (hl : SG F F1) : P4 F1 gq fq kq q := fun w1 F2 y0 ay0_0 ny0_0 hby0_0 hsy0_0 r le1 pe1 hr1 => h w1 F2 y0 ay0_0 ny0_0 hby0_0 hsy0_0 r (hl.trans le1) pe1 hr1
def Rw (bp : Nat) (gq : FuncId) (fq kq : List Value) (q : Aa -> Option (Af ⊕ (Aa × Expr))) : Prop := ∀ {wb w0 : World} {Fb F0 : Mem} {Lf : Own} (hG : CA F0) (y : Aa) (ay_0 : S0) (ny_0 : Nat) (hby_0 : LC y.l_.length ny_0) (hsy_0 : SlA Ag F0 ay_0 y.l_) (hs0 : HS wb Fb w0 F0 ((some bp, (.cells #[(.slice ay_0 y.l_.length ny_0), (.int .i64 y.open_)] 100 (0, 0))) :: Lf)) (r : (Af ⊕ (Aa × Expr))), q y = some r -> Calls Tryz.prog gq ((fq : List Value) ++ (([] : List Value) ++ kq)).toArray w0 (BK wb Fb F0 Lf r (fun b => (.iface 158 (.agg #[(.int .i64 b.e_), (.int .i64 b.at_)]))) fun a F' v L' => ∃ (aq0_0 : S0) (nq0_0 : Nat) (aq1_2 : S0) (nq1_2 : Nat), v = (.agg #[(.int .i64 a.2.Op), (.int .i64 a.2.Value), (.slice aq1_2 a.2.Kids.length nq1_2)]) /\ L' = (some bp, (.cells #[(.slice aq0_0 a.1.l_.length nq0_0), (.int .i64 a.1.open_)] 100 (0, 0))) :: Lf /\ LC a.1.l_.length nq0_0 /\ SlA Ag F' aq0_0 a.1.l_ /\ LC a.2.Kids.length nq1_2 /\ SlA Ar F' aq1_2 a.2.Kids)
abbrev Ai (x : Expr) (a2 : S0) (n2 : Nat) : Array Value := #[.int .i64 x.Op, .int .i64 x.Value, .slice a2 x.Kids.length n2]
abbrev HQ (x : Clause) (a2 : S0) (n2 : Nat) (a5 : S0) (n5 : Nat) : Array Value := #[.int .i64 x.When.Op, .int .i64 x.When.Value, .slice a2 x.When.Kids.length n2, .int .i64 x.Then.Op, .int .i64 x.Then.Value, .slice a5 x.Then.Kids.length n5]
abbrev BC (x : C6) (a0 : S0) (n0 : Nat) (a1 : S0) (n1 : Nat) (a2 : S0) (n2 : Nat) (a3 : S0) (n3 : Nat) : Array Value := #[.slice a0 x.Points.length n0, .slice a1 x.Multipliers.length n1, .slice a2 x.Penalties.length n2, .slice a3 x.Repeats.length n3]
abbrev Ba (x : Ah) : Array Value := #[.int .i64 x.kind_, .int .i64 x.at_, .string ⟨(x.text_).toArray⟩]
abbrev Ad (x : Aa) (a0 : S0) (n0 : Nat) : Array Value := #[.slice a0 x.l_.length n0, .int .i64 x.open_]
abbrev Au (x : Bt) (a2 : S0) (n2 : Nat) : Array Value := #[.int .i64 x.Expr.Op, .int .i64 x.Expr.Value, .slice a2 x.Expr.Kids.length n2, .int .i64 x.at_]
abbrev AK (x : Af) : Array Value := #[.int .i64 x.e_, .int .i64 x.at_]
abbrev DP (x : B1) : Array Value := #[.string ⟨(x.text_).toArray⟩, .int .i64 x.rank_, .int .i64 x.left_, .int .i64 x.right_]
abbrev CG (x : BP) (a2 : S0) (n2 : Nat) : Array Value := #[.int .i64 x.most_, .int .i64 x.own_, .slice a2 x.kids_.length n2]
abbrev LV (x : Ah) : List Value := [(.agg #[(.int .i64 x.kind_), (.int .i64 x.at_), (.string ⟨(x.text_).toArray⟩)])]
abbrev N4 (_ : Mem) (_ : Ah) : Prop := True
abbrev N0 (x : Ah) : Ah := x
theorem kl9 : KL Tryz.prog 9 ES := KL.ofString (by kernel_rfl)
def Ef (N : Nat) (x0 : Int) : Option (BP × Bool) :=
 (bif (x0 == 1) then some (({ most_ := 1000000, own_ := 1, kids_ := ([] : List Int) } : BP), true) else (bif (x0 == 2) then some (({ most_ := 13, own_ := 1, kids_ := ([] : List Int) } : BP), true) else (bif (x0 == 3) then some (({ most_ := 0, own_ := 2, kids_ := [2] } : BP), true) else (bif (bif (x0 == 4) then (x0 == 4) else (x0 == 5)) then some (({ most_ := 0, own_ := 2, kids_ := [2, 2] } : BP), true) else (bif (bif (x0 == 6) then (x0 == 6) else (x0 == 7)) then some (({ most_ := 0, own_ := 2, kids_ := [1, 1] } : BP), true) else (bif (bif (x0 == 8) then (x0 == 8) else (bif (x0 == 9) then (x0 == 9) else (x0 == 10))) then some (({ most_ := 0, own_ := 1, kids_ := [1, 1] } : BP), true) else (bif (x0 == 11) then some (({ most_ := 0, own_ := 1, kids_ := [2, 1, 1] } : BP), true) else some (({ most_ := 0, own_ := 0, kids_ := ([] : List Int) } : BP), false))))))))
theorem JC : Aq Tryz.prog 168 := fun _ _ => by kernel_rfl
theorem KA (N : Nat) (w0 : World) (F0 : Mem) (hF : S1 w0 F0) (x0 : Int) (r : (BP × Bool)) (h : Ef N x0 = some r) :
  Calls Tryz.prog 168 ([(vi x0)] : List Value).toArray w0 (AV w0 F0 fun F' v => ∃ (aq0_2 : S0) (nq0_2 : Nat), v = (.tuple #[(.agg (CG r.1 aq0_2 nq0_2)), (.bool r.2)]) /\ LC r.1.kids_.length nq0_2 /\ SlA Ci F' aq0_2 r.1.kids_) := by
 have hs0 := SI hF
 refine Go 36 Tryz.func168 ?_
 refine Sq (Rg [0, 1] ?_)
 refine Al' 186 #[(vi 0), (vi 0), (.slice none ([] : List Int).length 0)] hs0 (fun b21 w22 hs23 => ?_)
 refine Vs 1 ?_
 refine Nss ?_
 refine Sq (Rg [0] ?_)
 refine Vs 1 ?_
 refine Nt ?_
 refine Bk ?_
 refine Sq (Rg [0, 1] ?_)
 refine Vs 2 ?_
 refine Nt ?_
 refine Cd h (fun hb24 h25 => ?_) (fun hb24 h26 => ?_)
 ·refine Sq (Rg [0, 1, 2] ?_)
  refine Vs 1 ?_
  refine St0 #[(vi 1000000), (vi 1), (.slice none ([] : List Int).length 0)] hs23 (fun w27 hs28 => ?_)
  refine Vs 1 ?_
  refine Nt ?_
  refine Rt ?_
  refine Al ?_
  refine Aj ?_
  obtain rfl := Ab h25
  exact ⟨rfl, (.tuple #[(.agg #[(vi 1000000), (vi 1), (.slice none ([] : List Int).length 0)]), (.bool true)]), AB (l := [.cell 2 186, .tmp 3]) (by kernel_rfl) (vs := [(.agg #[(vi 1000000), (vi 1), (.slice none ([] : List Int).length 0)]), (.bool true)]) ⟨b21, 0, rfl, Ak (t := 186) (g := true) (s := 3) (by kernel_rfl) hs28.at0 rfl (by decide), ⟨rfl, trivial⟩⟩, (.tuple #[(.agg #[(vi 1000000), (vi 1), (.slice none ([] : List Int).length 0)]), (.bool true)]), F0, rfl, hs28.clear, ⟨none, 0, rfl, SK, (.inl rfl)⟩⟩
 ·refine Sq (Rg [0, 1] ?_)
  refine Vs 2 ?_
  refine Nt ?_
  refine Cd h26 (fun hb29 h30 => ?_) (fun hb29 h31 => ?_)
  ·refine Sq (Rg [0, 1, 2] ?_)
   refine Vs 1 ?_
   refine St0 #[(vi 13), (vi 1), (.slice none ([] : List Int).length 0)] hs23 (fun w32 hs33 => ?_)
   refine Vs 1 ?_
   refine Nt ?_
   refine Rt ?_
   refine Al ?_
   refine Aj ?_
   obtain rfl := Ab h30
   exact ⟨rfl, (.tuple #[(.agg #[(vi 13), (vi 1), (.slice none ([] : List Int).length 0)]), (.bool true)]), AB (l := [.cell 2 186, .tmp 3]) (by kernel_rfl) (vs := [(.agg #[(vi 13), (vi 1), (.slice none ([] : List Int).length 0)]), (.bool true)]) ⟨b21, 0, rfl, Ak (t := 186) (g := true) (s := 3) (by kernel_rfl) hs33.at0 rfl (by decide), ⟨rfl, trivial⟩⟩, (.tuple #[(.agg #[(vi 13), (vi 1), (.slice none ([] : List Int).length 0)]), (.bool true)]), F0, rfl, hs33.clear, ⟨none, 0, rfl, SK, (.inl rfl)⟩⟩
  ·refine Sq (Rg [0, 1] ?_)
   refine Vs 2 ?_
   refine Nt ?_
   refine Cd h31 (fun hb34 h35 => ?_) (fun hb34 h36 => ?_)
   ·refine Sq (Rg [0, 1, 2, 3] ?_)
    refine Bs 3 [(vi 2)] hs23 (fun b37 w38 hs39 => ?_)
    have hr41 : Av Ci 3 F0 (some ⟨b37, 0, none⟩) 1 [2] (some b37, .cells ([(vi 2)] : List Value).toArray 3 (0, 0)) := SX ⟨rfl, rfl⟩ (by simp)
    refine Vs 1 ?_
    refine St1 #[(vi 0), (vi 2), (.slice (some ⟨b37, 0, none⟩) [2].length 1)] hs39 (fun w42 hs43 => ?_)
    refine Vs 1 ?_
    refine Nt ?_
    refine Rt ?_
    refine Al ?_
    refine Aj ?_
    have hb47 := SW hr41
    obtain ⟨F1, hs44, le45, hs46⟩ := hs43.fr0 hr41
    obtain rfl := Ab h35
    exact ⟨rfl, (.tuple #[(.agg #[(vi 0), (vi 2), (.slice (some ⟨b37, 0, none⟩) [2].length 1)]), (.bool true)]), AB (l := [.cell 2 186, .tmp 3]) (by kernel_rfl) (vs := [(.agg #[(vi 0), (vi 2), (.slice (some ⟨b37, 0, none⟩) [2].length 1)]), (.bool true)]) ⟨b21, 0, rfl, Ak (t := 186) (g := true) (s := 3) (by kernel_rfl) hs44.at0 rfl (by decide), ⟨rfl, trivial⟩⟩, (.tuple #[(.agg #[(vi 0), (vi 2), (.slice (some ⟨b37, 0, none⟩) [2].length 1)]), (.bool true)]), F1, rfl, hs44.clear, ⟨(some ⟨b37, 0, none⟩), 1, rfl, hb47, hs46⟩⟩
   ·refine Sq ?_
    refine Sq (Rg [0, 1] ?_)
    refine Vs 2 ?_
    refine Nt ?_
    refine SN (fun f w => ∃ (F2 : Mem), HS w0 F0 w F2 [(sb b21 #[(vi 0), (vi 0), (.slice none ([] : List Int).length 0)] 186)] /\ SG F0 F2 /\ FI f [] [(2, (pt b21 0)), (4, (vi x0)), (15, (.bool (bif (x0 == 4) then (x0 == 4) else (x0 == 5))))]) ?_ ?_
    ·refine Cp (x0 == 4) (fun hb55 => ?_) (fun hb55 => ?_)
     ·refine Sc ?_
      exact .inl ⟨rfl, F0, hs23, (SH _), (fJ ⟨rfl, rfl, (congrArg Value.bool (IC hb55 rfl)), trivial⟩)⟩
     ·refine Rg [0, 1] ?_
      refine Vs 2 ?_
      refine SC ?_
      exact .inl ⟨rfl, F0, hs23, (SH _), (fJ ⟨rfl, rfl, (congrArg Value.bool (ID hb55 rfl)), trivial⟩)⟩
    ·rintro f w48 ⟨F2, hs49, le50, ⟨_, rfl⟩⟩
     refine Ac ?_
     refine Cd h36 (fun hb56 h57 => ?_) (fun hb56 h58 => ?_)
     ·refine Sq (Rg [0, 1, 2, 3] ?_)
      refine Bs 3 [(vi 2), (vi 2)] hs49 (fun b59 w60 hs61 => ?_)
      have hr63 : Av Ci 3 F2 (some ⟨b59, 0, none⟩) 2 [2, 2] (some b59, .cells ([(vi 2), (vi 2)] : List Value).toArray 3 (0, 0)) := SX ⟨rfl, ⟨rfl, rfl⟩⟩ (by simp)
      refine Vs 1 ?_
      refine St1 #[(vi 0), (vi 2), (.slice (some ⟨b59, 0, none⟩) [2, 2].length 2)] hs61 (fun w64 hs65 => ?_)
      refine Vs 1 ?_
      refine Nt ?_
      refine Rt ?_
      refine Al ?_
      refine Aj ?_
      have hb69 := SW hr63
      obtain ⟨F3, hs66, le67, hs68⟩ := hs65.fr0 hr63
      obtain rfl := Ab h57
      exact ⟨rfl, (.tuple #[(.agg #[(vi 0), (vi 2), (.slice (some ⟨b59, 0, none⟩) [2, 2].length 2)]), (.bool true)]), AB (l := [.cell 2 186, .tmp 3]) (by kernel_rfl) (vs := [(.agg #[(vi 0), (vi 2), (.slice (some ⟨b59, 0, none⟩) [2, 2].length 2)]), (.bool true)]) ⟨b21, 0, rfl, Ak (t := 186) (g := true) (s := 3) (by kernel_rfl) hs66.at0 rfl (by decide), ⟨rfl, trivial⟩⟩, (.tuple #[(.agg #[(vi 0), (vi 2), (.slice (some ⟨b59, 0, none⟩) [2, 2].length 2)]), (.bool true)]), F3, rfl, hs66.clear, ⟨(some ⟨b59, 0, none⟩), 2, rfl, hb69, hs68⟩⟩
     ·refine Sq ?_
      refine Sq (Rg [0, 1] ?_)
      refine Vs 2 ?_
      refine Nt ?_
      refine SN (fun f w => ∃ (F4 : Mem), HS w0 F0 w F4 [(sb b21 #[(vi 0), (vi 0), (.slice none ([] : List Int).length 0)] 186)] /\ SG F2 F4 /\ FI f [] [(2, (pt b21 0)), (4, (vi x0)), (20, (.bool (bif (x0 == 6) then (x0 == 6) else (x0 == 7))))]) ?_ ?_
      ·refine Cp (x0 == 6) (fun hb77 => ?_) (fun hb77 => ?_)
       ·refine Sc ?_
        exact .inl ⟨rfl, F2, hs49, (SH _), (fJ ⟨rfl, rfl, (congrArg Value.bool (IC hb77 rfl)), trivial⟩)⟩
       ·refine Rg [0, 1] ?_
        refine Vs 2 ?_
        refine SC ?_
        exact .inl ⟨rfl, F2, hs49, (SH _), (fJ ⟨rfl, rfl, (congrArg Value.bool (ID hb77 rfl)), trivial⟩)⟩
      ·rintro f w70 ⟨F4, hs71, le72, ⟨_, rfl⟩⟩
       refine Ac ?_
       refine Cd h58 (fun hb78 h79 => ?_) (fun hb78 h80 => ?_)
       ·refine Sq (Rg [0, 1, 2, 3] ?_)
        refine Bs 3 [(vi 1), (vi 1)] hs71 (fun b81 w82 hs83 => ?_)
        have hr85 : Av Ci 3 F4 (some ⟨b81, 0, none⟩) 2 [1, 1] (some b81, .cells ([(vi 1), (vi 1)] : List Value).toArray 3 (0, 0)) := SX ⟨rfl, ⟨rfl, rfl⟩⟩ (by simp)
        refine Vs 1 ?_
        refine St1 #[(vi 0), (vi 2), (.slice (some ⟨b81, 0, none⟩) [1, 1].length 2)] hs83 (fun w86 hs87 => ?_)
        refine Vs 1 ?_
        refine Nt ?_
        refine Rt ?_
        refine Al ?_
        refine Aj ?_
        have hb91 := SW hr85
        obtain ⟨F5, hs88, le89, hs90⟩ := hs87.fr0 hr85
        obtain rfl := Ab h79
        exact ⟨rfl, (.tuple #[(.agg #[(vi 0), (vi 2), (.slice (some ⟨b81, 0, none⟩) [1, 1].length 2)]), (.bool true)]), AB (l := [.cell 2 186, .tmp 3]) (by kernel_rfl) (vs := [(.agg #[(vi 0), (vi 2), (.slice (some ⟨b81, 0, none⟩) [1, 1].length 2)]), (.bool true)]) ⟨b21, 0, rfl, Ak (t := 186) (g := true) (s := 3) (by kernel_rfl) hs88.at0 rfl (by decide), ⟨rfl, trivial⟩⟩, (.tuple #[(.agg #[(vi 0), (vi 2), (.slice (some ⟨b81, 0, none⟩) [1, 1].length 2)]), (.bool true)]), F5, rfl, hs88.clear, ⟨(some ⟨b81, 0, none⟩), 2, rfl, hb91, hs90⟩⟩
       ·refine Sq ?_
        refine Sq (Rg [0, 1] ?_)
        refine Vs 2 ?_
        refine Nt ?_
        refine SN (fun f w => ∃ (F6 : Mem), HS w0 F0 w F6 [(sb b21 #[(vi 0), (vi 0), (.slice none ([] : List Int).length 0)] 186)] /\ SG F4 F6 /\ FI f [] [(2, (pt b21 0)), (4, (vi x0)), (25, (.bool (bif (x0 == 8) then (x0 == 8) else (bif (x0 == 9) then (x0 == 9) else (x0 == 10)))))]) ?_ ?_
        ·refine Cp (x0 == 8) (fun hb99 => ?_) (fun hb99 => ?_)
         ·refine Sc ?_
          exact .inl ⟨rfl, F4, hs71, (SH _), (fJ ⟨rfl, rfl, (congrArg Value.bool (IC hb99 rfl)), trivial⟩)⟩
         ·refine Sq (Rg [0, 1] ?_)
          refine Vs 2 ?_
          refine Nt ?_
          refine SN (fun f w => ∃ (F7 : Mem), HS w0 F0 w F7 [(sb b21 #[(vi 0), (vi 0), (.slice none ([] : List Int).length 0)] 186)] /\ SG F4 F7 /\ FI f [] [(2, (pt b21 0)), (4, (vi x0)), (25, (.bool (bif (x0 == 9) then (x0 == 9) else (x0 == 10))))]) ?_ ?_
          ·refine Cp (x0 == 9) (fun hb107 => ?_) (fun hb107 => ?_)
           ·refine Sc ?_
            exact .inl ⟨rfl, F4, hs71, (SH _), (fJ ⟨rfl, rfl, (congrArg Value.bool (IC hb107 rfl)), trivial⟩)⟩
           ·refine Rg [0, 1] ?_
            refine Vs 2 ?_
            refine SC ?_
            exact .inl ⟨rfl, F4, hs71, (SH _), (fJ ⟨rfl, rfl, (congrArg Value.bool (ID hb107 rfl)), trivial⟩)⟩
          ·rintro f w100 ⟨F7, hs101, le102, ⟨_, rfl⟩⟩
           exact .inl ⟨rfl, F7, hs101, le102, (fJ ⟨rfl, rfl, (congrArg Value.bool (ID hb99 rfl)), trivial⟩)⟩
        ·rintro f w92 ⟨F6, hs93, le94, ⟨_, rfl⟩⟩
         refine Ac ?_
         refine Cd h80 (fun hb108 h109 => ?_) (fun hb108 h110 => ?_)
         ·refine Sq (Rg [0, 1, 2, 3] ?_)
          refine Bs 3 [(vi 1), (vi 1)] hs93 (fun b111 w112 hs113 => ?_)
          have hr115 : Av Ci 3 F6 (some ⟨b111, 0, none⟩) 2 [1, 1] (some b111, .cells ([(vi 1), (vi 1)] : List Value).toArray 3 (0, 0)) := SX ⟨rfl, ⟨rfl, rfl⟩⟩ (by simp)
          refine Vs 1 ?_
          refine St1 #[(vi 0), (vi 1), (.slice (some ⟨b111, 0, none⟩) [1, 1].length 2)] hs113 (fun w116 hs117 => ?_)
          refine Vs 1 ?_
          refine Nt ?_
          refine Rt ?_
          refine Al ?_
          refine Aj ?_
          have hb121 := SW hr115
          obtain ⟨F8, hs118, le119, hs120⟩ := hs117.fr0 hr115
          obtain rfl := Ab h109
          exact ⟨rfl, (.tuple #[(.agg #[(vi 0), (vi 1), (.slice (some ⟨b111, 0, none⟩) [1, 1].length 2)]), (.bool true)]), AB (l := [.cell 2 186, .tmp 3]) (by kernel_rfl) (vs := [(.agg #[(vi 0), (vi 1), (.slice (some ⟨b111, 0, none⟩) [1, 1].length 2)]), (.bool true)]) ⟨b21, 0, rfl, Ak (t := 186) (g := true) (s := 3) (by kernel_rfl) hs118.at0 rfl (by decide), ⟨rfl, trivial⟩⟩, (.tuple #[(.agg #[(vi 0), (vi 1), (.slice (some ⟨b111, 0, none⟩) [1, 1].length 2)]), (.bool true)]), F8, rfl, hs118.clear, ⟨(some ⟨b111, 0, none⟩), 2, rfl, hb121, hs120⟩⟩
         ·refine Sq (Rg [0, 1] ?_)
          refine Vs 2 ?_
          refine Nt ?_
          refine Cd h110 (fun hb122 h123 => ?_) (fun hb122 h124 => ?_)
          ·refine Sq (Rg [0, 1, 2, 3] ?_)
           refine Bs 3 [(vi 2), (vi 1), (vi 1)] hs93 (fun b125 w126 hs127 => ?_)
           have hr129 : Av Ci 3 F6 (some ⟨b125, 0, none⟩) 3 [2, 1, 1] (some b125, .cells ([(vi 2), (vi 1), (vi 1)] : List Value).toArray 3 (0, 0)) := SX ⟨rfl, ⟨rfl, ⟨rfl, rfl⟩⟩⟩ (by simp)
           refine Vs 1 ?_
           refine St1 #[(vi 0), (vi 1), (.slice (some ⟨b125, 0, none⟩) [2, 1, 1].length 3)] hs127 (fun w130 hs131 => ?_)
           refine Vs 1 ?_
           refine Nt ?_
           refine Rt ?_
           refine Al ?_
           refine Aj ?_
           have hb135 := SW hr129
           obtain ⟨F9, hs132, le133, hs134⟩ := hs131.fr0 hr129
           obtain rfl := Ab h123
           exact ⟨rfl, (.tuple #[(.agg #[(vi 0), (vi 1), (.slice (some ⟨b125, 0, none⟩) [2, 1, 1].length 3)]), (.bool true)]), AB (l := [.cell 2 186, .tmp 3]) (by kernel_rfl) (vs := [(.agg #[(vi 0), (vi 1), (.slice (some ⟨b125, 0, none⟩) [2, 1, 1].length 3)]), (.bool true)]) ⟨b21, 0, rfl, Ak (t := 186) (g := true) (s := 3) (by kernel_rfl) hs132.at0 rfl (by decide), ⟨rfl, trivial⟩⟩, (.tuple #[(.agg #[(vi 0), (vi 1), (.slice (some ⟨b125, 0, none⟩) [2, 1, 1].length 3)]), (.bool true)]), F9, rfl, hs132.clear, ⟨(some ⟨b125, 0, none⟩), 3, rfl, hb135, hs134⟩⟩
          ·refine Sc ?_
           refine Ax ?_
           refine Ac ?_
           refine Sq (Rg [0, 1, 2] ?_)
           refine Vs 1 ?_
           refine St0 #[(vi 0), (vi 0), (.slice none ([] : List Int).length 0)] hs93 (fun w136 hs137 => ?_)
           refine Vs 1 ?_
           refine Nt ?_
           refine Rt ?_
           obtain rfl := Ab h124
           exact ⟨rfl, (.tuple #[(.agg #[(vi 0), (vi 0), (.slice none ([] : List Int).length 0)]), (.bool false)]), AB (l := [.cell 2 186, .tmp 3]) (by kernel_rfl) (vs := [(.agg #[(vi 0), (vi 0), (.slice none ([] : List Int).length 0)]), (.bool false)]) ⟨b21, 0, rfl, Ak (t := 186) (g := true) (s := 3) (by kernel_rfl) hs137.at0 rfl (by decide), ⟨rfl, trivial⟩⟩, (.tuple #[(.agg #[(vi 0), (vi 0), (.slice none ([] : List Int).length 0)]), (.bool false)]), F6, rfl, hs137.clear, ⟨none, 0, rfl, SK, (.inl rfl)⟩⟩
def L9 (sR113 : Expr -> Option Int) : Prop := ∀ (w0 : World) (F0 : Mem) (hF : S1 w0 F0) (x0 : Expr) (a0_2 : S0) (n0_2 : Nat) (hb0_2 : LC x0.Kids.length n0_2) (hs0_2 : SlA Ar F0 a0_2 x0.Kids) (r : Int), sR113 x0 = some r -> Calls Tryz.prog 113 ([(.agg #[(.int .i64 x0.Op), (.int .i64 x0.Value), (.slice a0_2 x0.Kids.length n0_2)])] : List Value).toArray w0 (AV w0 F0 fun F' v => v = (.int .i64 r))
theorem CT : Aq Tryz.prog 113 := fun _ _ => by kernel_rfl
def Co (N : Nat) (sR113 : Expr -> Option Int) (x0 : Expr) (r24 : (BP × Bool)) : Int -> Option (Bn Int Int) := fun s53 =>
 (bif (decide (s53 < (x0.Kids.length : Int))) then ((idx x0.Kids s53).bind fun x77 => (((idx r24.1.kids_ s53).bind fun x110 => ((sR113 x77).bind fun r124 => some (r124 != x110))).bind fun j101 => (bif j101 then some (.ret 0) else some (.next (W64 (s53 + 1)))))) else some (.done s53))
def Da (N : Nat) (sR113 : Expr -> Option Int) (x0 : Expr) : Option Int :=
 ((Ef N x0.Op).bind fun r24 => (bif ((!r24.2) || ((decide (x0.Value < 0)) || ((decide (x0.Value > r24.1.most_)) || ((x0.Kids.length : Int) != (r24.1.kids_.length : Int))))) then some 0 else ((AX (Co N sR113 x0 r24) N 0).bind fun o => o.k (fun r => some r) (fun s62 => some r24.1.own_))))
theorem JL (N : Nat) (sR113 : Expr -> Option Int) (hsR113 : L9 sR113) (w0 : World) (F0 : Mem) (hF : S1 w0 F0) (x0 : Expr) (a0_2 : S0) (n0_2 : Nat) (hb0_2 : LC x0.Kids.length n0_2) (hs0_2 : SlA Ar F0 a0_2 x0.Kids) (r : Int) (h : Da N sR113 x0 = some r) :
  Calls Tryz.prog 113 ([(.agg (Ai x0 a0_2 n0_2))] : List Value).toArray w0 (AV w0 F0 fun F' v => v = (vi r)) := by
 have hs0 := SI hF
 refine Go 55 Tryz.func113 ?_
 refine Sq (Rg [0, 1] ?_)
 refine Bx' 33 (Ai x0 a0_2 n0_2) hs0 (fun b21 w22 hs23 => ?_)
 refine Vs 1 ?_
 refine Nss (Rg [0, 1, 2, 3, 4, 5, 6, 7, 8] ?_)
 refine Vs 1 ?_
 refine Ld hs23.at0 ?_
 obtain ⟨r24, hr25, h26⟩ := bind_some h
 refine Cl' JC hs23 (KA N w22 F0 hs23.pers x0.Op _ hr25) ?_
 rintro _ F1 w28 hs29 le30 ⟨ar24_0_2, nr24_0_2, rfl, hbr24_0_2, hsr24_0_2⟩
 refine Vs 3 ?_
 refine Al' 186 #[(vi 0), (vi 0), (.slice none ([] : List Int).length 0)] hs29 (fun b32 w33 hs34 => ?_)
 refine St0 (CG r24.1 ar24_0_2 nr24_0_2) hs34 (fun w35 hs36 => ?_)
 refine Vs 1 ?_
 refine Nss ?_
 refine Sq (Rg [0, 1, 2, 3, 4, 5, 6, 7, 8, 9, 10, 11, 12, 13, 14, 15, 16, 17, 18, 19, 20, 21, 22] ?_)
 refine SM (fun f w => ∃ (F2 : Mem), HS w0 F0 w F2 [(sb b32 (CG r24.1 ar24_0_2 nr24_0_2) 186), (sb b21 (Ai x0 a0_2 n0_2) 33)] /\ SG F1 F2 /\ FI f [] [(1, (pt b21 0)), (3, (pt b32 0)), (35, (.bool ((!r24.2) || ((decide (x0.Value < 0)) || ((decide (x0.Value > r24.1.most_)) || ((x0.Kids.length : Int) != (r24.1.kids_.length : Int)))))))]) ?_ ?_
 ·refine Vs 3 ?_
  refine SL (!r24.2) (fun hb44 => ?_) (fun hb44 => ?_)
  ·refine Ss hb44 3 ?_
   refine Pk1 hb44 ?_
   refine Vs 1 ?_
   refine Ss (rfl : true = true) 5 ?_
   refine Pk1 (rfl : true = true) ?_
   refine Vs 1 ?_
   refine Ss (rfl : true = true) 7 ?_
   refine Pk1 (rfl : true = true) ?_
   exact SC ⟨rfl, F1, hs36, (SH _), (fJ ⟨rfl, rfl, (congrArg Value.bool (FQ hb44 rfl)), trivial⟩)⟩
  ·refine Vgs hb44 1 ?_
   refine Lg hb44 hs36.at1 ?_
   refine Vgs hb44 1 ?_
   refine Pk0 hb44 ?_
   refine Vs 1 ?_
   refine SL (decide (x0.Value < 0)) (fun hb45 => ?_) (fun hb45 => ?_)
   ·refine Ss hb45 5 ?_
    refine Pk1 hb45 ?_
    refine Vs 1 ?_
    refine Ss (rfl : true = true) 7 ?_
    refine Pk1 (rfl : true = true) ?_
    exact SC ⟨rfl, F1, hs36, (SH _), (fJ ⟨rfl, rfl, (congrArg Value.bool (B5 hb44 (FQ hb45 rfl))), trivial⟩)⟩
   ·refine Vgs hb45 1 ?_
    refine Lg hb45 hs36.at1 ?_
    refine Vgs hb45 1 ?_
    refine Lg hb45 hs36.at0 ?_
    refine Vgs hb45 1 ?_
    refine Pk0 hb45 ?_
    refine Vs 1 ?_
    refine SL (decide (x0.Value > r24.1.most_)) (fun hb46 => ?_) (fun hb46 => ?_)
    ·refine Ss hb46 7 ?_
     refine Pk1 hb46 ?_
     exact SC ⟨rfl, F1, hs36, (SH _), (fJ ⟨rfl, rfl, (congrArg Value.bool (B5 hb44 (B5 hb45 (FQ hb46 rfl)))), trivial⟩)⟩
    ·refine Vgs hb46 1 ?_
     refine Lg hb46 hs36.at1 ?_
     refine Vgs hb46 2 ?_
     refine Lg hb46 hs36.at0 ?_
     refine Vgs hb46 2 ?_
     refine Pk0 hb46 ?_
     exact SC ⟨rfl, F1, hs36, (SH _), (fJ ⟨rfl, rfl, (congrArg Value.bool (B5 hb44 (B5 hb45 (B5 hb46 rfl)))), trivial⟩)⟩
 ·rintro f w37 ⟨F2, hs38, le39, ⟨_, rfl⟩⟩
  refine Ac ?_
  refine Cd h26 (fun hb47 h48 => ?_) (fun hb47 h49 => ?_)
  ·refine Sq (Rg [0] ?_)
   refine Vs 1 ?_
   refine Nt ?_
   refine Rt ?_
   refine Aj ?_
   obtain rfl := Ab h48
   exact Re [(vi 0)] hs38 rfl
  ·refine Sc ?_
   refine Ac ?_
   refine Sq ?_
   refine Sq (Rg [0, 1, 2, 3] ?_)
   refine Vs 1 ?_
   refine Ld hs38.at1 ?_
   refine Vs 2 ?_
   refine Nt ?_
   obtain ⟨o50, ho51, h52⟩ := bind_some h49
   refine SN (fun f w => ∃ (s62 : Int) (F4 : Mem), o50 = .done s62 /\ HS w0 F0 w F4 [(sb b32 (CG r24.1 ar24_0_2 nr24_0_2) 186)] /\ SG F2 F4 /\ FI f [] [(3, (pt b32 0))]) ?_ ?_
   ·refine Bk ?_
    refine SF (by kernel_rfl) (fun m f w => ∃ (s53 : Int) (F3 : Mem), AX (Co N sR113 x0 r24) m s53 = some o50 /\ HS w0 F0 w F3 [(sb b32 (CG r24.1 ar24_0_2 nr24_0_2) 186)] /\ SG F2 F3 /\ FI f [] [(3, (pt b32 0)), (37, (.slice a0_2 x0.Kids.length n0_2)), (38, (vi (x0.Kids.length : Int))), (39, (vi s53))]) N ⟨0, F2, ho51, hs38.dr1, (SH _), fI⟩ ?_
    rintro m68 f w54 ⟨s53, F3, hit69, hs55, le56, ⟨_, rfl⟩⟩
    obtain ⟨m70, fl71, rfl, hb72, hnx73⟩ := Bf hit69
    refine Sq (Rg [0] ?_)
    refine Vs 1 ?_
    refine Nss ?_
    refine Cd hb72 (fun hb74 h75 => ?_) (fun hb74 h76 => ?_)
    ·refine Sc ?_
     refine Ac ?_
     refine Sq ?_
     refine Bk ?_
     refine Sq (Rg [0, 1, 2, 3, 4, 5] ?_)
     refine Vs 1 ?_
     obtain ⟨x77, hx78, h80⟩ := bind_some h75
     obtain ⟨hi79, hx78'⟩ := Aw hx78
     obtain ⟨b81, o82, C83, E84, fz85, rfl, hF87, hE88⟩ := SQ (SJ hs0_2 ((le30.trans le39).trans le56)) hx78'
     obtain ⟨ae89_2, ne89_2, hc90, hbe89_2, hse89_2⟩ := (AR (hE88 _ _ hx78'))
     refine Ix hi79 ?_
     refine Lx 0 (hs55.pers _ _ hF87) hc90 ?_
     refine Al' 33 #[(vi 0), (vi 0), (.slice none ([] : List Expr).length 0)] hs55 (fun b91 w92 hs93 => ?_)
     refine Vs 1 ?_
     refine St0 (Ai x77 ae89_2 ne89_2) hs93 (fun w94 hs95 => ?_)
     refine Nss ?_
     obtain ⟨j101, hj108, h109⟩ := bind_some h80
     refine RD 8 8 [(sb b91 (Ai x77 ae89_2 ne89_2) 33), (sb b32 (CG r24.1 ar24_0_2 nr24_0_2) 186)] [] hs95 (fun f w => ∃ (F5 : Mem), HS w0 F0 w F5 [(sb b32 (CG r24.1 ar24_0_2 nr24_0_2) 186)] /\ SG F3 F5 /\ FI f [] [(3, (pt b32 0)), (37, (.slice (some ⟨b81, o82, none⟩) x0.Kids.length n0_2)), (38, (vi (x0.Kids.length : Int))), (39, (vi s53)), (51, (.bool j101))]) (fun wd96 hw97 => ?_) ?_
     ·refine Dl 0 (fun _ hq => (hq.1.2 0 _ _ rfl)) ?_
      refine Dv [2] ?_
      refine Dl 3 (fun _ hq => (hq.1.2 1 _ _ rfl)) ?_
      refine Dv [4] ?_
      obtain ⟨x110, hx111, h113⟩ := bind_some hj108
      obtain ⟨hi112, hx111'⟩ := Aw hx111
      obtain ⟨b114, o115, C116, E117, fz118, rfl, hF120, hE121⟩ := SQ (SJ hsr24_0_2 (le39.trans le56)) hx111'
      have hc123 := hE121 _ _ hx111'
      refine Di 5 hi112 ?_
      refine Dx 6 0 (fun _ hq => hq.1.1 _ _ hF120) hc123 ?_
      refine D1 1 ?_
      obtain ⟨r124, hr125, h126⟩ := bind_some h113
      refine DCl CT hw97 (hsR113 wd96 F3 hw97.pers x77 ae89_2 ne89_2 hbe89_2 hse89_2 _ hr125) ?_
      rintro _ F6 w128 hs129 le130 rfl
      refine Dv [7] ?_
      obtain rfl := Ab h126
      exact SV (by kernel_rfl) ⟨F6, hs129.dr0, le130, fI⟩
     ·rintro f w98 ⟨F5, hs99, le100, ⟨_, rfl⟩⟩
      refine Ac ?_
      refine Cd h109 (fun hb132 h133 => ?_) (fun hb132 h134 => ?_)
      ·refine Sq (Rg [0] ?_)
       refine Vs 1 ?_
       refine Nt ?_
       refine Rt ?_
       refine Al ?_
       refine Aj ?_
       refine Aj ?_
       refine Al ?_
       have hret := Cs h133 hnx73
       subst hret
       refine .inr ?_
       refine Aj ?_
       obtain rfl := Ab h52
       exact Re [(vi 0)] hs99 rfl
      ·refine Sc ?_
       refine Ax ?_
       refine Ac ?_
       refine Rg [0, 1] ?_
       refine Vs 2 ?_
       refine SC ?_
       have hn135 := A8 h134 hnx73
       exact ⟨m70, Nat.lt_succ_self _, (W64 (s53 + 1)), F5, hn135, hs99, (le56.trans le100), fI⟩
    ·refine Ex ?_
     refine AF ?_
     refine AF ?_
     refine AZ rfl ?_
     have ho136 := Bm h76 hnx73
     exact .inl ⟨rfl, s53, F3, ho136, hs55, le56, fI⟩
   ·rintro f w63 ⟨s62, F4, rfl, hs64, le65, ⟨_, rfl⟩⟩
    have h137 := Cu h52
    refine Ac ?_
    refine Sq (Rg [0, 1, 2] ?_)
    refine Vs 1 ?_
    refine Ld hs64.at0 ?_
    refine Vs 1 ?_
    refine Nt ?_
    refine Rt ?_
    obtain rfl := Ab h137
    exact Re [(vi r24.1.own_)] hs64 rfl
structure Rv where
 q113 : Expr -> Option Int
def Hm (N : Nat) : Nat -> Rv
 | 0 => ⟨fun _ => none⟩
 | k + 1 => ⟨Da N (Hm N k).q113⟩
theorem Le (N : Nat) : ∀ k, L9 (Hm N k).q113
 | 0 => (by unfold L9; intros; rename_i h; cases h)
 | k + 1 => by
  have ih := Le N k
  exact @JL N (Hm N k).q113 ih
def Db (N : Nat) (x0 : Expr) : Option Int := (Hm N N).q113 x0
theorem ED (N : Nat) (w0 : World) (F0 : Mem) (hF : S1 w0 F0) (x0 : Expr) (a0_2 : S0) (n0_2 : Nat) (hb0_2 : LC x0.Kids.length n0_2) (hs0_2 : SlA Ar F0 a0_2 x0.Kids) (r : Int) (h : Db N x0 = some r) :
  Calls Tryz.prog 113 ([(.agg #[(.int .i64 x0.Op), (.int .i64 x0.Value), (.slice a0_2 x0.Kids.length n0_2)])] : List Value).toArray w0 (AV w0 F0 fun F' v => v = (.int .i64 r)) := (Le N N) w0 F0 hF x0 a0_2 n0_2 hb0_2 hs0_2 r h

def Fx (N : Nat) (sR117 : Expr -> Option Int) (sR170 : Expr -> Int -> Option Bool) (sR171 : Expr -> Int -> Option Bool) (x0 : Expr) : Option Int :=
 ((bif (x0.Op == 1) then some ((((x0.Kids.length : Int) == 0) && ((decide (x0.Value >= 0)) && (decide (x0.Value <= 1000000)))), false) else ((bif (x0.Op == 2) then some ((((x0.Kids.length : Int) == 0) && ((decide (x0.Value >= 0)) && (decide (x0.Value < 14)))), false) else ((bif (x0.Op == 3) then ((sR170 x0 1).bind fun r76 => some (false, r76)) else ((bif (bif (x0.Op == 4) then (x0.Op == 4) else (x0.Op == 5)) then ((sR170 x0 2).bind fun r106 => some (false, r106)) else ((bif (bif (x0.Op == 6) then (x0.Op == 6) else (x0.Op == 7)) then ((sR171 x0 2).bind fun r136 => some (false, r136)) else ((bif (bif (x0.Op == 8) then (x0.Op == 8) else (bif (x0.Op == 9) then (x0.Op == 9) else (x0.Op == 10))) then ((sR171 x0 2).bind fun r176 => some r176) else ((bif (x0.Op == 11) then ((bif (x0.Value == 0) then (bif ((x0.Kids.length : Int) == 3) then ((idx x0.Kids 0).bind fun x211 => ((sR117 x211).bind fun r225 => (bif (r225 == 2) then ((idx x0.Kids 1).bind fun x236 => ((sR117 x236).bind fun r242 => (bif (r242 == 1) then ((idx x0.Kids 2).bind fun x253 => ((sR117 x253).bind fun r259 => some (r259 == 1))) else some false))) else some false))) else some false) else some false).bind fun j199 => some j199) else some false).bind fun j187 => some j187)).bind fun j167 => some (j167, false))).bind fun j127 => some (j127.1, j127.2))).bind fun j97 => some (j97.1, j97.2))).bind fun j67 => some (j67.1, j67.2))).bind fun j47 => some (j47.1, j47.2))).bind fun j27 => (bif j27.1 then some 1 else (bif j27.2 then some 2 else some 0)))
def FJ (N : Nat) (sR117 : Expr -> Option Int) (x0 : Expr) (x1 : Int) : Int -> Option (Bn Bool Int) := fun s38 =>
 (bif (decide (s38 < x1)) then ((idx x0.Kids s38).bind fun x60 => ((sR117 x60).bind fun r74 => (bif (r74 != 2) then some (.ret false) else some (.next (W64 (s38 + 1)))))) else some (.done s38))
def Es (N : Nat) (sR117 : Expr -> Option Int) (x0 : Expr) (x1 : Int) : Option Bool :=
 (bif (((x0.Kids.length : Int) != x1) || (x0.Value != 0)) then some false else ((AX (FJ N sR117 x0 x1) N 0).bind fun o => o.k (fun r => some r) (fun s46 => some true)))
def Fd (N : Nat) (sR117 : Expr -> Option Int) (x0 : Expr) (x1 : Int) : Int -> Option (Bn Bool Int) := fun s38 =>
 (bif (decide (s38 < x1)) then ((idx x0.Kids s38).bind fun x60 => ((sR117 x60).bind fun r74 => (bif (r74 != 1) then some (.ret false) else some (.next (W64 (s38 + 1)))))) else some (.done s38))
def D3 (N : Nat) (sR117 : Expr -> Option Int) (x0 : Expr) (x1 : Int) : Option Bool :=
 (bif (((x0.Kids.length : Int) != x1) || (x0.Value != 0)) then some false else ((AX (Fd N sR117 x0 x1) N 0).bind fun o => o.k (fun r => some r) (fun s46 => some true)))
structure Ru where
 q117 : Expr -> Option Int
 q170 : Expr -> Int -> Option Bool
 q171 : Expr -> Int -> Option Bool
def CL (N : Nat) : Nat -> Ru
 | 0 => ⟨fun _ => none, fun _ _ => none, fun _ _ => none⟩
 | k + 1 => ⟨Fx N (CL N k).q117 (CL N k).q170 (CL N k).q171, Es N (CL N k).q117, D3 N (CL N k).q117⟩
def J0 (N : Nat) (x0 : Expr) : Option Int := (CL N N).q117 x0
def NN (sR32 : Expr -> Option Int) : Prop := ∀ (w0 : World) (F0 : Mem) (hF : S1 w0 F0) (x0 : Expr) (a0_2 : S0) (n0_2 : Nat) (hb0_2 : LC x0.Kids.length n0_2) (hs0_2 : SlA Ar F0 a0_2 x0.Kids) (r : Int), sR32 x0 = some r -> Calls Tryz.prog 32 ([(.agg #[(.int .i64 x0.Op), (.int .i64 x0.Value), (.slice a0_2 x0.Kids.length n0_2)])] : List Value).toArray w0 (AV w0 F0 fun F' v => v = (.int .i64 r))
theorem Dk : Aq Tryz.prog 32 := fun _ _ => by kernel_rfl
def Gd (N : Nat) (sR32 : Expr -> Option Int) (x0 : Expr) : (Int × Int) -> Option (Bn Int (Int × Int)) := fun s27 =>
 (bif (decide (s27.2 < (x0.Kids.length : Int))) then ((idx x0.Kids s27.2).bind fun x51 => ((sR32 x51).bind fun r70 => some (.next ((max s27.1 r70), (W64 (s27.2 + 1)))))) else some (.done (s27.1, s27.2)))
def DH (N : Nat) (sR32 : Expr -> Option Int) (x0 : Expr) : Option Int :=
 ((AX (Gd N sR32 x0) N (0, 0)).bind fun o => o.k (fun r => some r) (fun s36 => some (W64 (s36.1 + 1))))
theorem KF (N : Nat) (sR32 : Expr -> Option Int) (hsR32 : NN sR32) (w0 : World) (F0 : Mem) (hF : S1 w0 F0) (x0 : Expr) (a0_2 : S0) (n0_2 : Nat) (hb0_2 : LC x0.Kids.length n0_2) (hs0_2 : SlA Ar F0 a0_2 x0.Kids) (r : Int) (h : DH N sR32 x0 = some r) :
  Calls Tryz.prog 32 ([(.agg (Ai x0 a0_2 n0_2))] : List Value).toArray w0 (AV w0 F0 fun F' v => v = (vi r)) := by
 have hs0 := SI hF
 refine Go 20 Tryz.func32 ?_
 refine Sq (Rg [0, 1] ?_)
 refine Bx' 33 (Ai x0 a0_2 n0_2) hs0 (fun b21 w22 hs23 => ?_)
 refine Vs 1 ?_
 refine Nss (Rg [0] ?_)
 refine Vs 1 ?_
 refine Nss ?_
 refine Sq (Rg [0, 1, 2, 3] ?_)
 refine Vs 1 ?_
 refine Ld hs23.at0 ?_
 refine Vs 2 ?_
 refine Nt ?_
 obtain ⟨o24, ho25, h26⟩ := bind_some h
 refine SN (fun f w => ∃ (s36 : (Int × Int)) (F2 : Mem), o24 = .done s36 /\ HS w0 F0 w F2 [] /\ SG F0 F2 /\ FI f [] [(3, (vi s36.1))]) ?_ ?_
 ·refine Bk ?_
  refine SF (by kernel_rfl) (fun m f w => ∃ (s27 : (Int × Int)) (F1 : Mem), AX (Gd N sR32 x0) m s27 = some o24 /\ HS w0 F0 w F1 [] /\ SG F0 F1 /\ FI f [] [(3, (vi s27.1)), (7, (.slice a0_2 x0.Kids.length n0_2)), (8, (vi (x0.Kids.length : Int))), (9, (vi s27.2))]) N ⟨(0, 0), F0, ho25, hs23.dr0, (SH _), fI⟩ ?_
  rintro m42 f w28 ⟨s27, F1, hit43, hs29, le30, ⟨_, rfl⟩⟩
  obtain ⟨m44, fl45, rfl, hb46, hnx47⟩ := Bf hit43
  refine Sq (Rg [0] ?_)
  refine Vs 1 ?_
  refine Nss ?_
  refine Cd hb46 (fun hb48 h49 => ?_) (fun hb48 h50 => ?_)
  ·refine Sc ?_
   refine Ac ?_
   refine Sq ?_
   refine Bk ?_
   refine Sq (Rg [0, 1, 2, 3] ?_)
   obtain ⟨x51, hx52, h54⟩ := bind_some h49
   obtain ⟨hi53, hx52'⟩ := Aw hx52
   obtain ⟨b55, o56, C57, E58, fz59, rfl, hF61, hE62⟩ := SQ (SJ hs0_2 le30) hx52'
   obtain ⟨ae63_2, ne63_2, hc64, hbe63_2, hse63_2⟩ := (AR (hE62 _ _ hx52'))
   refine Ix hi53 ?_
   refine Lx 0 (hs29.pers _ _ hF61) hc64 ?_
   refine Al' 33 #[(vi 0), (vi 0), (.slice none ([] : List Expr).length 0)] hs29 (fun b65 w66 hs67 => ?_)
   refine St0 (Ai x51 ae63_2 ne63_2) hs67 (fun w68 hs69 => ?_)
   refine Nt ?_
   refine Rg [0, 1, 2, 3, 4] ?_
   refine Vs 1 ?_
   refine Ld hs69.at0 ?_
   obtain ⟨r70, hr71, h72⟩ := bind_some h54
   refine Cl' Dk hs69 (hsR32 w68 F1 hs69.pers x51 ae63_2 ne63_2 hbe63_2 hse63_2 _ hr71) ?_
   rintro _ F3 w74 hs75 le76 rfl
   refine Vs 2 ?_
   refine SC ?_
   refine Ax ?_
   refine Ac ?_
   refine Rg [0, 1] ?_
   refine Vs 2 ?_
   refine SC ?_
   have hn78 := A8 h72 hnx47
   exact ⟨m44, Nat.lt_succ_self _, ((max s27.1 r70), (W64 (s27.2 + 1))), F3, hn78, hs75.dr0, (le30.trans le76), fI⟩
  ·refine Ex ?_
   refine AF ?_
   refine AF ?_
   refine AZ rfl ?_
   have ho79 := Bm h50 hnx47
   exact .inl ⟨rfl, (s27.1, s27.2), F1, ho79, hs29, le30, fI⟩
 ·rintro f w37 ⟨s36, F2, rfl, hs38, le39, ⟨_, rfl⟩⟩
  have h80 := Cu h26
  refine Ac ?_
  refine Sq (Rg [0, 1, 2] ?_)
  refine Vs 3 ?_
  refine Nt ?_
  refine Rt ?_
  obtain rfl := Ab h80
  exact Re [(vi (W64 (s36.1 + 1)))] hs38 rfl
structure R8 where
 q32 : Expr -> Option Int
def J4 (N : Nat) : Nat -> R8
 | 0 => ⟨fun _ => none⟩
 | k + 1 => ⟨DH N (J4 N k).q32⟩
theorem Mz (N : Nat) : ∀ k, NN (J4 N k).q32
 | 0 => (by unfold NN; intros; rename_i h; cases h)
 | k + 1 => by
  have ih := Mz N k
  exact @KF N (J4 N k).q32 ih
def DM (N : Nat) (x0 : Expr) : Option Int := (J4 N N).q32 x0
theorem E5 (N : Nat) (w0 : World) (F0 : Mem) (hF : S1 w0 F0) (x0 : Expr) (a0_2 : S0) (n0_2 : Nat) (hb0_2 : LC x0.Kids.length n0_2) (hs0_2 : SlA Ar F0 a0_2 x0.Kids) (r : Int) (h : DM N x0 = some r) :
  Calls Tryz.prog 32 ([(.agg #[(.int .i64 x0.Op), (.int .i64 x0.Value), (.slice a0_2 x0.Kids.length n0_2)])] : List Value).toArray w0 (AV w0 F0 fun F' v => v = (.int .i64 r)) := (Mz N N) w0 F0 hF x0 a0_2 n0_2 hb0_2 hs0_2 r h

def J1 (N : Nat) (sR77 : Expr -> Option Int) (x0 : Expr) : (Int × Int) -> Option (Bn Int (Int × Int)) := fun s27 =>
 (bif (decide (s27.2 < (x0.Kids.length : Int))) then ((idx x0.Kids s27.2).bind fun x50 => ((sR77 x50).bind fun r64 => some (.next ((max s27.1 r64), (W64 (s27.2 + 1)))))) else some (.done (s27.1, s27.2)))
def EY (N : Nat) (sR77 : Expr -> Option Int) (x0 : Expr) : Option Int :=
 ((AX (J1 N sR77 x0) N (0, 0)).bind fun o => o.k (fun r => some r) (fun s35 => some (W64 (s35.1 + 1))))
structure R7 where
 q77 : Expr -> Option Int
def My (N : Nat) : Nat -> R7
 | 0 => ⟨fun _ => none⟩
 | k + 1 => ⟨EY N (My N k).q77⟩
def Jm (N : Nat) (x0 : Expr) : Option Int := (My N N).q77 x0
def NL (sR92 : Expr -> Option Int) : Prop := ∀ (w0 : World) (F0 : Mem) (hF : S1 w0 F0) (x0 : Expr) (a0_2 : S0) (n0_2 : Nat) (hb0_2 : LC x0.Kids.length n0_2) (hs0_2 : SlA Ar F0 a0_2 x0.Kids) (r : Int), sR92 x0 = some r -> Calls Tryz.prog 92 ([(.agg #[(.int .i64 x0.Op), (.int .i64 x0.Value), (.slice a0_2 x0.Kids.length n0_2)])] : List Value).toArray w0 (AV w0 F0 fun F' v => v = (.int .i64 r))
theorem Gy : Aq Tryz.prog 92 := fun _ _ => by kernel_rfl
def Gg (N : Nat) (sR92 : Expr -> Option Int) (x0 : Expr) : (Int × Int) -> Option (Bn Int (Int × Int)) := fun s27 =>
 (bif (decide (s27.2 < (x0.Kids.length : Int))) then ((idx x0.Kids s27.2).bind fun x50 => ((sR92 x50).bind fun r64 => some (.next ((W64 (s27.1 + r64)), (W64 (s27.2 + 1)))))) else some (.done (s27.1, s27.2)))
def DI (N : Nat) (sR92 : Expr -> Option Int) (x0 : Expr) : Option Int :=
 ((AX (Gg N sR92 x0) N (1, 0)).bind fun o => o.k (fun r => some r) (fun s35 => some s35.1))
theorem KG (N : Nat) (sR92 : Expr -> Option Int) (hsR92 : NL sR92) (w0 : World) (F0 : Mem) (hF : S1 w0 F0) (x0 : Expr) (a0_2 : S0) (n0_2 : Nat) (hb0_2 : LC x0.Kids.length n0_2) (hs0_2 : SlA Ar F0 a0_2 x0.Kids) (r : Int) (h : DI N sR92 x0 = some r) :
  Calls Tryz.prog 92 ([(.agg (Ai x0 a0_2 n0_2))] : List Value).toArray w0 (AV w0 F0 fun F' v => v = (vi r)) := by
 have hs0 := SI hF
 refine Go 21 Tryz.func92 ?_
 refine Sq (Rg [0, 1] ?_)
 refine Bx' 33 (Ai x0 a0_2 n0_2) hs0 (fun b21 w22 hs23 => ?_)
 refine Vs 1 ?_
 refine Nss (Rg [0] ?_)
 refine Vs 1 ?_
 refine Nss ?_
 refine Sq (Rg [0] ?_)
 refine Vs 1 ?_
 refine Nt ?_
 obtain ⟨o24, ho25, h26⟩ := bind_some h
 refine SN (fun f w => ∃ (s35 : (Int × Int)) (F2 : Mem), o24 = .done s35 /\ HS w0 F0 w F2 [] /\ SG F0 F2 /\ FI f [] [(3, (vi s35.1))]) ?_ ?_
 ·refine Bk ?_
  refine SF (by kernel_rfl) (fun m f w => ∃ (s27 : (Int × Int)) (F1 : Mem), AX (Gg N sR92 x0) m s27 = some o24 /\ HS w0 F0 w F1 [(sb b21 (Ai x0 a0_2 n0_2) 33)] /\ SG F0 F1 /\ FI f [] [(1, (pt b21 0)), (3, (vi s27.1)), (4, (vi s27.2))]) N ⟨(1, 0), F0, ho25, hs23, (SH _), fI⟩ ?_
  rintro m41 f w28 ⟨s27, F1, hit42, hs29, le30, ⟨_, rfl⟩⟩
  obtain ⟨m43, fl44, rfl, hb45, hnx46⟩ := Bf hit42
  refine Sq ?_
  refine Sq (Rg [0, 1, 2, 3, 4] ?_)
  refine Vs 2 ?_
  refine Ld hs29.at0 ?_
  refine Vs 2 ?_
  refine Nt ?_
  refine Cd hb45 (fun hb47 h48 => ?_) (fun hb47 h49 => ?_)
  ·refine Sc ?_
   refine Ac ?_
   refine Sq ?_
   refine Bk ?_
   refine Rg [0, 1, 2, 3, 4, 5, 6, 7, 8] ?_
   refine Vs 2 ?_
   refine Ld hs29.at0 ?_
   refine Vs 1 ?_
   obtain ⟨x50, hx51, h53⟩ := bind_some h48
   obtain ⟨hi52, hx51'⟩ := Aw hx51
   obtain ⟨b54, o55, C56, E57, fz58, rfl, hF60, hE61⟩ := SQ (SJ hs0_2 le30) hx51'
   obtain ⟨ae62_2, ne62_2, hc63, hbe62_2, hse62_2⟩ := (AR (hE61 _ _ hx51'))
   refine Ix hi52 ?_
   refine Lx 0 (hs29.pers _ _ hF60) hc63 ?_
   obtain ⟨r64, hr65, h66⟩ := bind_some h53
   refine Cl' Gy hs29 (hsR92 w28 F1 hs29.pers x50 ae62_2 ne62_2 hbe62_2 hse62_2 _ hr65) ?_
   rintro _ F3 w68 hs69 le70 rfl
   refine Vs 2 ?_
   refine SC ?_
   refine Ax ?_
   refine Ac ?_
   refine Rg [0, 1, 2] ?_
   refine Vs 3 ?_
   refine SC ?_
   have hn72 := A8 h66 hnx46
   exact ⟨m43, Nat.lt_succ_self _, ((W64 (s27.1 + r64)), (W64 (s27.2 + 1))), F3, hn72, hs69, (le30.trans le70), fI⟩
  ·refine Ex ?_
   refine AF ?_
   refine AF ?_
   refine AZ rfl ?_
   have ho73 := Bm h49 hnx46
   exact .inl ⟨rfl, (s27.1, s27.2), F1, ho73, hs29.dr0, le30, fI⟩
 ·rintro f w36 ⟨s35, F2, rfl, hs37, le38, ⟨_, rfl⟩⟩
  have h74 := Cu h26
  refine Ac ?_
  refine Sq (Rg [0, 1] ?_)
  refine Vs 2 ?_
  refine Nt ?_
  refine Rt ?_
  obtain rfl := Ab h74
  exact Re [(vi s35.1)] hs37 rfl
structure R6 where
 q92 : Expr -> Option Int
def J3 (N : Nat) : Nat -> R6
 | 0 => ⟨fun _ => none⟩
 | k + 1 => ⟨DI N (J3 N k).q92⟩
theorem Mx (N : Nat) : ∀ k, NL (J3 N k).q92
 | 0 => (by unfold NL; intros; rename_i h; cases h)
 | k + 1 => by
  have ih := Mx N k
  exact @KG N (J3 N k).q92 ih
def Gh (N : Nat) (x0 : Expr) : Option Int := (J3 N N).q92 x0
theorem KY (N : Nat) (w0 : World) (F0 : Mem) (hF : S1 w0 F0) (x0 : Expr) (a0_2 : S0) (n0_2 : Nat) (hb0_2 : LC x0.Kids.length n0_2) (hs0_2 : SlA Ar F0 a0_2 x0.Kids) (r : Int) (h : Gh N x0 = some r) :
  Calls Tryz.prog 92 ([(.agg #[(.int .i64 x0.Op), (.int .i64 x0.Value), (.slice a0_2 x0.Kids.length n0_2)])] : List Value).toArray w0 (AV w0 F0 fun F' v => v = (.int .i64 r)) := (Mx N N) w0 F0 hF x0 a0_2 n0_2 hb0_2 hs0_2 r h
def NO (sR27 : Expr -> Expr -> Option Bool) : Prop := ∀ (w0 : World) (F0 : Mem) (hF : S1 w0 F0) (x0 : Expr) (a0_2 : S0) (n0_2 : Nat) (hb0_2 : LC x0.Kids.length n0_2) (hs0_2 : SlA Ar F0 a0_2 x0.Kids) (x1 : Expr) (a1_2 : S0) (n1_2 : Nat) (hb1_2 : LC x1.Kids.length n1_2) (hs1_2 : SlA Ar F0 a1_2 x1.Kids) (r : Bool), sR27 x0 x1 = some r -> Calls Tryz.prog 27 ([(.agg #[(.int .i64 x0.Op), (.int .i64 x0.Value), (.slice a0_2 x0.Kids.length n0_2)]), (.agg #[(.int .i64 x1.Op), (.int .i64 x1.Value), (.slice a1_2 x1.Kids.length n1_2)])] : List Value).toArray w0 (AV w0 F0 fun F' v => v = (.bool r))
theorem EA : Aq Tryz.prog 27 := fun _ _ => by kernel_rfl
def CE (N : Nat) (sR27 : Expr -> Expr -> Option Bool) (x0 : Expr) (x1 : Expr) : Int -> Option (Bn Bool Int) := fun s42 =>
 (bif (decide (s42 < (x0.Kids.length : Int))) then (((idx x0.Kids s42).bind fun x77 => ((idx x1.Kids s42).bind fun x91 => ((sR27 x77 x91).bind fun r105 => some (!r105)))).bind fun j69 => (bif j69 then some (.ret false) else some (.next (W64 (s42 + 1))))) else some (.done s42))
def DJ (N : Nat) (sR27 : Expr -> Expr -> Option Bool) (x0 : Expr) (x1 : Expr) : Option Bool :=
 (bif ((x0.Op != x1.Op) || ((x0.Value != x1.Value) || ((x0.Kids.length : Int) != (x1.Kids.length : Int)))) then some false else ((AX (CE N sR27 x0 x1) N 0).bind fun o => o.k (fun r => some r) (fun s50 => some true)))
theorem KH (N : Nat) (sR27 : Expr -> Expr -> Option Bool) (hsR27 : NO sR27) (w0 : World) (F0 : Mem) (hF : S1 w0 F0) (x0 : Expr) (a0_2 : S0) (n0_2 : Nat) (hb0_2 : LC x0.Kids.length n0_2) (hs0_2 : SlA Ar F0 a0_2 x0.Kids) (x1 : Expr) (a1_2 : S0) (n1_2 : Nat) (hb1_2 : LC x1.Kids.length n1_2) (hs1_2 : SlA Ar F0 a1_2 x1.Kids) (r : Bool) (h : DJ N sR27 x0 x1 = some r) :
  Calls Tryz.prog 27 ([(.agg (Ai x0 a0_2 n0_2)), (.agg (Ai x1 a1_2 n1_2))] : List Value).toArray w0 (AV w0 F0 fun F' v => v = (.bool r)) := by
 have hs0 := SI hF
 refine Go 46 Tryz.func27 ?_
 refine Sq (Rg [0, 1, 2] ?_)
 refine Bx' 33 (Ai x0 a0_2 n0_2) hs0 (fun b21 w22 hs23 => ?_)
 refine Bx' 33 (Ai x1 a1_2 n1_2) hs23 (fun b24 w25 hs26 => ?_)
 refine Vs 1 ?_
 refine Nss ?_
 refine Sq (Rg [0, 1, 2, 3, 4, 5, 6, 7, 8, 9, 10, 11, 12, 13, 14, 15, 16, 17, 18, 19, 20] ?_)
 refine SM (fun f w => ∃ (F1 : Mem), HS w0 F0 w F1 [(sb b24 (Ai x1 a1_2 n1_2) 33), (sb b21 (Ai x0 a0_2 n0_2) 33)] /\ SG F0 F1 /\ FI f [] [(2, (pt b21 0)), (3, (pt b24 0)), (26, (.bool ((x0.Op != x1.Op) || ((x0.Value != x1.Value) || ((x0.Kids.length : Int) != (x1.Kids.length : Int))))))]) ?_ ?_
 ·refine Vs 1 ?_
  refine Ld hs26.at1 ?_
  refine Vs 1 ?_
  refine Ld hs26.at0 ?_
  refine Vs 2 ?_
  refine SL (x0.Op != x1.Op) (fun hb34 => ?_) (fun hb34 => ?_)
  ·refine Ss hb34 5 ?_
   refine Pk1 hb34 ?_
   refine Vs 1 ?_
   refine Ss (rfl : true = true) 7 ?_
   refine Pk1 (rfl : true = true) ?_
   exact SC ⟨rfl, F0, hs26, (SH _), (fJ ⟨rfl, rfl, (congrArg Value.bool (FQ hb34 rfl)), trivial⟩)⟩
  ·refine Vgs hb34 1 ?_
   refine Lg hb34 hs26.at1 ?_
   refine Vgs hb34 1 ?_
   refine Lg hb34 hs26.at0 ?_
   refine Vgs hb34 1 ?_
   refine Pk0 hb34 ?_
   refine Vs 1 ?_
   refine SL (x0.Value != x1.Value) (fun hb35 => ?_) (fun hb35 => ?_)
   ·refine Ss hb35 7 ?_
    refine Pk1 hb35 ?_
    exact SC ⟨rfl, F0, hs26, (SH _), (fJ ⟨rfl, rfl, (congrArg Value.bool (B5 hb34 (FQ hb35 rfl))), trivial⟩)⟩
   ·refine Vgs hb35 1 ?_
    refine Lg hb35 hs26.at1 ?_
    refine Vgs hb35 2 ?_
    refine Lg hb35 hs26.at0 ?_
    refine Vgs hb35 2 ?_
    refine Pk0 hb35 ?_
    exact SC ⟨rfl, F0, hs26, (SH _), (fJ ⟨rfl, rfl, (congrArg Value.bool (B5 hb34 (B5 hb35 rfl))), trivial⟩)⟩
 ·rintro f w27 ⟨F1, hs28, le29, ⟨_, rfl⟩⟩
  refine Ac ?_
  refine Cd h (fun hb36 h37 => ?_) (fun hb36 h38 => ?_)
  ·refine Sq (Rg [0] ?_)
   refine Vs 1 ?_
   refine Nt ?_
   refine Rt ?_
   refine Aj ?_
   obtain rfl := Ab h37
   exact Re [(.bool false)] hs28 rfl
  ·refine Sc ?_
   refine Ac ?_
   refine Sq ?_
   refine Sq (Rg [0] ?_)
   refine Vs 1 ?_
   refine Nt ?_
   obtain ⟨o39, ho40, h41⟩ := bind_some h38
   refine SN (fun f w => ∃ (s50 : Int) (F3 : Mem), o39 = .done s50 /\ HS w0 F0 w F3 [] /\ SG F1 F3 /\ FI f [] []) ?_ ?_
   ·refine Bk ?_
    refine SF (by kernel_rfl) (fun m f w => ∃ (s42 : Int) (F2 : Mem), AX (CE N sR27 x0 x1) m s42 = some o39 /\ HS w0 F0 w F2 [(sb b24 (Ai x1 a1_2 n1_2) 33), (sb b21 (Ai x0 a0_2 n0_2) 33)] /\ SG F1 F2 /\ FI f [] [(2, (pt b21 0)), (3, (pt b24 0)), (5, (vi s42))]) N ⟨0, F1, ho40, hs28, (SH _), fI⟩ ?_
    rintro m55 f w43 ⟨s42, F2, hit56, hs44, le45, ⟨_, rfl⟩⟩
    obtain ⟨m57, fl58, rfl, hb59, hnx60⟩ := Bf hit56
    refine Sq ?_
    refine Sq (Rg [0, 1, 2, 3, 4] ?_)
    refine Vs 2 ?_
    refine Ld hs44.at1 ?_
    refine Vs 2 ?_
    refine Nt ?_
    refine Cd hb59 (fun hb61 h62 => ?_) (fun hb61 h63 => ?_)
    ·refine Sc ?_
     refine Ac ?_
     refine Sq ?_
     refine Bk ?_
     refine Sq ?_
     obtain ⟨j69, hj75, h76⟩ := bind_some h62
     refine RD 12 12 [(sb b24 (Ai x1 a1_2 n1_2) 33), (sb b21 (Ai x0 a0_2 n0_2) 33)] [] hs44 (fun f w => ∃ (F4 : Mem), HS w0 F0 w F4 [(sb b24 (Ai x1 a1_2 n1_2) 33), (sb b21 (Ai x0 a0_2 n0_2) 33)] /\ SG F2 F4 /\ FI f [] [(2, (pt b21 0)), (3, (pt b24 0)), (5, (vi s42)), (45, (.bool j69))]) (fun wd64 hw65 => ?_) ?_
     ·refine Dv [0] ?_
      refine Dl 1 (fun _ hq => (hq.1.2 1 _ _ rfl)) ?_
      refine Dv [2] ?_
      obtain ⟨x77, hx78, h80⟩ := bind_some hj75
      obtain ⟨hi79, hx78'⟩ := Aw hx78
      obtain ⟨b81, o82, C83, E84, fz85, rfl, hF87, hE88⟩ := SQ (SJ hs0_2 (le29.trans le45)) hx78'
      obtain ⟨ae89_2, ne89_2, hc90, hbe89_2, hse89_2⟩ := (AR (hE88 _ _ hx78'))
      refine Di 3 hi79 ?_
      refine Dx 4 0 (fun _ hq => hq.1.1 _ _ hF87) hc90 ?_
      refine Dv [5] ?_
      refine Dl 6 (fun _ hq => (hq.1.2 0 _ _ rfl)) ?_
      refine Dv [7] ?_
      obtain ⟨x91, hx92, h94⟩ := bind_some h80
      obtain ⟨hi93, hx92'⟩ := Aw hx92
      obtain ⟨b95, o96, C97, E98, fz99, rfl, hF101, hE102⟩ := SQ (SJ hs1_2 (le29.trans le45)) hx92'
      obtain ⟨ae103_2, ne103_2, hc104, hbe103_2, hse103_2⟩ := (AR (hE102 _ _ hx92'))
      refine Di 8 hi93 ?_
      refine Dx 9 0 (fun _ hq => hq.1.1 _ _ hF101) hc104 ?_
      refine D1 10 ?_
      obtain ⟨r105, hr106, h107⟩ := bind_some h94
      refine DCl EA hw65 (hsR27 wd64 F2 hw65.pers x77 ae89_2 ne89_2 hbe89_2 hse89_2 x91 ae103_2 ne103_2 hbe103_2 hse103_2 _ hr106) ?_
      rintro _ F5 w109 hs110 le111 rfl
      refine Dv [11] ?_
      obtain rfl := Ab h107
      exact SV (by kernel_rfl) ⟨F5, hs110, le111, fI⟩
     ·rintro f w66 ⟨F4, hs67, le68, ⟨_, rfl⟩⟩
      refine Ac ?_
      refine Cd h76 (fun hb113 h114 => ?_) (fun hb113 h115 => ?_)
      ·refine Sq (Rg [0] ?_)
       refine Vs 1 ?_
       refine Nt ?_
       refine Rt ?_
       refine Al ?_
       refine Aj ?_
       refine Aj ?_
       refine Al ?_
       have hret := Cs h114 hnx60
       subst hret
       refine .inr ?_
       refine Aj ?_
       obtain rfl := Ab h41
       exact Re [(.bool false)] hs67 rfl
      ·refine Sc ?_
       refine Ax ?_
       refine Ac ?_
       refine Rg [0, 1, 2] ?_
       refine Vs 3 ?_
       refine SC ?_
       have hn116 := A8 h115 hnx60
       exact ⟨m57, Nat.lt_succ_self _, (W64 (s42 + 1)), F4, hn116, hs67, (le45.trans le68), fI⟩
    ·refine Ex ?_
     refine AF ?_
     refine AF ?_
     refine AZ rfl ?_
     have ho117 := Bm h63 hnx60
     exact .inl ⟨rfl, s42, F2, ho117, hs44.dr0.dr0, le45, fI⟩
   ·rintro f w51 ⟨s50, F3, rfl, hs52, le53, ⟨_, rfl⟩⟩
    have h118 := Cu h41
    refine Ac ?_
    refine Sq (Rg [0] ?_)
    refine Vs 1 ?_
    refine Nt ?_
    refine Rt ?_
    obtain rfl := Ab h118
    exact Re [(.bool true)] hs52 rfl
structure R9 where
 q27 : Expr -> Expr -> Option Bool
def J5 (N : Nat) : Nat -> R9
 | 0 => ⟨fun _ _ => none⟩
 | k + 1 => ⟨DJ N (J5 N k).q27⟩
theorem MA (N : Nat) : ∀ k, NO (J5 N k).q27
 | 0 => (by unfold NO; intros; rename_i h; cases h)
 | k + 1 => by
  have ih := MA N k
  exact @KH N (J5 N k).q27 ih
def EL (N : Nat) (x0 : Expr) (x1 : Expr) : Option Bool := (J5 N N).q27 x0 x1
theorem Hg (N : Nat) (w0 : World) (F0 : Mem) (hF : S1 w0 F0) (x0 : Expr) (a0_2 : S0) (n0_2 : Nat) (hb0_2 : LC x0.Kids.length n0_2) (hs0_2 : SlA Ar F0 a0_2 x0.Kids) (x1 : Expr) (a1_2 : S0) (n1_2 : Nat) (hb1_2 : LC x1.Kids.length n1_2) (hs1_2 : SlA Ar F0 a1_2 x1.Kids) (r : Bool) (h : EL N x0 x1 = some r) :
  Calls Tryz.prog 27 ([(.agg #[(.int .i64 x0.Op), (.int .i64 x0.Value), (.slice a0_2 x0.Kids.length n0_2)]), (.agg #[(.int .i64 x1.Op), (.int .i64 x1.Value), (.slice a1_2 x1.Kids.length n1_2)])] : List Value).toArray w0 (AV w0 F0 fun F' v => v = (.bool r)) := (MA N N) w0 F0 hF x0 a0_2 n0_2 hb0_2 hs0_2 x1 a1_2 n1_2 hb1_2 hs1_2 r h



def Ht (M : Nat) : Nat -> Expr -> Prop
 | 0, _ => False
 | n + 1, e => e.Kids.length < M /\ e.Kids.length < 9223372036854775808 /\ ∀ x, x ∈ e.Kids -> Ht M n x
theorem Ht.succ {M : Nat} : ∀ {n : Nat} {e : Expr}, Ht M n e -> Ht M (n + 1) e
 | 0, _, h => h.elim
 | n + 1, e, ⟨h1, h2, h3⟩ => ⟨h1, h2, fun x hx => (h3 x hx).succ⟩
theorem Ht.le {M n m : Nat} {e : Expr} (h : Ht M n e) (hl : n <= m) : Ht M m e := by
 induction hl with
 | refl => exact h
 | step _ ih => exact ih.succ
theorem Ht.wide {M M' : Nat} (hM : M <= M') : ∀ {n : Nat} {e : Expr}, Ht M n e -> Ht M' n e
 | 0, _, h => h.elim
 | n + 1, e, ⟨h1, h2, h3⟩ => ⟨by omega, h2, fun x hx => (h3 x hx).wide hM⟩
section
variable {α β σ ρ : Type}
theorem IZ (l : List α) (g : α -> Option β) (gs : α -> β) (f : σ -> β -> σ) {body : σ × Int -> Option (Bn ρ (σ × Int))} (hg : ∀ x, x ∈ l -> g x = some (gs x))
  (hb : ∀ s i, body (s, i) = bif decide (i < (l.length : Int)) then ((idx l i).bind fun x => (g x).bind fun r => some (.next (f s r, W64 (i + 1)))) else some (.done (s, i)))
  {N : Nat} (hN : l.length < N) (hL : l.length < 9223372036854775808) (s0 : σ) : AX body N (s0, 0) = some (.done (l.foldl (fun s x => f s (gs x)) s0, (l.length : Int))) := by
 obtain ⟨o, ho, rfl⟩ := Ik (body := body) l.length (fun i s => s = ((l.take i).foldl (fun s x => f s (gs x)) s0, (i : Int))) (fun o => o = .done (l.foldl (fun s x => f s (gs x)) s0, (l.length : Int))) (by
  rintro i s hi rfl
  by_cases h : i < l.length
  ·refine .inl ⟨(f ((l.take i).foldl (fun s x => f s (gs x)) s0) (gs l[i]), ((i + 1 : Nat) : Int)), ?_, ?_, h⟩
   ·rw [hb, HO h, cond_true, DK h, Option.bind_some, hg _ (List.getElem_mem h), Option.bind_some, CI (by omega)]
   ·rw [List.take_succ_eq_append_getElem h, List.foldl_append]; rfl
  ·have : i = l.length := by omega
   subst this
   refine .inr ⟨_, ?_, ?_, rfl⟩
   ·rw [hb, Jx, cond_false, List.take_length]
   ·intro s' h; cases h) l.length N 0 (s0, 0) (by omega) (by simp) hN
 exact ho
theorem Ew (l : List α) (p : α -> Bool) (ret : Nat -> ρ) {body : Int -> Option (Bn ρ Int)}
  (hb : ∀ (i : Nat) (h : i < l.length), body (i : Int) = bif p l[i] then some (.ret (ret i)) else some (.next (W64 ((i : Int) + 1)))) (he : body (l.length : Int) = some (.done (l.length : Int)))
  {N : Nat} (hN : l.length < N) (hL : l.length < 9223372036854775808) :
  AX body N 0 = some (bif l.any p then .ret (ret (l.findIdx p)) else .done (l.length : Int)) := by
 obtain ⟨o, ho, rfl⟩ := Ik (body := body) l.length (fun i s => s = (i : Int) /\ ∀ k (h : k < l.length), k < i -> p l[k] = false) (fun o => o = bif l.any p then .ret (ret (l.findIdx p)) else .done (l.length : Int)) (by
  rintro i s hi ⟨rfl, hk⟩
  by_cases h : i < l.length
  ·cases e : p l[i] with
   | false =>
    refine .inl ⟨_, by rw [hb i h, e, cond_false, CI (by omega)], ⟨rfl, fun k hk' hki => ?_⟩, h⟩
    by_cases hki' : k = i
    ·subst hki'; exact e
    ·exact hk k hk' (by omega)
   | true =>
    refine .inr ⟨_, by rw [hb i h, e, cond_true], fun _ h => (by cases h), ?_⟩
    have h1 : l.any p = true := List.any_eq_true.2 ⟨_, List.getElem_mem h, e⟩
    have h2 : l.findIdx p = i := by
     rw [List.findIdx_eq h]
     exact ⟨e, fun k hk' => hk k (by omega) hk'⟩
    rw [h1, cond_true, h2]
  ·have : i = l.length := by omega
   subst this
   refine .inr ⟨_, he, fun _ h => (by cases h), ?_⟩
   have h1 : l.any p = false := by
    rw [List.any_eq_false]
    intro x hx
    obtain ⟨k, hk', rfl⟩ := List.getElem_of_mem hx
    rw [hk k hk' hk']; simp
   rw [h1, cond_false]) l.length N 0 0 (by omega) ⟨rfl, fun k h hk => by omega⟩ hN
 exact ho
end
def nd (e : Expr) : Int := match e with
 | ⟨_, _, ks⟩ => ks.foldl (fun s x => W64 (s + nd x)) 1
def dp (e : Expr) : Int := match e with
 | ⟨_, _, ks⟩ => W64 (ks.foldl (fun s x => max s (dp x)) 0 + 1)
theorem RJ (e : Expr) : nd e = e.Kids.foldl (fun s x => W64 (s + nd x)) 1 := by
 cases e; rw [nd]
theorem PM (e : Expr) : dp e = W64 (e.Kids.foldl (fun s x => max s (dp x)) 0 + 1) := by
 cases e; rw [dp]
section
variable {M : Nat}
theorem Ob : ∀ {n k : Nat} {e : Expr}, Ht M n e -> n <= k -> (J3 M k).q92 e = some (nd e)
 | 0, _, _, h, _ => h.elim
 | n + 1, 0, _, _, h => absurd h (by omega)
 | n + 1, k + 1, e, ⟨h1, h2, h3⟩, hk => by
  show DI M (J3 M k).q92 e = _
  unfold DI
  rw [IZ e.Kids (J3 M k).q92 nd (fun s r => W64 (s + r)) (fun x hx => Ob (h3 x hx) (by omega)) (fun _ _ => rfl) h1 h2 1, RJ]
  rfl
theorem MJ : ∀ {n k : Nat} {e : Expr}, Ht M n e -> n <= k -> (My M k).q77 e = some (dp e)
 | 0, _, _, h, _ => h.elim
 | n + 1, 0, _, _, h => absurd h (by omega)
 | n + 1, k + 1, e, ⟨h1, h2, h3⟩, hk => by
  show EY M (My M k).q77 e = _
  unfold EY
  rw [IZ e.Kids (My M k).q77 dp (fun s r => max s r) (fun x hx => MJ (h3 x hx) (by omega)) (fun _ _ => rfl) h1 h2 0, PM]
  rfl
theorem Od : ∀ {n k : Nat} {e : Expr}, Ht M n e -> n <= k -> (J4 M k).q32 e = some (dp e)
 | 0, _, _, h, _ => h.elim
 | n + 1, 0, _, _, h => absurd h (by omega)
 | n + 1, k + 1, e, ⟨h1, h2, h3⟩, hk => by
  show DH M (J4 M k).q32 e = _
  unfold DH
  rw [IZ e.Kids (J4 M k).q32 dp (fun s r => max s r) (fun x hx => Od (h3 x hx) (by omega)) (fun _ _ => rfl) h1 h2 0, PM]
  rfl
end
def kf (op : Int) : Option (Int × Int × List Int) :=
 if op = 1 then some (1000000, 1, []) else if op = 2 then some (13, 1, []) else if op = 3 then some (0, 2, [2]) else if op = 4 \/ op = 5 then some (0, 2, [2, 2])
 else if op = 6 \/ op = 7 then some (0, 2, [1, 1]) else if op = 8 \/ op = 9 \/ op = 10 then some (0, 1, [1, 1]) else if op = 11 then some (0, 1, [2, 1, 1]) else none
def Sl (op v : Int) (m : List Int) : Int := match kf op with
 | none => 0
 | some (most, own, l) => if 0 <= v /\ v <= most /\ m = l then own else 0
def kd (e : Expr) : Int := match e with
 | ⟨op, v, ks⟩ => Sl op v (ks.map fun x => kd x)
theorem Pu (e : Expr) : kd e = match kf e.Op with
  | none => 0
  | some (most, own, l) => if 0 <= e.Value /\ e.Value <= most /\ e.Kids.map kd = l then own else 0 := by
 cases e; rw [kd]; rfl
theorem Ps (N : Nat) (op : Int) : Ef N op = some (match kf op with | none => ({ most_ := 0, own_ := 0, kids_ := [] }, false) | some (m, o, l) => ({ most_ := m, own_ := o, kids_ := l }, true)) := by
 unfold Ef kf
 by_cases h1 : op = 1
 ·subst h1; rfl
 by_cases h2 : op = 2
 ·subst h2; rfl
 by_cases h3 : op = 3
 ·subst h3; rfl
 by_cases h4 : op = 4
 ·subst h4; rfl
 by_cases h5 : op = 5
 ·subst h5; rfl
 by_cases h6 : op = 6
 ·subst h6; rfl
 by_cases h7 : op = 7
 ·subst h7; rfl
 by_cases h8 : op = 8
 ·subst h8; rfl
 by_cases h9 : op = 9
 ·subst h9; rfl
 by_cases h10 : op = 10
 ·subst h10; rfl
 by_cases h11 : op = 11
 ·subst h11; rfl
 have b : ∀ z : Int, op ≠ z -> (op == z) = false := fun z hz => by simpa using hz
 simp only [b _ h1, b _ h2, b _ h3, b _ h4, b _ h5, b _ h6, b _ h7, b _ h8, b _ h9, b _ h10, b _ h11, cond_false, if_neg h1, if_neg h2, if_neg h3, h4, h5, h6, h7, h8, h9, h10, h11, or_self, if_false]
theorem Nv {α : Type} {l : List α} {f : α -> Int} {m : List Int} (hl : l.length = m.length) : ((List.range l.length).any fun i => decide ((l.map f)[i]? ≠ m[i]?)) = decide (l.map f ≠ m) := by
 rw [Bool.eq_iff_iff]
 simp only [List.any_eq_true, List.mem_range, decide_eq_true_eq]
 constructor
 ·rintro ⟨i, _, h⟩ e; exact h (by rw [e])
 ·intro h
  apply Classical.byContradiction
  intro hn
  apply h
  apply List.ext_getElem?
  intro i
  by_cases hi : i < l.length
  ·exact Classical.byContradiction fun hne => hn ⟨i, hi, hne⟩
  ·rw [List.getElem?_eq_none (by simp; omega), List.getElem?_eq_none (by omega)]
section
variable {M : Nat}
theorem MK : ∀ {n k : Nat} {e : Expr}, Ht M n e -> n <= k -> (Hm M k).q113 e = some (kd e)
 | 0, _, _, h, _ => h.elim
 | n + 1, 0, _, _, h => absurd h (by omega)
 | n + 1, k + 1, e, ⟨h1, h2, h3⟩, hk => by
  show Da M (Hm M k).q113 e = _
  unfold Da
  rw [Ps, Option.bind_some, Pu]
  cases hf : kf e.Op with
  | none => simp only [Bool.not_false, Bool.true_or, cond_true]
  | some x =>
   obtain ⟨m, o, l⟩ := x
   simp only [Bool.not_true, Bool.false_or]
   by_cases hv : 0 <= e.Value /\ e.Value <= m /\ e.Kids.length = l.length
   ·obtain ⟨v1, v2, v3⟩ := hv
    have e1 : (decide (e.Value < 0) || (decide (e.Value > m) || (((e.Kids.length : Int)) != ((l.length : Int))))) = false := by
     simp; exact ⟨by omega, by omega, by omega⟩
    rw [e1, cond_false]
    have hit := Ew (List.range e.Kids.length) (fun i => decide ((e.Kids.map kd)[i]? ≠ l[i]?)) (fun _ => (0 : Int)) (body := Co M (Hm M k).q113 e ({ most_ := m, own_ := o, kids_ := l }, true)) (N := M)
     (by
      intro i hi
      simp only [List.length_range] at hi
      unfold Co
      rw [HO hi, cond_true, DK hi, Option.bind_some]
      simp only
      rw [DK (show i < l.length by omega), Option.bind_some, MK (h3 _ (List.getElem_mem hi)) (by omega)]
      simp only [Option.bind_some, List.getElem_range]
      congr 1
      rw [List.getElem?_map, List.getElem?_eq_getElem hi, List.getElem?_eq_getElem (show i < l.length by omega)]
      simp [bne, BEq.beq])
     (by
      unfold Co
      rw [List.length_range, Jx, cond_false]) (by rw [List.length_range]; exact h1) (by rw [List.length_range]; exact h2)
    rw [hit, Nv v3]
    by_cases hm : e.Kids.map kd = l
    ·simp [hm, v1, v2, Bn.k]
    ·simp [hm, Bn.k]
   ·have e1 : (decide (e.Value < 0) || (decide (e.Value > m) || (((e.Kids.length : Int)) != ((l.length : Int))))) = true := by
     simp; omega
    rw [e1, cond_true, if_neg]
    rintro ⟨a, b, c⟩
    exact hv ⟨a, b, by rw [<- c, List.length_map]⟩
end
def A3 (N : Nat) (x0 : (List Expr)) (x1 : (List Expr)) (x2 : (Expr -> Expr -> Option Bool)) : Int -> Option (Bn Bool Int) := fun s27 =>
 (bif (decide (s27 < (x0.length : Int))) then ((idx x0 s27).bind fun x51 => ((idx x1 s27).bind fun x70 => ((x2 x51 x70).bind fun r89 => (bif (!r89) then some (.ret false) else some (.next (W64 (s27 + 1))))))) else some (.done s27))
def A7 (N : Nat) (x0 : (List Expr)) (x1 : (List Expr)) (x2 : (Expr -> Expr -> Option Bool)) : Option Bool :=
 (bif ((x0.length : Int) != (x1.length : Int)) then some false else ((AX (A3 N x0 x1 x2) N 0).bind fun o => o.k (fun r => some r) (fun s37 => some true)))
theorem BL : Aq Tryz.prog 214 := fun _ _ => by kernel_rfl
theorem BR (N : Nat) (w0 : World) (F0 : Mem) (hF : S1 w0 F0) (x0 : (List Expr)) (a0_0 : S0) (n0_0 : Nat) (hb0_0 : LC x0.length n0_0) (hs0_0 : SlA Ar F0 a0_0 x0) (x1 : (List Expr)) (a1_0 : S0) (n1_0 : Nat) (hb1_0 : LC x1.length n1_0) (hs1_0 : SlA Ar F0 a1_0 x1) (gx2 : FuncId) (fx2 kx2 : List Value) (x2 : Expr -> Expr -> Option Bool) (hox2 : Aq Tryz.prog gx2) (hpx2 : QI F0 gx2 fx2 kx2 x2) (r : Bool) (h : A7 N x0 x1 x2 = some r) :
  Calls Tryz.prog 214 ([(.slice a0_0 x0.length n0_0), (.slice a1_0 x1.length n1_0), (.func (.func gx2) fx2.toArray kx2.toArray)] : List Value).toArray w0 (AV w0 F0 fun F' v => v = (.bool r)) := by
 have hs0 := SI hF
 refine Go 32 Tryz.func214 ?_
 refine Sq (Rg [0] ?_)
 refine Vs 1 ?_
 refine Nss ?_
 refine Sq (Rg [0, 1, 2, 3, 4] ?_)
 refine Vs 5 ?_
 refine Nt ?_
 refine Cd h (fun hb21 h22 => ?_) (fun hb21 h23 => ?_)
 ·refine Sq (Rg [0] ?_)
  refine Vs 1 ?_
  refine Nt ?_
  refine Rt ?_
  refine Aj ?_
  obtain rfl := Ab h22
  exact Re [(.bool false)] hs0 rfl
 ·refine Sc ?_
  refine Ac ?_
  refine Sq ?_
  refine Sq (Rg [0, 1, 2] ?_)
  refine Vs 3 ?_
  refine Nt ?_
  obtain ⟨o24, ho25, h26⟩ := bind_some h23
  refine SN (fun f w => ∃ (s37 : Int) (F2 : Mem), o24 = .done s37 /\ HS w0 F0 w F2 [] /\ SG F0 F2 /\ FI f [] []) ?_ ?_
  ·refine Bk ?_
   refine SF (by kernel_rfl) (fun m f w => ∃ (s27 : Int) (F1 : Mem), AX (A3 N x0 x1 x2) m s27 = some o24 /\ HS w0 F0 w F1 [] /\ SG F0 F1 /\ FI f [] [(1, (.slice a1_0 x1.length n1_0)), (2, (.func (.func gx2) fx2.toArray kx2.toArray)), (15, (.slice a0_0 x0.length n0_0)), (16, (vi (x0.length : Int))), (17, (vi s27))]) N ⟨0, F0, ho25, hs0, (SH _), fI⟩ ?_
   rintro m42 f w28 ⟨s27, F1, hit43, hs29, le30, ⟨_, rfl⟩⟩
   obtain ⟨m44, fl45, rfl, hb46, hnx47⟩ := Bf hit43
   refine Sq (Rg [0] ?_)
   refine Vs 1 ?_
   refine Nss ?_
   refine Cd hb46 (fun hb48 h49 => ?_) (fun hb48 h50 => ?_)
   ·refine Sc ?_
    refine Ac ?_
    refine Sq ?_
    refine Bk ?_
    refine Sq (Rg [0, 1, 2, 3, 4, 5] ?_)
    refine Vs 1 ?_
    obtain ⟨x51, hx52, h54⟩ := bind_some h49
    obtain ⟨hi53, hx52'⟩ := Aw hx52
    obtain ⟨b55, o56, C57, E58, fz59, rfl, hF61, hE62⟩ := SQ (SJ hs0_0 le30) hx52'
    obtain ⟨ae63_2, ne63_2, hc64, hbe63_2, hse63_2⟩ := (AR (hE62 _ _ hx52'))
    refine Ix hi53 ?_
    refine Lx 0 (hs29.pers _ _ hF61) hc64 ?_
    refine Al' 33 #[(vi 0), (vi 0), (.slice none ([] : List Expr).length 0)] hs29 (fun b65 w66 hs67 => ?_)
    refine Vs 1 ?_
    refine St0 (Ai x51 ae63_2 ne63_2) hs67 (fun w68 hs69 => ?_)
    refine Nss (Rg [0, 1, 2, 3, 4, 5] ?_)
    refine Vs 2 ?_
    obtain ⟨x70, hx71, h73⟩ := bind_some h54
    obtain ⟨hi72, hx71'⟩ := Aw hx71
    obtain ⟨b74, o75, C76, E77, fz78, rfl, hF80, hE81⟩ := SQ (SJ hs1_0 le30) hx71'
    obtain ⟨ae82_2, ne82_2, hc83, hbe82_2, hse82_2⟩ := (AR (hE81 _ _ hx71'))
    refine Ix hi72 ?_
    refine Lx 0 (hs69.pers _ _ hF80) hc83 ?_
    refine Al' 33 #[(vi 0), (vi 0), (.slice none ([] : List Expr).length 0)] hs69 (fun b84 w85 hs86 => ?_)
    refine St0 (Ai x70 ae82_2 ne82_2) hs86 (fun w87 hs88 => ?_)
    refine Nss (Rg [0, 1, 2, 3, 4] ?_)
    refine Vs 1 ?_
    refine Ld hs88.at1 ?_
    refine Ld hs88.at0 ?_
    obtain ⟨r89, hr90, h91⟩ := bind_some h73
    refine Cq hox2 hs88 (hpx2 w87 F1 x51 ae63_2 ne63_2 hbe63_2 hse63_2 x70 ae82_2 ne82_2 hbe82_2 hse82_2 _ le30 hs88.pers hr90) ?_
    rintro _ F3 w93 hs94 le95 rfl
    refine Vs 1 ?_
    refine Nt ?_
    refine Cd h91 (fun hb97 h98 => ?_) (fun hb97 h99 => ?_)
    ·refine Sq (Rg [0] ?_)
     refine Vs 1 ?_
     refine Nt ?_
     refine Rt ?_
     refine Al ?_
     refine Aj ?_
     refine Aj ?_
     refine Al ?_
     have hret := Cs h98 hnx47
     subst hret
     refine .inr ?_
     refine Aj ?_
     obtain rfl := Ab h26
     exact Re [(.bool false)] hs94 rfl
    ·refine Sc ?_
     refine Ax ?_
     refine Ac ?_
     refine Rg [0, 1] ?_
     refine Vs 2 ?_
     refine SC ?_
     have hn100 := A8 h99 hnx47
     exact ⟨m44, Nat.lt_succ_self _, (W64 (s27 + 1)), F3, hn100, hs94.dr0.dr0, (le30.trans le95), fI⟩
   ·refine Ex ?_
    refine AF ?_
    refine AF ?_
    refine AZ rfl ?_
    have ho101 := Bm h50 hnx47
    exact .inl ⟨rfl, s27, F1, ho101, hs29, le30, fI⟩
  ·rintro f w38 ⟨s37, F2, rfl, hs39, le40, ⟨_, rfl⟩⟩
   have h102 := Cu h26
   refine Ac ?_
   refine Sq (Rg [0] ?_)
   refine Vs 1 ?_
   refine Nt ?_
   refine Rt ?_
   obtain rfl := Ab h102
   exact Re [(.bool true)] hs39 rfl
def L4 (sR189 : Expr -> Expr -> Option Bool) : Prop := ∀ (w0 : World) (F0 : Mem) (hF : S1 w0 F0) (x0 : Expr) (a0_2 : S0) (n0_2 : Nat) (hb0_2 : LC x0.Kids.length n0_2) (hs0_2 : SlA Ar F0 a0_2 x0.Kids) (x1 : Expr) (a1_2 : S0) (n1_2 : Nat) (hb1_2 : LC x1.Kids.length n1_2) (hs1_2 : SlA Ar F0 a1_2 x1.Kids) (r : Bool), sR189 x0 x1 = some r -> Calls Tryz.prog 189 ([(.agg #[(.int .i64 x0.Op), (.int .i64 x0.Value), (.slice a0_2 x0.Kids.length n0_2)]), (.agg #[(.int .i64 x1.Op), (.int .i64 x1.Value), (.slice a1_2 x1.Kids.length n1_2)])] : List Value).toArray w0 (AV w0 F0 fun F' v => v = (.bool r))
theorem CQ : Aq Tryz.prog 189 := fun _ _ => by kernel_rfl
def HI (N : Nat) (sR189 : Expr -> Expr -> Option Bool) (x0 : Expr) (x1 : Expr) : Option Bool :=
 ((bif (x0.Op == x1.Op) then (bif (x0.Value == x1.Value) then ((A7 N x0.Kids x1.Kids (fun y0 y1 => sR189 y0 y1)).bind fun r41 => some r41) else some false) else some false).bind fun j30 => some j30)
theorem K1 (N : Nat) (sR189 : Expr -> Expr -> Option Bool) (hsR189 : L4 sR189) (w0 : World) (F0 : Mem) (hF : S1 w0 F0) (x0 : Expr) (a0_2 : S0) (n0_2 : Nat) (hb0_2 : LC x0.Kids.length n0_2) (hs0_2 : SlA Ar F0 a0_2 x0.Kids) (x1 : Expr) (a1_2 : S0) (n1_2 : Nat) (hb1_2 : LC x1.Kids.length n1_2) (hs1_2 : SlA Ar F0 a1_2 x1.Kids) (r : Bool) (h : HI N sR189 x0 x1 = some r) :
  Calls Tryz.prog 189 ([(.agg (Ai x0 a0_2 n0_2)), (.agg (Ai x1 a1_2 n1_2))] : List Value).toArray w0 (AV w0 F0 fun F' v => v = (.bool r)) := by
 have hs0 := SI hF
 refine Go 24 Tryz.func189 ?_
 refine Sq (Rg [0, 1, 2] ?_)
 refine Bx' 33 (Ai x0 a0_2 n0_2) hs0 (fun b21 w22 hs23 => ?_)
 refine Bx' 33 (Ai x1 a1_2 n1_2) hs23 (fun b24 w25 hs26 => ?_)
 refine Vs 1 ?_
 refine Nss (Rg [0, 1, 2, 3, 4, 5, 6, 7, 8, 9, 10, 11, 12, 13, 14, 15, 16, 17, 18, 19] ?_)
 obtain ⟨j30, hj33, h34⟩ := bind_some h
 refine SM (fun f w => ∃ (F1 : Mem), HS w0 F0 w F1 [] /\ SG F0 F1 /\ FI f [] [(4, (.bool j30))]) ?_ ?_
 ·refine Vs 1 ?_
  refine Ld hs26.at1 ?_
  refine Vs 1 ?_
  refine Ld hs26.at0 ?_
  refine Vs 2 ?_
  refine Sp hj33 (fun hb35 h36 => ?_) (fun hb35 h37 => ?_)
  ·refine Vgs hb35 1 ?_
   refine Lg hb35 hs26.at1 ?_
   refine Vgs hb35 1 ?_
   refine Lg hb35 hs26.at0 ?_
   refine Vgs hb35 1 ?_
   refine Pk1 hb35 ?_
   refine Vs 1 ?_
   refine Sp h36 (fun hb38 h39 => ?_) (fun hb38 h40 => ?_)
   ·refine Vgs hb38 1 ?_
    refine Lg hb38 hs26.at1 ?_
    refine Vgs hb38 1 ?_
    refine Lg hb38 hs26.at0 ?_
    obtain ⟨r41, hr42, h43⟩ := bind_some h39
    refine Cg hb38 BL hs26 (BR N w25 F0 hs26.pers x0.Kids a0_2 n0_2 hb0_2 hs0_2 x1.Kids a1_2 n1_2 hb1_2 hs1_2 189 [] [] (fun y0 y1 => sR189 y0 y1) CQ (fun w1 F1 y0 ay0_2 ny0_2 hby0_2 hsy0_2 y1 ay1_2 ny1_2 hby1_2 hsy1_2 r le1 pe1 hr1 => hsR189 w1 F1 pe1  y0 ay0_2 ny0_2 hby0_2 hsy0_2 y1 ay1_2 ny1_2 hby1_2 hsy1_2  r hr1) _ hr42) ?_
    rintro _ F2 w45 hs46 le47 rfl
    refine Pk1 hb38 ?_
    refine Vs 1 ?_
    obtain rfl := Ab h43
    exact SC ⟨rfl, F2, hs46.dr0.dr0, le47, fI⟩
   ·refine Ss hb38 5 ?_
    refine Pk0 hb38 ?_
    refine Vs 1 ?_
    obtain rfl := Ab h40
    exact SC ⟨rfl, F0, hs26.dr0.dr0, (SH _), fI⟩
  ·refine Ss hb35 5 ?_
   refine Pk0 hb35 ?_
   refine Vs 1 ?_
   refine Ss (rfl : false = false) 5 ?_
   refine Pk0 (rfl : false = false) ?_
   refine Vs 1 ?_
   obtain rfl := Ab h37
   exact SC ⟨rfl, F0, hs26.dr0.dr0, (SH _), fI⟩
 ·rintro f w27 ⟨F1, hs28, le29, ⟨_, rfl⟩⟩
  refine Ac ?_
  refine Rt ?_
  obtain rfl := Ab h34
  exact Re [(.bool j30)] hs28 rfl
structure Rq where
 q189 : Expr -> Expr -> Option Bool
def LK (N : Nat) : Nat -> Rq
 | 0 => ⟨fun _ _ => none⟩
 | k + 1 => ⟨HI N (LK N k).q189⟩
theorem La (N : Nat) : ∀ k, L4 (LK N k).q189
 | 0 => (by unfold L4; intros; rename_i h; cases h)
 | k + 1 => by
  have ih := La N k
  exact @K1 N (LK N k).q189 ih
def Ep (N : Nat) (x0 : Expr) (x1 : Expr) : Option Bool := (LK N N).q189 x0 x1
theorem Ej (N : Nat) (w0 : World) (F0 : Mem) (hF : S1 w0 F0) (x0 : Expr) (a0_2 : S0) (n0_2 : Nat) (hb0_2 : LC x0.Kids.length n0_2) (hs0_2 : SlA Ar F0 a0_2 x0.Kids) (x1 : Expr) (a1_2 : S0) (n1_2 : Nat) (hb1_2 : LC x1.Kids.length n1_2) (hs1_2 : SlA Ar F0 a1_2 x1.Kids) (r : Bool) (h : Ep N x0 x1 = some r) :
  Calls Tryz.prog 189 ([(.agg #[(.int .i64 x0.Op), (.int .i64 x0.Value), (.slice a0_2 x0.Kids.length n0_2)]), (.agg #[(.int .i64 x1.Op), (.int .i64 x1.Value), (.slice a1_2 x1.Kids.length n1_2)])] : List Value).toArray w0 (AV w0 F0 fun F' v => v = (.bool r)) := (La N N) w0 F0 hF x0 a0_2 n0_2 hb0_2 hs0_2 x1 a1_2 n1_2 hb1_2 hs1_2 r h
def CW (N : Nat) (x0 : Expr) : Option Bool :=
 (((Db N x0).bind fun r32 => (bif (r32 != 0) then ((DM N x0).bind fun r43 => some (decide (r43 <= 32))) else some false)).bind fun j27 => some j27)
theorem Ey : Aq Tryz.prog 93 := fun _ _ => by kernel_rfl
theorem E4 (N : Nat) (w0 : World) (F0 : Mem) (hF : S1 w0 F0) (x0 : Expr) (a0_2 : S0) (n0_2 : Nat) (hb0_2 : LC x0.Kids.length n0_2) (hs0_2 : SlA Ar F0 a0_2 x0.Kids) (r : Bool) (h : CW N x0 = some r) :
  Calls Tryz.prog 93 ([(.agg (Ai x0 a0_2 n0_2))] : List Value).toArray w0 (AV w0 F0 fun F' v => v = (.bool r)) := by
 have hs0 := SI hF
 refine Go 11 Tryz.func93 ?_
 refine Sq (Rg [0, 1] ?_)
 refine Bx' 33 (Ai x0 a0_2 n0_2) hs0 (fun b21 w22 hs23 => ?_)
 refine Vs 1 ?_
 refine Nss (Rg [0, 1, 2, 3, 4, 5, 6, 7, 8] ?_)
 obtain ⟨j27, hj30, h31⟩ := bind_some h
 refine SM (fun f w => ∃ (F1 : Mem), HS w0 F0 w F1 [] /\ SG F0 F1 /\ FI f [] [(2, (.bool j27))]) ?_ ?_
 ·refine Ld hs23.at0 ?_
  obtain ⟨r32, hr33, h34⟩ := bind_some hj30
  refine Cl' CT hs23 (ED N w22 F0 hs23.pers x0 a0_2 n0_2 hb0_2 hs0_2 _ hr33) ?_
  rintro _ F2 w36 hs37 le38 rfl
  refine Vs 2 ?_
  refine Sp h34 (fun hb40 h41 => ?_) (fun hb40 h42 => ?_)
  ·refine Lg hb40 hs37.at0 ?_
   obtain ⟨r43, hr44, h45⟩ := bind_some h41
   refine Cg hb40 Dk hs37 (E5 N w36 F2 hs37.pers x0 a0_2 n0_2 hb0_2 (SJ hs0_2 le38) _ hr44) ?_
   rintro _ F3 w47 hs48 le49 rfl
   refine Vgs hb40 1 ?_
   refine Pk1 hb40 ?_
   refine Vs 1 ?_
   obtain rfl := Ab h45
   exact SC ⟨rfl, F3, hs48.dr0, (le38.trans le49), fI⟩
  ·refine Ss hb40 3 ?_
   refine Pk0 hb40 ?_
   refine Vs 1 ?_
   obtain rfl := Ab h42
   exact SC ⟨rfl, F2, hs37.dr0, le38, fI⟩
 ·rintro f w24 ⟨F1, hs25, le26, ⟨_, rfl⟩⟩
  refine Ac ?_
  refine Rt ?_
  obtain rfl := Ab h31
  exact Re [(.bool j27)] hs25 rfl

def HJ (N : Nat) (x0 : Expr) (x1 : Int) : Option Bool :=
 (((CW N x0).bind fun r32 => (bif r32 then ((Db N x0).bind fun r43 => some (r43 == x1)) else some false)).bind fun j27 => some j27)
theorem Gv : Aq Tryz.prog 124 := fun _ _ => by kernel_rfl
theorem Hw (N : Nat) (w0 : World) (F0 : Mem) (hF : S1 w0 F0) (x0 : Expr) (a0_2 : S0) (n0_2 : Nat) (hb0_2 : LC x0.Kids.length n0_2) (hs0_2 : SlA Ar F0 a0_2 x0.Kids) (x1 : Int) (r : Bool) (h : HJ N x0 x1 = some r) :
  Calls Tryz.prog 124 ([(.agg (Ai x0 a0_2 n0_2)), (vi x1)] : List Value).toArray w0 (AV w0 F0 fun F' v => v = (.bool r)) := by
 have hs0 := SI hF
 refine Go 13 Tryz.func124 ?_
 refine Sq (Rg [0, 1] ?_)
 refine Bx' 33 (Ai x0 a0_2 n0_2) hs0 (fun b21 w22 hs23 => ?_)
 refine Vs 1 ?_
 refine Nss (Rg [0, 1, 2, 3, 4, 5, 6, 7, 8] ?_)
 obtain ⟨j27, hj30, h31⟩ := bind_some h
 refine SM (fun f w => ∃ (F1 : Mem), HS w0 F0 w F1 [] /\ SG F0 F1 /\ FI f [] [(4, (.bool j27))]) ?_ ?_
 ·refine Ld hs23.at0 ?_
  obtain ⟨r32, hr33, h34⟩ := bind_some hj30
  refine Cl' Ey hs23 (E4 N w22 F0 hs23.pers x0 a0_2 n0_2 hb0_2 hs0_2 _ hr33) ?_
  rintro _ F2 w36 hs37 le38 rfl
  refine Vs 1 ?_
  refine Sp h34 (fun hb40 h41 => ?_) (fun hb40 h42 => ?_)
  ·refine Lg hb40 hs37.at0 ?_
   obtain ⟨r43, hr44, h45⟩ := bind_some h41
   refine Cg hb40 CT hs37 (ED N w36 F2 hs37.pers x0 a0_2 n0_2 hb0_2 (SJ hs0_2 le38) _ hr44) ?_
   rintro _ F3 w47 hs48 le49 rfl
   refine Vgs hb40 2 ?_
   refine Pk1 hb40 ?_
   refine Vs 1 ?_
   obtain rfl := Ab h45
   exact SC ⟨rfl, F3, hs48.dr0, (le38.trans le49), fI⟩
  ·refine Ss hb40 4 ?_
   refine Pk0 hb40 ?_
   refine Vs 1 ?_
   obtain rfl := Ab h42
   exact SC ⟨rfl, F2, hs37.dr0, le38, fI⟩
 ·rintro f w24 ⟨F1, hs25, le26, ⟨_, rfl⟩⟩
  refine Ac ?_
  refine Rt ?_
  obtain rfl := Ab h31
  exact Re [(.bool j27)] hs25 rfl

def EI (N : Nat) (x0 : Clause) : Option Bool :=
 (((HJ N x0.When 2).bind fun r32 => (bif r32 then ((HJ N x0.Then 1).bind fun r43 => some r43) else some false)).bind fun j27 => some j27)
theorem Gn : Aq Tryz.prog 123 := fun _ _ => by kernel_rfl
theorem GS (N : Nat) (w0 : World) (F0 : Mem) (hF : S1 w0 F0) (x0 : Clause) (a0_2 : S0) (n0_2 : Nat) (hb0_2 : LC x0.When.Kids.length n0_2) (hs0_2 : SlA Ar F0 a0_2 x0.When.Kids) (a0_5 : S0) (n0_5 : Nat) (hb0_5 : LC x0.Then.Kids.length n0_5) (hs0_5 : SlA Ar F0 a0_5 x0.Then.Kids) (r : Bool) (h : EI N x0 = some r) :
  Calls Tryz.prog 123 ([(.agg (HQ x0 a0_2 n0_2 a0_5 n0_5))] : List Value).toArray w0 (AV w0 F0 fun F' v => v = (.bool r)) := by
 have hs0 := SI hF
 refine Go 11 Tryz.func123 ?_
 refine Sq (Rg [0, 1] ?_)
 refine Bx' 56 (HQ x0 a0_2 n0_2 a0_5 n0_5) hs0 (fun b21 w22 hs23 => ?_)
 refine Vs 1 ?_
 refine Nss (Rg [0, 1, 2, 3, 4, 5, 6, 7, 8] ?_)
 obtain ⟨j27, hj30, h31⟩ := bind_some h
 refine SM (fun f w => ∃ (F1 : Mem), HS w0 F0 w F1 [] /\ SG F0 F1 /\ FI f [] [(2, (.bool j27))]) ?_ ?_
 ·refine Vs 1 ?_
  refine Ld hs23.at0 ?_
  obtain ⟨r32, hr33, h34⟩ := bind_some hj30
  refine Cl' Gv hs23 (Hw N w22 F0 hs23.pers x0.When a0_2 n0_2 hb0_2 hs0_2 2 _ hr33) ?_
  rintro _ F2 w36 hs37 le38 rfl
  refine Vs 1 ?_
  refine Sp h34 (fun hb40 h41 => ?_) (fun hb40 h42 => ?_)
  ·refine Vgs hb40 1 ?_
   refine Lg hb40 hs37.at0 ?_
   obtain ⟨r43, hr44, h45⟩ := bind_some h41
   refine Cg hb40 Gv hs37 (Hw N w36 F2 hs37.pers x0.Then a0_5 n0_5 hb0_5 (SJ hs0_5 le38) 1 _ hr44) ?_
   rintro _ F3 w47 hs48 le49 rfl
   refine Pk1 hb40 ?_
   refine Vs 1 ?_
   obtain rfl := Ab h45
   exact SC ⟨rfl, F3, hs48.dr0, (le38.trans le49), fI⟩
  ·refine Ss hb40 3 ?_
   refine Pk0 hb40 ?_
   refine Vs 1 ?_
   obtain rfl := Ab h42
   exact SC ⟨rfl, F2, hs37.dr0, le38, fI⟩
 ·rintro f w24 ⟨F1, hs25, le26, ⟨_, rfl⟩⟩
  refine Ac ?_
  refine Rt ?_
  obtain rfl := Ab h31
  exact Re [(.bool j27)] hs25 rfl

theorem Ro {l : List Expr} {t : Int} : l.any (fun x => kd x != t) = !(decide (l.map kd = List.replicate l.length t)) := by
 induction l with
 | nil => rfl
 | cons x r ih =>
  rw [List.any_cons, ih, List.map_cons, List.length_cons, List.replicate_succ]
  by_cases h : kd x = t <;> simp [h]
section
variable {M : Nat}
theorem Kl {q : Expr -> Option Int} {e : Expr} {t : Int} (hq : ∀ x, x ∈ e.Kids -> q x = some (kd x)) (h1 : e.Kids.length < M) (h2 : e.Kids.length < 9223372036854775808) {body : Int -> Option (Bn Bool Int)}
  (hb : ∀ s, body s = bif (decide (s < (e.Kids.length : Int))) then ((idx e.Kids s).bind fun x => ((q x).bind fun r => (bif (r != t) then some (.ret false) else some (.next (W64 (s + 1)))))) else some (.done s)) :
  ((AX body M 0).bind fun o => o.k (fun r => some r) (fun _ => some true)) = some (decide (e.Kids.map kd = List.replicate e.Kids.length t)) := by
 rw [Ew e.Kids (fun x => kd x != t) (fun _ => false) (fun i hi => by
  rw [hb, HO hi, cond_true, DK hi, Option.bind_some, hq _ (List.getElem_mem hi), Option.bind_some]) (by rw [hb, Jx, cond_false]) h1 h2, Ro]
 cases decide (e.Kids.map kd = List.replicate e.Kids.length t) <;> rfl
theorem MF {a b : Nat} : ((a : Int) != (b : Int)) = decide (a ≠ b) := by
 by_cases h : a = b
 ·subst h; simp
 ·simp [h]; omega
theorem K4 {k : Nat} {e : Expr} {t : Int} {c : Nat} {L : Int -> Option (Bn Bool Int)} (hL : (e.Kids.length = c) -> ((AX L M 0).bind fun o => o.k (fun r => some r) (fun _ => some true)) = some (decide (e.Kids.map kd = List.replicate e.Kids.length t))) :
  (bif (((e.Kids.length : Int) != (c : Int)) || (e.Value != 0)) then some false else ((AX L M 0).bind fun o => o.k (fun r => some r) (fun _ => some true))) = some (decide (e.Value = 0 /\ e.Kids.map kd = List.replicate c t)) := by
 rw [MF]
 by_cases h : e.Kids.length = c
 ·by_cases hv : e.Value = 0
  ·have : (decide (e.Kids.length ≠ c) || (e.Value != 0)) = false := by simp [h, hv]
   rw [this, cond_false, hL h, h]
   simp [hv]
  ·have : (decide (e.Kids.length ≠ c) || (e.Value != 0)) = true := by simp [hv]
   rw [this, cond_true]; simp [hv]
 ·have : (decide (e.Kids.length ≠ c) || (e.Value != 0)) = true := by simp [h]
  rw [this, cond_true]
  have : ¬ e.Kids.map kd = List.replicate c t := fun he => h (by have := congrArg List.length he; simpa using this)
  simp [this]
theorem Nw : ∀ {n k : Nat} {e : Expr}, Ht M n e -> 2 * n <= k -> 4 <= M -> (CL M k).q117 e = some (kd e)
 | 0, _, _, h, _, _ => h.elim
 | n + 1, 0, _, _, h, _ => absurd h (by omega)
 | n + 1, 1, _, _, h, _ => absurd h (by omega)
 | n + 1, k + 2, e, ⟨h1, h2, h3⟩, hk, hM => by
  have hq : ∀ x, x ∈ e.Kids -> (CL M (k + 1)).q117 x = some (kd x) := fun x hx => Nw (h3 x hx) (by omega) hM
  have hq' : ∀ x, x ∈ e.Kids -> (CL M k).q117 x = some (kd x) := fun x hx => Nw (h3 x hx) (by omega) hM
  have ht : ∀ c : Nat, (CL M (k + 1)).q170 e (c : Int) = some (decide (e.Value = 0 /\ e.Kids.map kd = List.replicate c 2)) := fun c => by
   show Es M (CL M k).q117 e c = _
   unfold Es
   exact K4 (k := k) fun hc => Kl hq' h1 h2 fun s => by unfold FJ; rw [hc]
  have hn : ∀ c : Nat, (CL M (k + 1)).q171 e (c : Int) = some (decide (e.Value = 0 /\ e.Kids.map kd = List.replicate c 1)) := fun c => by
   show D3 M (CL M k).q117 e c = _
   unfold D3
   exact K4 (k := k) fun hc => Kl hq' h1 h2 fun s => by unfold Fd; rw [hc]
  have ht1 := ht 1
  have ht2 := ht 2
  have hn2 := hn 2
  rw [show ((1 : Nat) : Int) = 1 from rfl] at ht1
  rw [show ((2 : Nat) : Int) = 2 from rfl] at ht2 hn2
  show Fx M (CL M (k + 1)).q117 (CL M (k + 1)).q170 (CL M (k + 1)).q171 e = _
  unfold Fx
  rw [Pu]
  unfold kf
  by_cases h1 : e.Op = 1
  ·simp only [h1, beq_self_eq_true, cond_true, Option.bind_some, if_true]
   by_cases hv : 0 <= e.Value /\ e.Value <= 1000000 /\ e.Kids = []
   ·obtain ⟨a, b, c⟩ := hv
    simp [a, b, c]
   ·rw [if_neg (by rintro ⟨a, b, c⟩; exact hv ⟨a, b, by simpa using c⟩)]
    have : ((e.Kids.length : Int) == 0 && (decide (e.Value >= 0) && decide (e.Value <= 1000000))) = false := by
     rw [Bool.eq_false_iff]
     intro h
     simp only [Bool.and_eq_true, decide_eq_true_eq, beq_iff_eq] at h
     exact hv ⟨h.2.1, h.2.2, List.length_eq_zero_iff.1 (by omega)⟩
    rw [this]; rfl
  by_cases h2 : e.Op = 2
  ·simp only [h2, beq_self_eq_true, cond_true, Option.bind_some, if_true]
   by_cases hv : 0 <= e.Value /\ e.Value <= 13 /\ e.Kids = []
   ·obtain ⟨a, b, c⟩ := hv
    have b' : e.Value < 14 := by omega
    simp [a, b, b', c]
   ·rw [show (if (2 : Int) = 1 then some ((1000000 : Int), (1 : Int), ([] : List Int)) else some (13, 1, [])) = some (13, 1, []) from by decide]
    simp only
    rw [if_neg (by rintro ⟨a, b, c⟩; exact hv ⟨a, b, by simpa using c⟩)]
    have : ((e.Kids.length : Int) == 0 && (decide (e.Value >= 0) && decide (e.Value < 14))) = false := by
     rw [Bool.eq_false_iff]
     intro h
     simp only [Bool.and_eq_true, decide_eq_true_eq, beq_iff_eq] at h
     exact hv ⟨h.2.1, by omega, List.length_eq_zero_iff.1 (by omega)⟩
    rw [this]; rfl
  have b : ∀ z : Int, e.Op ≠ z -> (e.Op == z) = false := fun z hz => by simpa using hz
  have hz : ∀ l : List Int, (0 <= e.Value /\ e.Value <= 0 /\ e.Kids.map kd = l) ↔ (e.Value = 0 /\ e.Kids.map kd = l) := fun l => ⟨fun ⟨a, b, c⟩ => ⟨by omega, c⟩, fun ⟨a, c⟩ => ⟨by omega, by omega, c⟩⟩
  have fin : ∀ (c : Bool) (f : Int), (bif c then some f else some 0) = some (if c = true then f else 0) := fun c f => by cases c <;> rfl
  by_cases h3 : e.Op = 3
  ·simp only [h3, b _ h1, b _ h2, ht1, cond_false, beq_self_eq_true, cond_true, Option.bind_some]
   simp only [show ¬ (3 : Int) = 1 from by decide, show ¬ (3 : Int) = 2 from by decide, if_false, if_true, hz, List.replicate]
   by_cases hd : e.Value = 0 /\ e.Kids.map kd = [2]
   ·rw [if_pos hd, decide_eq_true hd]; rfl
   ·rw [if_neg hd, decide_eq_false hd]; rfl
  by_cases h4 : e.Op = 4 \/ e.Op = 5
  ·have hc : (bif e.Op == 4 then e.Op == 4 else e.Op == 5) = true := by rcases h4 with h | h <;> rw [h] <;> rfl
   simp only [b _ h1, b _ h2, b _ h3, hc, ht2, cond_false, beq_self_eq_true, cond_true, Option.bind_some, if_neg h1, if_neg h2, if_neg h3, if_pos h4, hz, List.replicate]
   by_cases hd : e.Value = 0 /\ e.Kids.map kd = [2, 2]
   ·rw [if_pos hd, decide_eq_true hd]; rfl
   ·rw [if_neg hd, decide_eq_false hd]; rfl
  by_cases h6 : e.Op = 6 \/ e.Op = 7
  ·have h4' := not_or.1 h4
   have hc : (bif e.Op == 6 then e.Op == 6 else e.Op == 7) = true := by rcases h6 with h | h <;> rw [h] <;> rfl
   simp only [b _ h1, b _ h2, b _ h3, b _ h4'.1, b _ h4'.2, hc, hn2, cond_false, beq_self_eq_true, cond_true, Option.bind_some, if_neg h1, if_neg h2, if_neg h3, if_neg h4, if_pos h6, hz, List.replicate]
   by_cases hd : e.Value = 0 /\ e.Kids.map kd = [1, 1]
   ·rw [if_pos hd, decide_eq_true hd]; rfl
   ·rw [if_neg hd, decide_eq_false hd]; rfl
  by_cases h8 : e.Op = 8 \/ e.Op = 9 \/ e.Op = 10
  ·have h4' := not_or.1 h4
   have h6' := not_or.1 h6
   have hc : (bif e.Op == 8 then e.Op == 8 else bif e.Op == 9 then e.Op == 9 else e.Op == 10) = true := by rcases h8 with h | h | h <;> rw [h] <;> rfl
   simp only [b _ h1, b _ h2, b _ h3, b _ h4'.1, b _ h4'.2, b _ h6'.1, b _ h6'.2, hc, hn2, cond_false, beq_self_eq_true, cond_true, Option.bind_some, if_neg h1, if_neg h2, if_neg h3, if_neg h4, if_neg h6, if_pos h8, hz, List.replicate]
   by_cases hd : e.Value = 0 /\ e.Kids.map kd = [1, 1]
   ·rw [if_pos hd, decide_eq_true hd]; rfl
   ·rw [if_neg hd, decide_eq_false hd]; rfl
  have h4' := not_or.1 h4
  have h6' := not_or.1 h6
  have h8' := not_or.1 h8
  have h9' := not_or.1 h8'.2
  by_cases h11 : e.Op = 11
  ·simp only [b _ h1, b _ h2, b _ h3, b _ h4'.1, b _ h4'.2, b _ h6'.1, b _ h6'.2, b _ h8'.1, b _ h9'.1, b _ h9'.2, cond_false, if_neg h1, if_neg h2, if_neg h3, if_neg h4, if_neg h6, if_neg h8, if_pos h11]
   simp only [h11, beq_self_eq_true, cond_true]
   have fin : ∀ (o : Option Bool) (c : Bool), o = some c -> ((((o.bind fun j208 => some j208).bind fun j176 => some (j176, false)).bind fun j135 : Bool × Bool => some (j135.1, j135.2)).bind fun j27 => (bif j27.1 then some (1 : Int) else (bif j27.2 then some 2 else some 0))) = some (if c = true then 1 else 0) := by
    rintro _ c rfl; cases c <;> rfl
   by_cases hv : e.Value = 0
   ·by_cases hl : e.Kids.length = 3
    ·obtain ⟨a, b', c, hk⟩ : ∃ a b c, e.Kids = [a, b, c] := by
      match he : e.Kids, hl with
      | [a, b, c], _ => exact ⟨a, b, c, rfl⟩
     have qa := hq a (by rw [hk]; simp)
     have qb := hq b' (by rw [hk]; simp)
     have qc := hq c (by rw [hk]; simp)
     have i0 : idx e.Kids 0 = some a := by rw [hk]; rfl
     have i1 : idx e.Kids 1 = some b' := by rw [hk]; rfl
     have i2 : idx e.Kids 2 = some c := by rw [hk]; rfl
     have el : ((e.Kids.length : Int) == 3) = true := by rw [hl]; rfl
     simp only [hv, el, i0, i1, i2, qa, qb, qc, beq_self_eq_true, cond_true, Option.bind_some]
     rw [hk]
     simp only [List.map_cons, List.map_nil, List.cons.injEq, and_true, Int.le_refl, true_and]
     by_cases ka : kd a = 2 <;> by_cases kb : kd b' = 1 <;> by_cases kc : kd c = 1 <;> simp [ka, kb, kc, Bool.cond_eq_ite]
    ·have el : ((e.Kids.length : Int) == 3) = false := by simp; omega
     simp only [hv, el, beq_self_eq_true, cond_true, cond_false, Option.bind_some]
     rw [if_neg (by rintro ⟨_, _, c⟩; exact hl (by have := congrArg List.length c; simpa using this))]
   ·have ev : (e.Value == 0) = false := by simpa using hv
    simp only [ev, cond_false, Option.bind_some]
    rw [if_neg (by rintro ⟨a, b, _⟩; exact hv (by omega))]
  ·simp only [b _ h1, b _ h2, b _ h3, b _ h4'.1, b _ h4'.2, b _ h6'.1, b _ h6'.2, b _ h8'.1, b _ h9'.1, b _ h9'.2, b _ h11, cond_false, if_neg h1, if_neg h2, if_neg h3, if_neg h4, if_neg h6, if_neg h8, if_neg h11, Option.bind_some]
end
def EN (N : Nat) (x0 : Expr) : Option Int :=
 ((Gh N x0).bind fun r24 => some r24)
theorem Ku : Aq Tryz.prog 28 := fun _ _ => by kernel_rfl
theorem KZ (N : Nat) (w0 : World) (F0 : Mem) (hF : S1 w0 F0) (x0 : Expr) (a0_2 : S0) (n0_2 : Nat) (hb0_2 : LC x0.Kids.length n0_2) (hs0_2 : SlA Ar F0 a0_2 x0.Kids) (r : Int) (h : EN N x0 = some r) :
  Calls Tryz.prog 28 ([(.agg (Ai x0 a0_2 n0_2))] : List Value).toArray w0 (AV w0 F0 fun F' v => v = (vi r)) := by
 have hs0 := SI hF
 refine Go 5 Tryz.func28 ?_
 refine Sq (Rg [0, 1] ?_)
 refine Bx' 33 (Ai x0 a0_2 n0_2) hs0 (fun b21 w22 hs23 => ?_)
 refine Vs 1 ?_
 refine Nss (Rg [0, 1, 2] ?_)
 refine Ld hs23.at0 ?_
 obtain ⟨r24, hr25, h26⟩ := bind_some h
 refine Cl' Gy hs23 (KY N w22 F0 hs23.pers x0 a0_2 n0_2 hb0_2 hs0_2 _ hr25) ?_
 rintro _ F1 w28 hs29 le30 rfl
 refine Vs 1 ?_
 refine Nt ?_
 refine Rt ?_
 obtain rfl := Ab h26
 exact Re [(vi r24)] hs29 rfl
theorem DQ {a b : Expr} (h1 : a.Op = b.Op) (h2 : a.Value = b.Value) (h3 : a.Kids = b.Kids) : a = b := by
 obtain ⟨_, _, _⟩ := a; obtain ⟨_, _, _⟩ := b; simp only at h1 h2 h3; subst h1 h2 h3; rfl
noncomputable def eqv (a b : Expr) : Bool := @decide (a = b) (Classical.propDecidable _)
theorem Ko {a b : Expr} : eqv a b = true ↔ a = b := by unfold eqv; simp
theorem Lm {a b : Expr} : eqv a b = false ↔ a ≠ b := by unfold eqv; simp
theorem MN (a : Expr) : eqv a a = true := Ko.2 rfl
theorem Ok {l m : List Expr} (h : l.length = m.length) : ((List.range l.length).any fun i => !((l[i]?.bind fun x => m[i]?.map fun y => eqv x y) == some true)) = false ↔ l = m := by
 constructor
 ·intro hn
  apply List.ext_getElem h
  intro i h1 h2
  rw [List.any_eq_false] at hn
  have := hn i (by simpa using h1)
  rw [List.getElem?_eq_getElem h1, List.getElem?_eq_getElem h2] at this
  simpa [Ko] using this
 ·rintro rfl
  rw [List.any_eq_false]
  intro i hi
  rw [List.getElem?_eq_getElem (by simpa using hi)]
  simp [MN]
section
variable {M : Nat}
theorem Oc : ∀ {n k : Nat} {a b : Expr}, Ht M n a -> n <= k -> (J5 M k).q27 a b = some (eqv a b)
 | 0, _, _, _, h, _ => h.elim
 | n + 1, 0, _, _, _, h => absurd h (by omega)
 | n + 1, k + 1, a, b, ⟨h1, h2, h3⟩, hk => by
  show DJ M (J5 M k).q27 a b = _
  unfold DJ
  by_cases hc : a.Op = b.Op /\ a.Value = b.Value /\ a.Kids.length = b.Kids.length
  ·obtain ⟨c1, c2, c3⟩ := hc
   have : ((a.Op != b.Op) || ((a.Value != b.Value) || ((a.Kids.length : Int) != (b.Kids.length : Int)))) = false := by simp [c1, c2, c3]
   rw [this, cond_false]
   have hit := Ew (List.range a.Kids.length) (fun i => !((a.Kids[i]?.bind fun x => b.Kids[i]?.map fun y => eqv x y) == some true)) (fun _ => false) (body := CE M (J5 M k).q27 a b) (N := M)
    (by
     intro i hi
     simp only [List.length_range] at hi
     unfold CE
     rw [HO hi, cond_true, DK hi, Option.bind_some, DK (show i < b.Kids.length by omega), Option.bind_some, Oc (h3 _ (List.getElem_mem hi)) (by omega)]
     simp only [Option.bind_some, List.getElem_range]
     rw [List.getElem?_eq_getElem hi, List.getElem?_eq_getElem (show i < b.Kids.length by omega)]
     simp only [Option.bind_some, Option.map_some]
     cases eqv a.Kids[i] b.Kids[i] <;> rfl)
    (by unfold CE; rw [List.length_range, Jx, cond_false]) (by rw [List.length_range]; exact h1) (by rw [List.length_range]; exact h2)
   rw [hit]
   cases ha : (List.range a.Kids.length).any fun i => !((a.Kids[i]?.bind fun x => b.Kids[i]?.map fun y => eqv x y) == some true) with
   | false =>
    have := (Ok c3).1 ha
    have : eqv a b = true := Ko.2 (DQ c1 c2 this)
    rw [this]; rfl
   | true =>
    have : eqv a b = false := Lm.2 (by
     rintro rfl
     have := (Ok (l := a.Kids) (m := a.Kids) rfl).2 rfl
     rw [ha] at this; cases this)
    rw [this]; rfl
  ·have : ((a.Op != b.Op) || ((a.Value != b.Value) || ((a.Kids.length : Int) != (b.Kids.length : Int)))) = true := by
    rw [MF]
    apply Classical.byContradiction
    intro hn
    rw [Bool.not_eq_true, Bool.or_eq_false_iff, Bool.or_eq_false_iff] at hn
    simp at hn
    exact hc hn
   rw [this, cond_true]
   have : eqv a b = false := Lm.2 (by rintro rfl; exact hc ⟨rfl, rfl, rfl⟩)
   rw [this]
end
def Fit (N : Nat) (e : Expr) : Prop := ∃ n, Ht N n e /\ 2 * n + 10 <= N
section
variable {N : Nat} {e : Expr} (h : Fit N e)
include h
theorem Qd : Gh N e = some (nd e) := by obtain ⟨n, h1, h2⟩ := h; exact Ob h1 (by omega)
theorem O9 : Jm N e = some (dp e) := by obtain ⟨n, h1, h2⟩ := h; exact MJ h1 (by omega)
theorem LH : DM N e = some (dp e) := by obtain ⟨n, h1, h2⟩ := h; exact Od h1 (by omega)
theorem Mm : Db N e = some (kd e) := by obtain ⟨n, h1, h2⟩ := h; exact MK h1 (by omega)
theorem Q3 : J0 N e = some (kd e) := by obtain ⟨n, h1, h2⟩ := h; exact Nw h1 (by omega) (by omega)
theorem Qe (b : Expr) : EL N e b = some (eqv e b) := by obtain ⟨n, h1, h2⟩ := h; exact Oc h1 (by omega)
theorem Qc : EN N e = some (nd e) := by unfold EN; rw [Qd h]; rfl
end
def IH (e : Expr) : Bool := decide (dp e <= 32) && decide (kd e ≠ 0)
section
variable {N : Nat} {e : Expr} (h : Fit N e)
include h
theorem Qb : CW N e = some (IH e) := by
 unfold CW IH
 rw [Mm h, Option.bind_some]
 by_cases hk : kd e = 0
 ·simp [hk]
 ·rw [show (kd e != 0) = true by simpa using hk, cond_true, LH h]; simp [hk]
end
section
open Go.ChangeShapes Go.WideShapes Go.ChangeAt Go.RowKit
def MC (x : Expr) : Prop := ∃ n, Ht 3518437208781 n x
theorem Of {M : Nat} : ∀ {l : List Expr}, (∀ x, x ∈ l -> ∃ n, Ht M n x) -> ∃ n, ∀ x, x ∈ l -> Ht M n x
 | [], _ => ⟨0, fun x hx => by cases hx⟩
 | a :: l, h => by
  obtain ⟨n, hn⟩ := h a (List.mem_cons_self ..)
  obtain ⟨m, hm⟩ := Of fun x hx => h x (List.mem_cons_of_mem _ hx)
  refine ⟨max n m, fun x hx => ?_⟩
  rcases List.mem_cons.1 hx with rfl | hx
  ·exact hn.le (by omega)
  ·exact (hm x hx).le (by omega)
theorem fld {H : Type} {enc : TypeId × Value -> H} {P : Program} {W : World} {fuel : Nat} {t e : TypeId} {cs : List Value} {x : DataW H × List MemPlace} {i off c : Nat} (hf : fieldAt P t i = some (e, off)) (hc : P.cellsOf e = c)
  (h : DataW.trod enc P W 0 (fun _ => true) true fuel t cs = some x) (hw : SzW P t x.1) : ∃ n y, fuel = n + 1 /\ DataW.trod enc P W 0 (fun _ => true) true n e ((cs.drop off).take c) = some y /\ SzW P e y.1 := by
 unfold fieldAt at hf
 cases hu : P.underlying t with
 | none => rw [hu] at hf; cases hf
 | some k =>
  rw [hu] at hf
  cases k <;> simp only at hf <;> first | cases hf | skip
  rename_i fs
  cases hi : fs[i]? with
  | none => rw [hi] at hf; cases hf
  | some f =>
   rw [hi] at hf
   simp only [Option.map_some, Option.some.injEq, Prod.mk.injEq] at hf
   obtain ⟨rfl, rfl⟩ := hf
   obtain ⟨xs, n, rfl, rfl, hlen, hxl, hf⟩ := DataW.trod_struct hu h
   have hlt : i < xs.length := by
    rw [hxl]
    rcases Nat.lt_or_ge i fs.size with h' | h'
    ·exact h'
    ·rw [Array.getElem?_eq_none h'] at hi; cases hi
   have := hf i f hi
   rw [List.getElem?_eq_getElem hlt, hc] at this
   refine ⟨n, _, rfl, this, ?_⟩
   unfold SzW at hw
   simp only [DataW.weights, hu] at hw
   refine SzW.each hw (j := i) ?_ ?_
   ·rw [List.getElem?_map, Array.getElem?_toList, hi]; rfl
   ·rw [List.getElem?_map, List.getElem?_eq_getElem hlt]; rfl
theorem Ht.mk {M n : Nat} {e : Expr} (h1 : e.Kids.length < M) (h2 : e.Kids.length < 9223372036854775808) (h3 : ∀ x, x ∈ e.Kids -> Ht M n x) : Ht M (n + 1) e := ⟨h1, h2, h3⟩
end

def NI (sR99 : Expr -> (List Int) -> Option Int) : Prop := ∀ (w0 : World) (F0 : Mem) (hF : S1 w0 F0) (x0 : Expr) (a0_2 : S0) (n0_2 : Nat) (hb0_2 : LC x0.Kids.length n0_2) (hs0_2 : SlA Ar F0 a0_2 x0.Kids) (x1 : (List Int)) (a1_0 : S0) (n1_0 : Nat) (hb1_0 : LC x1.length n1_0) (hs1_0 : SlA Ci F0 a1_0 x1) (r : Int), sR99 x0 x1 = some r -> Calls Tryz.prog 99 ([(.agg #[(.int .i64 x0.Op), (.int .i64 x0.Value), (.slice a0_2 x0.Kids.length n0_2)]), (.slice a1_0 x1.length n1_0)] : List Value).toArray w0 (AV w0 F0 fun F' v => v = (.int .i64 r))
theorem Dg : Aq Tryz.prog 99 := fun _ _ => by kernel_rfl
def L7 (sR155 : Int -> Expr -> (List Int) -> Option Int) : Prop := ∀ (w0 : World) (F0 : Mem) (hF : S1 w0 F0) (x0 : Int) (bz0 : Nat) (z0 : Expr) (az0_2 : S0) (nz0_2 : Nat) (hbz0_2 : LC z0.Kids.length nz0_2) (hsz0_2 : SlA Ar F0 az0_2 z0.Kids) (hz0 : F0 bz0 = some (.cells #[(.int .i64 z0.Op), (.int .i64 z0.Value), (.slice az0_2 z0.Kids.length nz0_2)] 33 (0, 0))) (bz1 : Nat) (z1 : (List Int)) (az1_0 : S0) (nz1_0 : Nat) (hbz1_0 : LC z1.length nz1_0) (hsz1_0 : SlA Ci F0 az1_0 z1) (hz1 : F0 bz1 = some (.cells #[(.slice az1_0 z1.length nz1_0)] 47 (0, 0))) (r : Int), sR155 x0 z0 z1 = some r -> Calls Tryz.prog 155 ([(.int .i64 x0), (.pointer (some ⟨bz0, 0, none⟩)), (.pointer (some ⟨bz1, 0, none⟩))] : List Value).toArray w0 (AV w0 F0 fun F' v => v = (.int .i64 r))
theorem AE : Aq Tryz.prog 155 := fun _ _ => by kernel_rfl
def FH (N : Nat) (sR99 : Expr -> (List Int) -> Option Int) (x0 : Int) (z0 : Expr) (z1 : (List Int)) : Option Int :=
 (((idx z0.Kids x0).bind fun x31 => ((sR99 x31 z1).bind fun r45 => some r45)).bind fun j26 => some j26)
theorem Ja (N : Nat) (sR99 : Expr -> (List Int) -> Option Int) (hsR99 : NI sR99) (w0 : World) (F0 : Mem) (hF : S1 w0 F0) (x0 : Int) (bz0 : Nat) (z0 : Expr) (az0_2 : S0) (nz0_2 : Nat) (hbz0_2 : LC z0.Kids.length nz0_2) (hsz0_2 : SlA Ar F0 az0_2 z0.Kids) (hz0 : F0 bz0 = some (oc (Ai z0 az0_2 nz0_2) 33)) (bz1 : Nat) (z1 : (List Int)) (az1_0 : S0) (nz1_0 : Nat) (hbz1_0 : LC z1.length nz1_0) (hsz1_0 : SlA Ci F0 az1_0 z1) (hz1 : F0 bz1 = some (oc #[(.slice az1_0 z1.length nz1_0)] 47)) (r : Int) (h : FH N sR99 x0 z0 z1 = some r) :
  Calls Tryz.prog 155 ([(vi x0), (pt bz0 0), (pt bz1 0)] : List Value).toArray w0 (AV w0 F0 fun F' v => v = (vi r)) := by
 have hs0 := SI hF
 refine Go 12 Tryz.func155 ?_
 refine Sq (Rg [0] ?_)
 refine Vs 1 ?_
 refine Nss ?_
 obtain ⟨j26, hj29, h30⟩ := bind_some h
 refine RD 8 8 [] [] hs0 (fun f w => ∃ (F1 : Mem), HS w0 F0 w F1 [] /\ SG F0 F1 /\ FI f [] [(4, (vi j26))]) (fun wd21 hw22 => ?_) ?_
 ·refine Dv [0] ?_
  refine Dl 1 (fun _ hq => (hq.1.1 _ _ hz0)) ?_
  refine Dv [2] ?_
  obtain ⟨x31, hx32, h34⟩ := bind_some hj29
  obtain ⟨hi33, hx32'⟩ := Aw hx32
  obtain ⟨b35, o36, C37, E38, fz39, rfl, hF41, hE42⟩ := SQ hsz0_2 hx32'
  obtain ⟨ae43_2, ne43_2, hc44, hbe43_2, hse43_2⟩ := (AR (hE42 _ _ hx32'))
  refine Di 3 hi33 ?_
  refine Dx 4 0 (fun _ hq => hq.1.1 _ _ hF41) hc44 ?_
  refine Dl 5 (fun _ hq => (hq.1.1 _ _ hz1)) ?_
  refine D1 6 ?_
  obtain ⟨r45, hr46, h47⟩ := bind_some h34
  refine DCl Dg hw22 (hsR99 wd21 F0 hw22.pers x31 ae43_2 ne43_2 hbe43_2 hse43_2 z1 az1_0 nz1_0 hbz1_0 hsz1_0 _ hr46) ?_
  rintro _ F2 w49 hs50 le51 rfl
  refine Dv [7] ?_
  obtain rfl := Ab h47
  exact SV (by kernel_rfl) ⟨F2, hs50, le51, fI⟩
 ·rintro f w23 ⟨F1, hs24, le25, ⟨_, rfl⟩⟩
  refine Ac ?_
  refine Rt ?_
  obtain rfl := Ab h30
  exact Re [(vi j26)] hs24 rfl
def IM (N : Nat) (x0 : Bool) : Option Int :=
 (bif x0 then some 1 else some 0)
theorem Iv : Aq Tryz.prog 156 := fun _ _ => by kernel_rfl
theorem Ju (N : Nat) (w0 : World) (F0 : Mem) (hF : S1 w0 F0) (x0 : Bool) (r : Int) (h : IM N x0 = some r) :
  Calls Tryz.prog 156 ([(.bool x0)] : List Value).toArray w0 (AV w0 F0 fun F' v => v = (vi r)) := by
 have hs0 := SI hF
 refine Go 4 Tryz.func156 ?_
 refine Sq (Rg [0] ?_)
 refine Vs 1 ?_
 refine Nss ?_
 refine Sq (Rg [0] ?_)
 refine Vs 1 ?_
 refine Nt ?_
 refine Cd h (fun hb21 h22 => ?_) (fun hb21 h23 => ?_)
 ·refine Sq (Rg [0] ?_)
  refine Vs 1 ?_
  refine Nt ?_
  refine Rt ?_
  refine Aj ?_
  obtain rfl := Ab h22
  exact Re [(vi 1)] hs0 rfl
 ·refine Sc ?_
  refine Ac ?_
  refine Sq (Rg [0] ?_)
  refine Vs 1 ?_
  refine Nt ?_
  refine Rt ?_
  obtain rfl := Ab h23
  exact Re [(vi 0)] hs0 rfl
def Fu (N : Nat) (x0 : Int) : Option Int :=
 some (max (-1000000) (min 1000000 x0))
theorem E1 : Aq Tryz.prog 157 := fun _ _ => by kernel_rfl
theorem FD (N : Nat) (w0 : World) (F0 : Mem) (hF : S1 w0 F0) (x0 : Int) (r : Int) (h : Fu N x0 = some r) :
  Calls Tryz.prog 157 ([(vi x0)] : List Value).toArray w0 (AV w0 F0 fun F' v => v = (vi r)) := by
 have hs0 := SI hF
 refine Go 6 Tryz.func157 ?_
 refine Sq (Rg [0] ?_)
 refine Vs 1 ?_
 refine Nss (Rg [0, 1, 2, 3] ?_)
 refine Vs 4 ?_
 refine Nt ?_
 refine Rt ?_
 obtain rfl := Ab h
 exact Re [(vi (max (-1000000) (min 1000000 x0)))] hs0 rfl
def G9 (N : Nat) (sR155 : Int -> Expr -> (List Int) -> Option Int) (x0 : Expr) (x1 : (List Int)) : Option Int :=
 (bif (x0.Op == 1) then some x0.Value else (bif (x0.Op == 2) then ((idx x1 x0.Value).bind fun x33 => some x33) else (bif (x0.Op == 3) then ((sR155 0 x0 x1).bind fun r56 => some (W64 (1 - r56))) else (bif (x0.Op == 4) then ((sR155 0 x0 x1).bind fun r73 => ((sR155 1 x0 x1).bind fun r81 => some (W64 (r73 * r81)))) else (bif (x0.Op == 5) then ((sR155 0 x0 x1).bind fun r98 => ((sR155 1 x0 x1).bind fun r106 => some (max r98 r106))) else (bif (x0.Op == 6) then ((sR155 0 x0 x1).bind fun r123 => ((sR155 1 x0 x1).bind fun r131 => ((IM N (r123 == r131)).bind fun r139 => some r139))) else (bif (x0.Op == 7) then ((sR155 0 x0 x1).bind fun r156 => ((sR155 1 x0 x1).bind fun r164 => ((IM N (decide (r156 < r164))).bind fun r172 => some r172))) else (bif (x0.Op == 8) then ((sR155 0 x0 x1).bind fun r189 => ((sR155 1 x0 x1).bind fun r197 => ((Fu N (W64 (r189 + r197))).bind fun r205 => some r205))) else (bif (x0.Op == 9) then ((sR155 0 x0 x1).bind fun r222 => ((sR155 1 x0 x1).bind fun r230 => ((Fu N (W64 (r222 - r230))).bind fun r238 => some r238))) else (bif (x0.Op == 10) then ((sR155 0 x0 x1).bind fun r255 => ((sR155 1 x0 x1).bind fun r263 => ((Fu N (W64 (r255 * r263))).bind fun r271 => some r271))) else (bif (x0.Op == 11) then ((sR155 0 x0 x1).bind fun r288 => ((sR155 (W64 (2 - r288)) x0 x1).bind fun r296 => some r296)) else some 0)))))))))))
theorem KE (N : Nat) (sR155 : Int -> Expr -> (List Int) -> Option Int) (hsR155 : L7 sR155) (w0 : World) (F0 : Mem) (hF : S1 w0 F0) (x0 : Expr) (a0_2 : S0) (n0_2 : Nat) (hb0_2 : LC x0.Kids.length n0_2) (hs0_2 : SlA Ar F0 a0_2 x0.Kids) (x1 : (List Int)) (a1_0 : S0) (n1_0 : Nat) (hb1_0 : LC x1.length n1_0) (hs1_0 : SlA Ci F0 a1_0 x1) (r : Int) (h : G9 N sR155 x0 x1 = some r) :
  Calls Tryz.prog 99 ([(.agg (Ai x0 a0_2 n0_2)), (.slice a1_0 x1.length n1_0)] : List Value).toArray w0 (AV w0 F0 fun F' v => v = (vi r)) := by
 have hs0 := SI hF
 refine Go 86 Tryz.func99 ?_
 refine Sq (Rg [0, 1, 2] ?_)
 refine Bx' 33 (Ai x0 a0_2 n0_2) hs0 (fun b21 w22 hs23 => ?_)
 refine Bx' 47 #[(.slice a1_0 x1.length n1_0)] hs23 (fun b24 w25 hs26 => ?_)
 refine Vs 1 ?_
 refine Nss (Rg [0, 1] ?_)
 refine Vs 2 ?_
 refine Nss ?_
 refine Sq (Rg [0, 1] ?_)
 refine Vs 1 ?_
 refine Ld hs26.at1 ?_
 refine Nt ?_
 refine Bk ?_
 refine Sq (Rg [0, 1] ?_)
 refine Vs 2 ?_
 refine Nt ?_
 refine Cd h (fun hb27 h28 => ?_) (fun hb27 h29 => ?_)
 ·refine Sq (Rg [0, 1, 2] ?_)
  refine Vs 1 ?_
  refine Ld hs26.at1 ?_
  refine Vs 1 ?_
  refine Nt ?_
  refine Rt ?_
  refine Al ?_
  refine Aj ?_
  obtain rfl := Ab h28
  exact Re [(vi x0.Value)] hs26 rfl
 ·refine Sq (Rg [0, 1] ?_)
  refine Vs 2 ?_
  refine Nt ?_
  refine Cd h29 (fun hb30 h31 => ?_) (fun hb30 h32 => ?_)
  ·refine Sq (Rg [0, 1, 2, 3, 4, 5] ?_)
   refine Ld hs26.at0 ?_
   refine Vs 1 ?_
   refine Ld hs26.at1 ?_
   obtain ⟨x33, hx34, h36⟩ := bind_some h31
   obtain ⟨hi35, hx34'⟩ := Aw hx34
   obtain ⟨b37, o38, C39, E40, fz41, rfl, hF43, hE44⟩ := SQ hs1_0 hx34'
   have hc46 := hE44 _ _ hx34'
   refine Ix hi35 ?_
   refine Lx 0 (hs26.pers _ _ hF43) hc46 ?_
   refine Vs 1 ?_
   refine Nt ?_
   refine Rt ?_
   refine Al ?_
   refine Aj ?_
   obtain rfl := Ab h36
   exact Re [(vi x33)] hs26 rfl
  ·refine Sq (Rg [0, 1] ?_)
   refine Vs 2 ?_
   refine Nt ?_
   refine Cd h32 (fun hb47 h48 => ?_) (fun hb47 h49 => ?_)
   ·refine Sq (Rg [0, 1, 2, 3] ?_)
    refine Vs 1 ?_
    obtain ⟨F1, hs50, le51, hF52⟩ := hs26.fc1
    obtain ⟨F2, hs53, le54, hF55⟩ := hs50.fc0
    obtain ⟨r56, hr57, h58⟩ := bind_some h48
    refine Cl' AE hs53 (hsR155 w25 F2 hs53.pers 0 b21 x0 a0_2 n0_2 hb0_2 (SJ hs0_2 (le51.trans le54)) (le54 _ _ hF52) b24 x1 a1_0 n1_0 hb1_0 (SJ hs1_0 (le51.trans le54)) hF55 _ hr57) ?_
    rintro _ F3 w60 hs61 le62 rfl
    refine Vs 2 ?_
    refine Nt ?_
    refine Rt ?_
    refine Al ?_
    refine Aj ?_
    obtain rfl := Ab h58
    exact Re [(vi (W64 (1 - r56)))] hs61 rfl
   ·refine Sq (Rg [0, 1] ?_)
    refine Vs 2 ?_
    refine Nt ?_
    refine Cd h49 (fun hb64 h65 => ?_) (fun hb64 h66 => ?_)
    ·refine Sq (Rg [0, 1, 2, 3, 4, 5] ?_)
     refine Vs 1 ?_
     obtain ⟨F4, hs67, le68, hF69⟩ := hs26.fc1
     obtain ⟨F5, hs70, le71, hF72⟩ := hs67.fc0
     obtain ⟨r73, hr74, h75⟩ := bind_some h65
     refine Cl' AE hs70 (hsR155 w25 F5 hs70.pers 0 b21 x0 a0_2 n0_2 hb0_2 (SJ hs0_2 (le68.trans le71)) (le71 _ _ hF69) b24 x1 a1_0 n1_0 hb1_0 (SJ hs1_0 (le68.trans le71)) hF72 _ hr74) ?_
     rintro _ F6 w77 hs78 le79 rfl
     refine Vs 1 ?_
     obtain ⟨r81, hr82, h83⟩ := bind_some h75
     refine Cl' AE hs78 (hsR155 w77 F6 hs78.pers 1 b21 x0 a0_2 n0_2 hb0_2 (SJ hs0_2 ((le68.trans le71).trans le79)) ((le71.trans le79) _ _ hF69) b24 x1 a1_0 n1_0 hb1_0 (SJ hs1_0 ((le68.trans le71).trans le79)) (le79 _ _ hF72) _ hr82) ?_
     rintro _ F7 w85 hs86 le87 rfl
     refine Vs 2 ?_
     refine Nt ?_
     refine Rt ?_
     refine Al ?_
     refine Aj ?_
     obtain rfl := Ab h83
     exact Re [(vi (W64 (r73 * r81)))] hs86 rfl
    ·refine Sq (Rg [0, 1] ?_)
     refine Vs 2 ?_
     refine Nt ?_
     refine Cd h66 (fun hb89 h90 => ?_) (fun hb89 h91 => ?_)
     ·refine Sq (Rg [0, 1, 2, 3, 4, 5] ?_)
      refine Vs 1 ?_
      obtain ⟨F8, hs92, le93, hF94⟩ := hs26.fc1
      obtain ⟨F9, hs95, le96, hF97⟩ := hs92.fc0
      obtain ⟨r98, hr99, h100⟩ := bind_some h90
      refine Cl' AE hs95 (hsR155 w25 F9 hs95.pers 0 b21 x0 a0_2 n0_2 hb0_2 (SJ hs0_2 (le93.trans le96)) (le96 _ _ hF94) b24 x1 a1_0 n1_0 hb1_0 (SJ hs1_0 (le93.trans le96)) hF97 _ hr99) ?_
      rintro _ F10 w102 hs103 le104 rfl
      refine Vs 1 ?_
      obtain ⟨r106, hr107, h108⟩ := bind_some h100
      refine Cl' AE hs103 (hsR155 w102 F10 hs103.pers 1 b21 x0 a0_2 n0_2 hb0_2 (SJ hs0_2 ((le93.trans le96).trans le104)) ((le96.trans le104) _ _ hF94) b24 x1 a1_0 n1_0 hb1_0 (SJ hs1_0 ((le93.trans le96).trans le104)) (le104 _ _ hF97) _ hr107) ?_
      rintro _ F11 w110 hs111 le112 rfl
      refine Vs 2 ?_
      refine Nt ?_
      refine Rt ?_
      refine Al ?_
      refine Aj ?_
      obtain rfl := Ab h108
      exact Re [(vi (max r98 r106))] hs111 rfl
     ·refine Sq (Rg [0, 1] ?_)
      refine Vs 2 ?_
      refine Nt ?_
      refine Cd h91 (fun hb114 h115 => ?_) (fun hb114 h116 => ?_)
      ·refine Sq (Rg [0, 1, 2, 3, 4, 5, 6] ?_)
       refine Vs 1 ?_
       obtain ⟨F12, hs117, le118, hF119⟩ := hs26.fc1
       obtain ⟨F13, hs120, le121, hF122⟩ := hs117.fc0
       obtain ⟨r123, hr124, h125⟩ := bind_some h115
       refine Cl' AE hs120 (hsR155 w25 F13 hs120.pers 0 b21 x0 a0_2 n0_2 hb0_2 (SJ hs0_2 (le118.trans le121)) (le121 _ _ hF119) b24 x1 a1_0 n1_0 hb1_0 (SJ hs1_0 (le118.trans le121)) hF122 _ hr124) ?_
       rintro _ F14 w127 hs128 le129 rfl
       refine Vs 1 ?_
       obtain ⟨r131, hr132, h133⟩ := bind_some h125
       refine Cl' AE hs128 (hsR155 w127 F14 hs128.pers 1 b21 x0 a0_2 n0_2 hb0_2 (SJ hs0_2 ((le118.trans le121).trans le129)) ((le121.trans le129) _ _ hF119) b24 x1 a1_0 n1_0 hb1_0 (SJ hs1_0 ((le118.trans le121).trans le129)) (le129 _ _ hF122) _ hr132) ?_
       rintro _ F15 w135 hs136 le137 rfl
       refine Vs 1 ?_
       obtain ⟨r139, hr140, h141⟩ := bind_some h133
       refine Cl' Iv hs136 (Ju N w135 F15 hs136.pers ((r123 == r131)) _ hr140) ?_
       rintro _ F16 w143 hs144 le145 rfl
       refine Vs 1 ?_
       refine Nt ?_
       refine Rt ?_
       refine Al ?_
       refine Aj ?_
       obtain rfl := Ab h141
       exact Re [(vi r139)] hs144 rfl
      ·refine Sq (Rg [0, 1] ?_)
       refine Vs 2 ?_
       refine Nt ?_
       refine Cd h116 (fun hb147 h148 => ?_) (fun hb147 h149 => ?_)
       ·refine Sq (Rg [0, 1, 2, 3, 4, 5, 6] ?_)
        refine Vs 1 ?_
        obtain ⟨F17, hs150, le151, hF152⟩ := hs26.fc1
        obtain ⟨F18, hs153, le154, hF155⟩ := hs150.fc0
        obtain ⟨r156, hr157, h158⟩ := bind_some h148
        refine Cl' AE hs153 (hsR155 w25 F18 hs153.pers 0 b21 x0 a0_2 n0_2 hb0_2 (SJ hs0_2 (le151.trans le154)) (le154 _ _ hF152) b24 x1 a1_0 n1_0 hb1_0 (SJ hs1_0 (le151.trans le154)) hF155 _ hr157) ?_
        rintro _ F19 w160 hs161 le162 rfl
        refine Vs 1 ?_
        obtain ⟨r164, hr165, h166⟩ := bind_some h158
        refine Cl' AE hs161 (hsR155 w160 F19 hs161.pers 1 b21 x0 a0_2 n0_2 hb0_2 (SJ hs0_2 ((le151.trans le154).trans le162)) ((le154.trans le162) _ _ hF152) b24 x1 a1_0 n1_0 hb1_0 (SJ hs1_0 ((le151.trans le154).trans le162)) (le162 _ _ hF155) _ hr165) ?_
        rintro _ F20 w168 hs169 le170 rfl
        refine Vs 1 ?_
        obtain ⟨r172, hr173, h174⟩ := bind_some h166
        refine Cl' Iv hs169 (Ju N w168 F20 hs169.pers ((decide (r156 < r164))) _ hr173) ?_
        rintro _ F21 w176 hs177 le178 rfl
        refine Vs 1 ?_
        refine Nt ?_
        refine Rt ?_
        refine Al ?_
        refine Aj ?_
        obtain rfl := Ab h174
        exact Re [(vi r172)] hs177 rfl
       ·refine Sq (Rg [0, 1] ?_)
        refine Vs 2 ?_
        refine Nt ?_
        refine Cd h149 (fun hb180 h181 => ?_) (fun hb180 h182 => ?_)
        ·refine Sq (Rg [0, 1, 2, 3, 4, 5, 6] ?_)
         refine Vs 1 ?_
         obtain ⟨F22, hs183, le184, hF185⟩ := hs26.fc1
         obtain ⟨F23, hs186, le187, hF188⟩ := hs183.fc0
         obtain ⟨r189, hr190, h191⟩ := bind_some h181
         refine Cl' AE hs186 (hsR155 w25 F23 hs186.pers 0 b21 x0 a0_2 n0_2 hb0_2 (SJ hs0_2 (le184.trans le187)) (le187 _ _ hF185) b24 x1 a1_0 n1_0 hb1_0 (SJ hs1_0 (le184.trans le187)) hF188 _ hr190) ?_
         rintro _ F24 w193 hs194 le195 rfl
         refine Vs 1 ?_
         obtain ⟨r197, hr198, h199⟩ := bind_some h191
         refine Cl' AE hs194 (hsR155 w193 F24 hs194.pers 1 b21 x0 a0_2 n0_2 hb0_2 (SJ hs0_2 ((le184.trans le187).trans le195)) ((le187.trans le195) _ _ hF185) b24 x1 a1_0 n1_0 hb1_0 (SJ hs1_0 ((le184.trans le187).trans le195)) (le195 _ _ hF188) _ hr198) ?_
         rintro _ F25 w201 hs202 le203 rfl
         refine Vs 1 ?_
         obtain ⟨r205, hr206, h207⟩ := bind_some h199
         refine Cl' E1 hs202 (FD N w201 F25 hs202.pers ((W64 (r189 + r197))) _ hr206) ?_
         rintro _ F26 w209 hs210 le211 rfl
         refine Vs 1 ?_
         refine Nt ?_
         refine Rt ?_
         refine Al ?_
         refine Aj ?_
         obtain rfl := Ab h207
         exact Re [(vi r205)] hs210 rfl
        ·refine Sq (Rg [0, 1] ?_)
         refine Vs 2 ?_
         refine Nt ?_
         refine Cd h182 (fun hb213 h214 => ?_) (fun hb213 h215 => ?_)
         ·refine Sq (Rg [0, 1, 2, 3, 4, 5, 6] ?_)
          refine Vs 1 ?_
          obtain ⟨F27, hs216, le217, hF218⟩ := hs26.fc1
          obtain ⟨F28, hs219, le220, hF221⟩ := hs216.fc0
          obtain ⟨r222, hr223, h224⟩ := bind_some h214
          refine Cl' AE hs219 (hsR155 w25 F28 hs219.pers 0 b21 x0 a0_2 n0_2 hb0_2 (SJ hs0_2 (le217.trans le220)) (le220 _ _ hF218) b24 x1 a1_0 n1_0 hb1_0 (SJ hs1_0 (le217.trans le220)) hF221 _ hr223) ?_
          rintro _ F29 w226 hs227 le228 rfl
          refine Vs 1 ?_
          obtain ⟨r230, hr231, h232⟩ := bind_some h224
          refine Cl' AE hs227 (hsR155 w226 F29 hs227.pers 1 b21 x0 a0_2 n0_2 hb0_2 (SJ hs0_2 ((le217.trans le220).trans le228)) ((le220.trans le228) _ _ hF218) b24 x1 a1_0 n1_0 hb1_0 (SJ hs1_0 ((le217.trans le220).trans le228)) (le228 _ _ hF221) _ hr231) ?_
          rintro _ F30 w234 hs235 le236 rfl
          refine Vs 1 ?_
          obtain ⟨r238, hr239, h240⟩ := bind_some h232
          refine Cl' E1 hs235 (FD N w234 F30 hs235.pers ((W64 (r222 - r230))) _ hr239) ?_
          rintro _ F31 w242 hs243 le244 rfl
          refine Vs 1 ?_
          refine Nt ?_
          refine Rt ?_
          refine Al ?_
          refine Aj ?_
          obtain rfl := Ab h240
          exact Re [(vi r238)] hs243 rfl
         ·refine Sq (Rg [0, 1] ?_)
          refine Vs 2 ?_
          refine Nt ?_
          refine Cd h215 (fun hb246 h247 => ?_) (fun hb246 h248 => ?_)
          ·refine Sq (Rg [0, 1, 2, 3, 4, 5, 6] ?_)
           refine Vs 1 ?_
           obtain ⟨F32, hs249, le250, hF251⟩ := hs26.fc1
           obtain ⟨F33, hs252, le253, hF254⟩ := hs249.fc0
           obtain ⟨r255, hr256, h257⟩ := bind_some h247
           refine Cl' AE hs252 (hsR155 w25 F33 hs252.pers 0 b21 x0 a0_2 n0_2 hb0_2 (SJ hs0_2 (le250.trans le253)) (le253 _ _ hF251) b24 x1 a1_0 n1_0 hb1_0 (SJ hs1_0 (le250.trans le253)) hF254 _ hr256) ?_
           rintro _ F34 w259 hs260 le261 rfl
           refine Vs 1 ?_
           obtain ⟨r263, hr264, h265⟩ := bind_some h257
           refine Cl' AE hs260 (hsR155 w259 F34 hs260.pers 1 b21 x0 a0_2 n0_2 hb0_2 (SJ hs0_2 ((le250.trans le253).trans le261)) ((le253.trans le261) _ _ hF251) b24 x1 a1_0 n1_0 hb1_0 (SJ hs1_0 ((le250.trans le253).trans le261)) (le261 _ _ hF254) _ hr264) ?_
           rintro _ F35 w267 hs268 le269 rfl
           refine Vs 1 ?_
           obtain ⟨r271, hr272, h273⟩ := bind_some h265
           refine Cl' E1 hs268 (FD N w267 F35 hs268.pers ((W64 (r255 * r263))) _ hr272) ?_
           rintro _ F36 w275 hs276 le277 rfl
           refine Vs 1 ?_
           refine Nt ?_
           refine Rt ?_
           refine Al ?_
           refine Aj ?_
           obtain rfl := Ab h273
           exact Re [(vi r271)] hs276 rfl
          ·refine Sq (Rg [0, 1] ?_)
           refine Vs 2 ?_
           refine Nt ?_
           refine Cd h248 (fun hb279 h280 => ?_) (fun hb279 h281 => ?_)
           ·refine Sq (Rg [0, 1, 2, 3, 4, 5] ?_)
            refine Vs 2 ?_
            obtain ⟨F37, hs282, le283, hF284⟩ := hs26.fc1
            obtain ⟨F38, hs285, le286, hF287⟩ := hs282.fc0
            obtain ⟨r288, hr289, h290⟩ := bind_some h280
            refine Cl' AE hs285 (hsR155 w25 F38 hs285.pers 0 b21 x0 a0_2 n0_2 hb0_2 (SJ hs0_2 (le283.trans le286)) (le286 _ _ hF284) b24 x1 a1_0 n1_0 hb1_0 (SJ hs1_0 (le283.trans le286)) hF287 _ hr289) ?_
            rintro _ F39 w292 hs293 le294 rfl
            refine Vs 1 ?_
            obtain ⟨r296, hr297, h298⟩ := bind_some h290
            refine Cl' AE hs293 (hsR155 w292 F39 hs293.pers ((W64 (2 - r288))) b21 x0 a0_2 n0_2 hb0_2 (SJ hs0_2 ((le283.trans le286).trans le294)) ((le286.trans le294) _ _ hF284) b24 x1 a1_0 n1_0 hb1_0 (SJ hs1_0 ((le283.trans le286).trans le294)) (le294 _ _ hF287) _ hr297) ?_
            rintro _ F40 w300 hs301 le302 rfl
            refine Vs 1 ?_
            refine Nt ?_
            refine Rt ?_
            refine Al ?_
            refine Aj ?_
            obtain rfl := Ab h298
            exact Re [(vi r296)] hs301 rfl
           ·refine Sc ?_
            refine Ax ?_
            refine Ac ?_
            refine Sq (Rg [0] ?_)
            refine Vs 1 ?_
            refine Nt ?_
            refine Rt ?_
            obtain rfl := Ab h281
            exact Re [(vi 0)] hs26 rfl
structure R3 where
 q99 : Expr -> (List Int) -> Option Int
 q155 : Int -> Expr -> (List Int) -> Option Int
def J2 (N : Nat) : Nat -> R3
 | 0 => ⟨fun _ _ => none, fun _ _ _ => none⟩
 | k + 1 => ⟨G9 N (J2 N k).q155, FH N (J2 N k).q99⟩
theorem Mu (N : Nat) : ∀ k, NI (J2 N k).q99 /\ L7 (J2 N k).q155
 | 0 => ⟨(by unfold NI; intros; rename_i h; cases h), (by unfold L7; intros; rename_i h; cases h)⟩
 | k + 1 => by
  have ih := Mu N k
  exact ⟨@KE N (J2 N k).q155 ih.2, @Ja N (J2 N k).q99 ih.1⟩
def EH (N : Nat) (x0 : Expr) (x1 : (List Int)) : Option Int := (J2 N N).q99 x0 x1
theorem E3 (N : Nat) (w0 : World) (F0 : Mem) (hF : S1 w0 F0) (x0 : Expr) (a0_2 : S0) (n0_2 : Nat) (hb0_2 : LC x0.Kids.length n0_2) (hs0_2 : SlA Ar F0 a0_2 x0.Kids) (x1 : (List Int)) (a1_0 : S0) (n1_0 : Nat) (hb1_0 : LC x1.length n1_0) (hs1_0 : SlA Ci F0 a1_0 x1) (r : Int) (h : EH N x0 x1 = some r) :
  Calls Tryz.prog 99 ([(.agg #[(.int .i64 x0.Op), (.int .i64 x0.Value), (.slice a0_2 x0.Kids.length n0_2)]), (.slice a1_0 x1.length n1_0)] : List Value).toArray w0 (AV w0 F0 fun F' v => v = (.int .i64 r)) := (Mu N N).1 w0 F0 hF x0 a0_2 n0_2 hb0_2 hs0_2 x1 a1_0 n1_0 hb1_0 hs1_0 r h





def Cw (N : Nat) (x0 : (List Int)) (x1 : (Int -> Option Bool)) : Int -> Option (Bn Int Int) := fun s24 =>
 (bif (decide (s24 < (x0.length : Int))) then ((idx x0 s24).bind fun x47 => ((x1 x47).bind fun r61 => (bif r61 then some (.ret s24) else some (.next (W64 (s24 + 1)))))) else some (.done s24))
def CO (N : Nat) (x0 : (List Int)) (x1 : (Int -> Option Bool)) : Option Int :=
 ((AX (Cw N x0 x1) N 0).bind fun o => o.k (fun r => some r) (fun s33 => some (-1)))
theorem Ei : Aq Tryz.prog 197 := fun _ _ => by kernel_rfl
theorem EC (N : Nat) (w0 : World) (F0 : Mem) (hF : S1 w0 F0) (x0 : (List Int)) (a0_0 : S0) (n0_0 : Nat) (hb0_0 : LC x0.length n0_0) (hs0_0 : SlA Ci F0 a0_0 x0) (gx1 : FuncId) (fx1 kx1 : List Value) (x1 : Int -> Option Bool) (hox1 : Aq Tryz.prog gx1) (hpx1 : MX F0 gx1 fx1 kx1 x1) (r : Int) (h : CO N x0 x1 = some r) :
  Calls Tryz.prog 197 ([(.slice a0_0 x0.length n0_0), (.func (.func gx1) fx1.toArray kx1.toArray)] : List Value).toArray w0 (AV w0 F0 fun F' v => v = (vi r)) := by
 have hs0 := SI hF
 refine Go 19 Tryz.func197 ?_
 refine Sq (Rg [0] ?_)
 refine Vs 1 ?_
 refine Nss ?_
 refine Sq (Rg [0, 1, 2] ?_)
 refine Vs 3 ?_
 refine Nt ?_
 obtain ⟨o21, ho22, h23⟩ := bind_some h
 refine SN (fun f w => ∃ (s33 : Int) (F2 : Mem), o21 = .done s33 /\ HS w0 F0 w F2 [] /\ SG F0 F2 /\ FI f [] []) ?_ ?_
 ·refine Bk ?_
  refine SF (by kernel_rfl) (fun m f w => ∃ (s24 : Int) (F1 : Mem), AX (Cw N x0 x1) m s24 = some o21 /\ HS w0 F0 w F1 [] /\ SG F0 F1 /\ FI f [] [(0, (.slice a0_0 x0.length n0_0)), (1, (.func (.func gx1) fx1.toArray kx1.toArray)), (7, (vi (x0.length : Int))), (8, (vi s24))]) N ⟨0, F0, ho22, hs0, (SH _), fI⟩ ?_
  rintro m38 f w25 ⟨s24, F1, hit39, hs26, le27, ⟨_, rfl⟩⟩
  obtain ⟨m40, fl41, rfl, hb42, hnx43⟩ := Bf hit39
  refine Sq (Rg [0] ?_)
  refine Vs 1 ?_
  refine Nss ?_
  refine Cd hb42 (fun hb44 h45 => ?_) (fun hb44 h46 => ?_)
  ·refine Sc ?_
   refine Ac ?_
   refine Sq ?_
   refine Bk ?_
   refine Sq (Rg [0, 1] ?_)
   refine Vs 2 ?_
   refine Nss (Rg [0, 1, 2, 3, 4, 5] ?_)
   refine Vs 3 ?_
   obtain ⟨x47, hx48, h50⟩ := bind_some h45
   obtain ⟨hi49, hx48'⟩ := Aw hx48
   obtain ⟨b51, o52, C53, E54, fz55, rfl, hF57, hE58⟩ := SQ (SJ hs0_0 le27) hx48'
   have hc60 := hE58 _ _ hx48'
   refine Ix hi49 ?_
   refine Lx 0 (hs26.pers _ _ hF57) hc60 ?_
   obtain ⟨r61, hr62, h63⟩ := bind_some h50
   refine Cq hox1 hs26 (hpx1 w25 F1 x47 _ le27 hs26.pers hr62) ?_
   rintro _ F3 w65 hs66 le67 rfl
   refine Nt ?_
   refine Cd h63 (fun hb69 h70 => ?_) (fun hb69 h71 => ?_)
   ·refine Sq (Rg [0, 1] ?_)
    refine Vs 2 ?_
    refine Nt ?_
    refine Rt ?_
    refine Al ?_
    refine Aj ?_
    refine Aj ?_
    refine Al ?_
    have hret := Cs h70 hnx43
    subst hret
    refine .inr ?_
    refine Aj ?_
    obtain rfl := Ab h23
    exact Re [(vi s24)] hs66 rfl
   ·refine Sc ?_
    refine Ax ?_
    refine Ac ?_
    refine Rg [0, 1] ?_
    refine Vs 2 ?_
    refine SC ?_
    have hn72 := A8 h71 hnx43
    exact ⟨m40, Nat.lt_succ_self _, (W64 (s24 + 1)), F3, hn72, hs66, (le27.trans le67), fI⟩
  ·refine Ex ?_
   refine AF ?_
   refine AF ?_
   refine AZ rfl ?_
   have ho73 := Bm h46 hnx43
   exact .inl ⟨rfl, s24, F1, ho73, hs26, le27, fI⟩
 ·rintro f w34 ⟨s33, F2, rfl, hs35, le36, ⟨_, rfl⟩⟩
  have h74 := Cu h23
  refine Ac ?_
  refine Sq (Rg [0] ?_)
  refine Vs 1 ?_
  refine Nt ?_
  refine Rt ?_
  obtain rfl := Ab h74
  exact Re [(vi (-1))] hs35 rfl
def Cx (N : Nat) (x0 : (List Int)) (x1 : (Int -> Option Bool)) : Option Bool :=
 ((CO N x0 x1).bind fun r21 => some (decide (r21 >= 0)))
theorem DD : Aq Tryz.prog 153 := fun _ _ => by kernel_rfl
theorem DV (N : Nat) (w0 : World) (F0 : Mem) (hF : S1 w0 F0) (x0 : (List Int)) (a0_0 : S0) (n0_0 : Nat) (hb0_0 : LC x0.length n0_0) (hs0_0 : SlA Ci F0 a0_0 x0) (gx1 : FuncId) (fx1 kx1 : List Value) (x1 : Int -> Option Bool) (hox1 : Aq Tryz.prog gx1) (hpx1 : MX F0 gx1 fx1 kx1 x1) (r : Bool) (h : Cx N x0 x1 = some r) :
  Calls Tryz.prog 153 ([(.slice a0_0 x0.length n0_0), (.func (.func gx1) fx1.toArray kx1.toArray)] : List Value).toArray w0 (AV w0 F0 fun F' v => v = (.bool r)) := by
 have hs0 := SI hF
 refine Go 9 Tryz.func153 ?_
 refine Sq (Rg [0] ?_)
 refine Vs 1 ?_
 refine Nss (Rg [0, 1, 2, 3, 4] ?_)
 refine Vs 2 ?_
 obtain ⟨r21, hr22, h23⟩ := bind_some h
 refine Cl' Ei hs0 (EC N w0 F0 hs0.pers x0 a0_0 n0_0 hb0_0 hs0_0 gx1 fx1 kx1 x1 hox1 (fun w1 F1 y0 r le1 pe1 hr1 => hpx1 w1 F1 y0 r le1 pe1 hr1) _ hr22) ?_
 rintro _ F1 w25 hs26 le27 rfl
 refine Vs 2 ?_
 refine Nt ?_
 refine Rt ?_
 obtain rfl := Ab h23
 exact Re [(.bool (decide (r21 >= 0)))] hs26 rfl
def CU (N : Nat) (x0 : Int) : Option Bool :=
 some ((decide (x0 < 0)) || (decide (x0 > 1000000)))
theorem FR : Aq Tryz.prog 154 := fun _ _ => by kernel_rfl
theorem GA (N : Nat) (w0 : World) (F0 : Mem) (hF : S1 w0 F0) (x0 : Int) (r : Bool) (h : CU N x0 = some r) :
  Calls Tryz.prog 154 ([(vi x0)] : List Value).toArray w0 (AV w0 F0 fun F' v => v = (.bool r)) := by
 have hs0 := SI hF
 refine Go 9 Tryz.func154 ?_
 refine Sq (Rg [0] ?_)
 refine Vs 1 ?_
 refine Nss (Rg [0, 1, 2, 3, 4, 5, 6] ?_)
 refine SM (fun f w => ∃ (F1 : Mem), HS w0 F0 w F1 [] /\ SG F0 F1 /\ FI f [] [(2, (.bool ((decide (x0 < 0)) || (decide (x0 > 1000000)))))]) ?_ ?_
 ·refine Vs 3 ?_
  refine SL (decide (x0 < 0)) (fun hb26 => ?_) (fun hb26 => ?_)
  ·refine Ss hb26 2 ?_
   refine Pk1 hb26 ?_
   refine Vs 1 ?_
   exact SC ⟨rfl, F0, hs0, (SH _), (fJ ⟨(congrArg Value.bool (FQ hb26 rfl)), trivial⟩)⟩
  ·refine Vgs hb26 2 ?_
   refine Pk0 hb26 ?_
   refine Vs 1 ?_
   exact SC ⟨rfl, F0, hs0, (SH _), (fJ ⟨(congrArg Value.bool (B5 hb26 rfl)), trivial⟩)⟩
 ·rintro f w21 ⟨F1, hs22, le23, ⟨_, rfl⟩⟩
  refine Ac ?_
  refine Rt ?_
  obtain rfl := Ab h
  exact Re [(.bool ((decide (x0 < 0)) || (decide (x0 > 1000000))))] hs22 rfl
def Fa (N : Nat) (x0 : (List Int)) : Option Bool :=
 ((bif ((x0.length : Int) == 14) then ((Cx N x0 (fun y0 => CU N y0)).bind fun r32 => some (!r32)) else some false).bind fun j24 => some j24)
theorem GP : Aq Tryz.prog 98 := fun _ _ => by kernel_rfl
theorem Hu (N : Nat) (w0 : World) (F0 : Mem) (hF : S1 w0 F0) (x0 : (List Int)) (a0_0 : S0) (n0_0 : Nat) (hb0_0 : LC x0.length n0_0) (hs0_0 : SlA Ci F0 a0_0 x0) (r : Bool) (h : Fa N x0 = some r) :
  Calls Tryz.prog 98 ([(.slice a0_0 x0.length n0_0)] : List Value).toArray w0 (AV w0 F0 fun F' v => v = (.bool r)) := by
 have hs0 := SI hF
 refine Go 11 Tryz.func98 ?_
 refine Sq (Rg [0] ?_)
 refine Vs 1 ?_
 refine Nss (Rg [0, 1, 2, 3, 4, 5, 6, 7, 8] ?_)
 obtain ⟨j24, hj27, h28⟩ := bind_some h
 refine SM (fun f w => ∃ (F1 : Mem), HS w0 F0 w F1 [] /\ SG F0 F1 /\ FI f [] [(2, (.bool j24))]) ?_ ?_
 ·refine Vs 4 ?_
  refine Sp hj27 (fun hb29 h30 => ?_) (fun hb29 h31 => ?_)
  ·refine Vgs hb29 1 ?_
   obtain ⟨r32, hr33, h34⟩ := bind_some h30
   refine Cg hb29 DD hs0 (DV N w0 F0 hs0.pers x0 a0_0 n0_0 hb0_0 hs0_0 154 [] [] (fun y0 => CU N y0) FR (fun w1 F1 y0 r le1 pe1 hr1 => GA N w1 F1 pe1  y0  r hr1) _ hr33) ?_
   rintro _ F2 w36 hs37 le38 rfl
   refine Vgs hb29 1 ?_
   refine Pk1 hb29 ?_
   refine Vs 1 ?_
   obtain rfl := Ab h34
   exact SC ⟨rfl, F2, hs37, le38, fI⟩
  ·refine Ss hb29 3 ?_
   refine Pk0 hb29 ?_
   refine Vs 1 ?_
   obtain rfl := Ab h31
   exact SC ⟨rfl, F0, hs0, (SH _), fI⟩
 ·rintro f w21 ⟨F1, hs22, le23, ⟨_, rfl⟩⟩
  refine Ac ?_
  refine Rt ?_
  obtain rfl := Ab h28
  exact Re [(.bool j24)] hs22 rfl

def hold (n : Int) : Int := max (-1000000) (min 1000000 n)
def R2 (b : Bool) : Int := if b then 1 else 0
def vop (op v fv : Int) (l : List Int) : Int :=
 if op = 1 then v else if op = 2 then fv else if op = 3 then 1 - l[0]! else if op = 4 then min l[0]! l[1]! else if op = 5 then max l[0]! l[1]! else if op = 6 then R2 (l[0]! == l[1]!)
 else if op = 7 then R2 (decide (l[0]! < l[1]!)) else if op = 8 then hold (l[0]! + l[1]!) else if op = 9 then hold (l[0]! - l[1]!) else if op = 10 then hold (l[0]! * l[1]!)
 else if l[0]! = 1 then l[1]! else l[2]!
def val (f : List Int) (e : Expr) : Int := match e with
 | ⟨op, v, ks⟩ => vop op v f[v.toNat]! (ks.map fun x => val f x)
inductive Mk (e : Expr) : Int -> Prop
 | num (h : e.Op = 1) (h1 : 0 <= e.Value) (h2 : e.Value <= 1000000) (hk : e.Kids = []) : Mk e 1
 | field (h : e.Op = 2) (h1 : 0 <= e.Value) (h2 : e.Value <= 13) (hk : e.Kids = []) : Mk e 1
 | deny (h : e.Op = 3) (hv : e.Value = 0) (x : Expr) (hk : e.Kids = [x]) (h1 : kd x = 2) : Mk e 2
 | logic (h : e.Op = 4 \/ e.Op = 5) (hv : e.Value = 0) (x y : Expr) (hk : e.Kids = [x, y]) (h1 : kd x = 2) (h2 : kd y = 2) : Mk e 2
 | test (h : e.Op = 6 \/ e.Op = 7) (hv : e.Value = 0) (x y : Expr) (hk : e.Kids = [x, y]) (h1 : kd x = 1) (h2 : kd y = 1) : Mk e 2
 | sum (h : e.Op = 8 \/ e.Op = 9 \/ e.Op = 10) (hv : e.Value = 0) (x y : Expr) (hk : e.Kids = [x, y]) (h1 : kd x = 1) (h2 : kd y = 1) : Mk e 1
 | cond (h : e.Op = 11) (hv : e.Value = 0) (c x y : Expr) (hk : e.Kids = [c, x, y]) (h0 : kd c = 2) (h1 : kd x = 1) (h2 : kd y = 1) : Mk e 1
theorem Sk {l : List Expr} {a : Int} (h : l.map kd = [a]) : ∃ x, l = [x] /\ kd x = a := by
 match l, h with
 | [x], h => exact ⟨x, rfl, by simpa using h⟩
theorem Ra {l : List Expr} {a b : Int} (h : l.map kd = [a, b]) : ∃ x y, l = [x, y] /\ kd x = a /\ kd y = b := by
 match l, h with
 | [x, y], h => simp at h; exact ⟨x, y, rfl, h.1, h.2⟩
theorem Sj {l : List Expr} {a b c : Int} (h : l.map kd = [a, b, c]) : ∃ x y z, l = [x, y, z] /\ kd x = a /\ kd y = b /\ kd z = c := by
 match l, h with
 | [x, y, z], h => simp at h; exact ⟨x, y, z, rfl, h.1, h.2.1, h.2.2⟩
theorem RK {e : Expr} (h : kd e ≠ 0) : Mk e (kd e) := by
 rw [Pu] at h ⊢
 cases hf : kf e.Op with
 | none => rw [hf] at h; exact absurd rfl h
 | some x =>
  obtain ⟨m, o, l⟩ := x
  rw [hf] at h
  simp only at h ⊢
  by_cases hc : 0 <= e.Value /\ e.Value <= m /\ e.Kids.map kd = l
  ·rw [if_pos hc]
   obtain ⟨c1, c2, c3⟩ := hc
   unfold kf at hf
   by_cases h1 : e.Op = 1
   ·rw [if_pos h1] at hf; cases hf; exact .num h1 c1 c2 (by simpa using c3)
   rw [if_neg h1] at hf
   by_cases h2 : e.Op = 2
   ·rw [if_pos h2] at hf; cases hf; exact .field h2 c1 c2 (by simpa using c3)
   rw [if_neg h2] at hf
   by_cases h3 : e.Op = 3
   ·rw [if_pos h3] at hf; cases hf; obtain ⟨x, hk, hx⟩ := Sk c3; exact .deny h3 (by omega) x hk hx
   rw [if_neg h3] at hf
   by_cases h4 : e.Op = 4 \/ e.Op = 5
   ·rw [if_pos h4] at hf; cases hf; obtain ⟨x, y, hk, hx, hy⟩ := Ra c3; exact .logic h4 (by omega) x y hk hx hy
   rw [if_neg h4] at hf
   by_cases h6 : e.Op = 6 \/ e.Op = 7
   ·rw [if_pos h6] at hf; cases hf; obtain ⟨x, y, hk, hx, hy⟩ := Ra c3; exact .test h6 (by omega) x y hk hx hy
   rw [if_neg h6] at hf
   by_cases h8 : e.Op = 8 \/ e.Op = 9 \/ e.Op = 10
   ·rw [if_pos h8] at hf; cases hf; obtain ⟨x, y, hk, hx, hy⟩ := Ra c3; exact .sum h8 (by omega) x y hk hx hy
   rw [if_neg h8] at hf
   by_cases h11 : e.Op = 11
   ·rw [if_pos h11] at hf; cases hf; obtain ⟨x, y, z, hk, hx, hy, hz⟩ := Sj c3; exact .cond h11 (by omega) x y z hk hx hy hz
   rw [if_neg h11] at hf; cases hf
  ·rw [if_neg hc] at h; exact absurd rfl h
section
variable {N : Nat} {f : List Int}
theorem OS {n : Int} (h : -1000000000000000 <= n) (h2 : n <= 1000000000000000) : W64 n = n := KK (by omega) (by omega)
end

end Go.Proofs.YtaihlcdkcampbaaGreatDoor
namespace Go.Proofs
open Go.Shelf
def Tryz.lays137_ren : Go.Shelf.Ren := ⟨fun | 137 => 183 | 217 => 211 | 266 => 225 | n => n, fun | 9 => 9 | 5 => 5 | 3 => 3 | n => n, fun | n => n⟩
theorem Tryz.lays137 : Go.Proofs.Lays.n137 Tryz.prog Tryz.lays137_ren := {
 mixed := by kernel_rfl
 f137 := Tryz.func183.trans (congrArg some (by kernel_rfl))
 f217 := Tryz.func211.trans (congrArg some (by kernel_rfl))
 f266 := Tryz.func225.trans (congrArg some (by kernel_rfl))
 t3 := Tryz.underlying3
 a3 := Tryz.isAgg3
 z3 := Tryz.sizeOf3
 v3 := Tryz.zeroValue3
 t5 := Tryz.underlying5
 a5 := Tryz.isAgg5
 z5 := Tryz.sizeOf5
 v5 := Tryz.zeroValue5
 t9 := Tryz.underlying9
 a9 := Tryz.isAgg9
 z9 := Tryz.sizeOf9
 v9 := Tryz.zeroValue9 }
open Go.RowKit in
theorem Tryz.strings_IndexByte (s : ByteArray) (c : Int) (w : World) :
  Calls Tryz.prog 183 #[.string s, .int .u8 c] w fun e w' => e = .returned (.int .i64 (Lib.indexByte s.data.toList c.toNat.toUInt8)) /\ w' = w := Any.strings_IndexByte Tryz.lays137 s c w
def Tryz.laysM171_ren : Go.Shelf.Ren := ⟨fun | 171 => 151 | 243 => 196 | 246 => 218 | 283 => 228 | 284 => 229 | 285 => 230 | 286 => 231 | 129 => 209 | 317 => 235 | 318 => 236 | 319 => 237 | 320 => 238 | 337 => 241 | 338 => 242 | n => n, fun | 3 => 3 | 9 => 9 | 2 => 2 | 4 => 4 | 171 => 227 | 0 => 0 | 53 => 218 | 37 => 42 | 5 => 5 | 173 => 229 | 212 => 234 | 51 => 216 | 20 => 20 | 213 => 235 | 46 => 191 | 232 => 237 | 233 => 238 | n => n, fun | 17 => 1 | 18 => 2 | 19 => 3 | n => n⟩
theorem Tryz.laysM171 : Go.Proofs.LaysM.n171 Tryz.prog Tryz.laysM171_ren := {
 mixed := by kernel_rfl
 f129 := Tryz.func209.trans (congrArg some (by kernel_rfl))
 f171 := Tryz.func151.trans (congrArg some (by kernel_rfl))
 f243 := Tryz.func196.trans (congrArg some (by kernel_rfl))
 f246 := Tryz.func218.trans (congrArg some (by kernel_rfl))
 f283 := Tryz.func228.trans (congrArg some (by kernel_rfl))
 f284 := Tryz.func229.trans (congrArg some (by kernel_rfl))
 f285 := Tryz.func230.trans (congrArg some (by kernel_rfl))
 f286 := Tryz.func231.trans (congrArg some (by kernel_rfl))
 f317 := Tryz.func235.trans (congrArg some (by kernel_rfl))
 f318 := Tryz.func236.trans (congrArg some (by kernel_rfl))
 f319 := Tryz.func237.trans (congrArg some (by kernel_rfl))
 f320 := Tryz.func238.trans (congrArg some (by kernel_rfl))
 f337 := Tryz.func241.trans (congrArg some (by kernel_rfl))
 f338 := Tryz.func242.trans (congrArg some (by kernel_rfl))
 t0 := Tryz.underlying0
 a0 := Tryz.isAgg0
 z0 := Tryz.sizeOf0
 v0 := Tryz.zeroValue0
 t2 := Tryz.underlying2
 a2 := Tryz.isAgg2
 z2 := Tryz.sizeOf2
 v2 := Tryz.zeroValue2
 t3 := Tryz.underlying3
 a3 := Tryz.isAgg3
 z3 := Tryz.sizeOf3
 v3 := Tryz.zeroValue3
 t4 := Tryz.underlying4
 a4 := Tryz.isAgg4
 z4 := Tryz.sizeOf4
 v4 := Tryz.zeroValue4
 t5 := Tryz.underlying5
 a5 := Tryz.isAgg5
 z5 := Tryz.sizeOf5
 v5 := Tryz.zeroValue5
 t9 := Tryz.underlying9
 a9 := Tryz.isAgg9
 z9 := Tryz.sizeOf9
 v9 := Tryz.zeroValue9
 t20 := Tryz.underlying20
 a20 := Tryz.isAgg20
 z20 := Tryz.sizeOf20
 v20 := Tryz.zeroValue20
 t37 := Tryz.underlying42
 a37 := Tryz.isAgg42
 z37 := Tryz.sizeOf42
 v37 := Tryz.zeroValue42
 t46 := Tryz.underlying191
 a46 := Tryz.isAgg191
 z46 := Tryz.sizeOf191
 v46 := Tryz.zeroValue191
 t51 := Tryz.underlying216
 a51 := Tryz.isAgg216
 z51 := Tryz.sizeOf216
 v51 := Tryz.zeroValue216
 t53 := Tryz.underlying218
 a53 := Tryz.isAgg218
 z53 := Tryz.sizeOf218
 v53 := Tryz.zeroValue218
 t171 := Tryz.underlying227
 a171 := Tryz.isAgg227
 z171 := Tryz.sizeOf227
 v171 := Tryz.zeroValue227
 t173 := Tryz.underlying229
 a173 := Tryz.isAgg229
 z173 := Tryz.sizeOf229
 v173 := Tryz.zeroValue229
 t212 := Tryz.underlying234
 a212 := Tryz.isAgg234
 z212 := Tryz.sizeOf234
 v212 := Tryz.zeroValue234
 t213 := Tryz.underlying235
 a213 := Tryz.isAgg235
 z213 := Tryz.sizeOf235
 t232 := Tryz.underlying237
 a232 := Tryz.isAgg237
 z232 := Tryz.sizeOf237
 v232 := Tryz.zeroValue237
 t233 := Tryz.underlying238
 a233 := Tryz.isAgg238
 z233 := Tryz.sizeOf238
 v233 := Tryz.zeroValue238
 g17 := by kernel_rfl
 g18 := by kernel_rfl
 g19 := by kernel_rfl
 i0 := by kernel_rfl
 i2 := by kernel_rfl
 i3 := by kernel_rfl
 i4 := by kernel_rfl
 i5 := by kernel_rfl
 i9 := by kernel_rfl
 i20 := by kernel_rfl
 i37 := by kernel_rfl
 i46 := by kernel_rfl
 i51 := by kernel_rfl
 i53 := by kernel_rfl
 i171 := by kernel_rfl
 i173 := by kernel_rfl
 i212 := by kernel_rfl
 i232 := by kernel_rfl
 i233 := by kernel_rfl
 m17 := by kernel_rfl
 m18 := by kernel_rfl
 m19 := by kernel_rfl }
open Go.RowKit Go.Sort Go.Lib in
theorem Tryz.strconv_Itoa (n : Int) (h0 : -9223372036854775808 <= n) (h1 : n <= 9223372036854775807) (w : World) (htab : Lib.TabIs Tryz.prog w "internal/strconv.uint64pow10" .u64 Lib.pow10Tab) :
  Calls Tryz.prog 151 #[.int .i64 n] w fun e w' => e = .returned (.string ⟨(Lib.itoa n).toArray⟩) /\ ∃ k os, w' = grow (w.drewN k) os := Any.strconv_Itoa Tryz.laysM171 n h0 h1 w htab
def Tryz.laysC172_ren : Go.Shelf.Ren := ⟨fun | 172 => 248 | 244 => 251 | 245 => 252 | 247 => 253 | 279 => 254 | 280 => 255 | 281 => 256 | 282 => 257 | 287 => 258 | 316 => 259 | 171 => 151 | 205 => 260 | 321 => 261 | 322 => 262 | 243 => 196 | 246 => 218 | 283 => 228 | 284 => 229 | 285 => 230 | 286 => 231 | 129 => 209 | 317 => 235 | 318 => 236 | 319 => 237 | 320 => 238 | 337 => 241 | 338 => 242 | n => n, fun | 9 => 9 | 3 => 3 | 75 => 134 | 76 => 135 | 4 => 4 | 5 => 5 | 167 => 241 | 37 => 42 | 0 => 0 | 85 => 242 | 2 => 2 | 168 => 244 | 53 => 218 | 175 => 247 | 46 => 191 | 210 => 251 | 127 => 184 | 145 => 256 | 143 => 254 | 21 => 21 | 171 => 227 | 173 => 229 | 212 => 234 | 51 => 216 | 20 => 20 | 213 => 235 | 232 => 237 | 233 => 238 | 80 => 137 | n => n, fun | 15 => 4 | 16 => 5 | 17 => 1 | 18 => 2 | 19 => 3 | n => n⟩
theorem Tryz.laysC172 : Go.Proofs.LaysC.n172 Tryz.prog Tryz.laysC172_ren := {
 mixed := by kernel_rfl
 f129 := Tryz.func209.trans (congrArg some (by kernel_rfl))
 f171 := Tryz.func151.trans (congrArg some (by kernel_rfl))
 f172 := Tryz.func248.trans (congrArg some (by kernel_rfl))
 f205 := Tryz.func260.trans (congrArg some (by kernel_rfl))
 f243 := Tryz.func196.trans (congrArg some (by kernel_rfl))
 f244 := Tryz.func251.trans (congrArg some (by kernel_rfl))
 f245 := Tryz.func252.trans (congrArg some (by kernel_rfl))
 f246 := Tryz.func218.trans (congrArg some (by kernel_rfl))
 f247 := Tryz.func253.trans (congrArg some (by kernel_rfl))
 f279 := Tryz.func254.trans (congrArg some (by kernel_rfl))
 f280 := Tryz.func255.trans (congrArg some (by kernel_rfl))
 f281 := Tryz.func256.trans (congrArg some (by kernel_rfl))
 f282 := Tryz.func257.trans (congrArg some (by kernel_rfl))
 f283 := Tryz.func228.trans (congrArg some (by kernel_rfl))
 f284 := Tryz.func229.trans (congrArg some (by kernel_rfl))
 f285 := Tryz.func230.trans (congrArg some (by kernel_rfl))
 f286 := Tryz.func231.trans (congrArg some (by kernel_rfl))
 f287 := Tryz.func258.trans (congrArg some (by kernel_rfl))
 f316 := Tryz.func259.trans (congrArg some (by kernel_rfl))
 f317 := Tryz.func235.trans (congrArg some (by kernel_rfl))
 f318 := Tryz.func236.trans (congrArg some (by kernel_rfl))
 f319 := Tryz.func237.trans (congrArg some (by kernel_rfl))
 f320 := Tryz.func238.trans (congrArg some (by kernel_rfl))
 f321 := Tryz.func261.trans (congrArg some (by kernel_rfl))
 f322 := Tryz.func262.trans (congrArg some (by kernel_rfl))
 f337 := Tryz.func241.trans (congrArg some (by kernel_rfl))
 f338 := Tryz.func242.trans (congrArg some (by kernel_rfl))
 t0 := Tryz.underlying0
 a0 := Tryz.isAgg0
 z0 := Tryz.sizeOf0
 v0 := Tryz.zeroValue0
 t2 := Tryz.underlying2
 a2 := Tryz.isAgg2
 z2 := Tryz.sizeOf2
 v2 := Tryz.zeroValue2
 t3 := Tryz.underlying3
 a3 := Tryz.isAgg3
 z3 := Tryz.sizeOf3
 v3 := Tryz.zeroValue3
 t4 := Tryz.underlying4
 a4 := Tryz.isAgg4
 z4 := Tryz.sizeOf4
 v4 := Tryz.zeroValue4
 t5 := Tryz.underlying5
 a5 := Tryz.isAgg5
 z5 := Tryz.sizeOf5
 v5 := Tryz.zeroValue5
 t9 := Tryz.underlying9
 a9 := Tryz.isAgg9
 z9 := Tryz.sizeOf9
 v9 := Tryz.zeroValue9
 t20 := Tryz.underlying20
 a20 := Tryz.isAgg20
 z20 := Tryz.sizeOf20
 v20 := Tryz.zeroValue20
 t21 := Tryz.underlying21
 a21 := Tryz.isAgg21
 z21 := Tryz.sizeOf21
 v21 := Tryz.zeroValue21
 t37 := Tryz.underlying42
 a37 := Tryz.isAgg42
 z37 := Tryz.sizeOf42
 v37 := Tryz.zeroValue42
 t46 := Tryz.underlying191
 a46 := Tryz.isAgg191
 z46 := Tryz.sizeOf191
 v46 := Tryz.zeroValue191
 t51 := Tryz.underlying216
 a51 := Tryz.isAgg216
 z51 := Tryz.sizeOf216
 v51 := Tryz.zeroValue216
 t53 := Tryz.underlying218
 a53 := Tryz.isAgg218
 z53 := Tryz.sizeOf218
 v53 := Tryz.zeroValue218
 t75 := Tryz.underlying134
 a75 := Tryz.isAgg134
 z75 := Tryz.sizeOf134
 v75 := Tryz.zeroValue134
 t76 := Tryz.underlying135
 a76 := Tryz.isAgg135
 z76 := Tryz.sizeOf135
 v76 := Tryz.zeroValue135
 t85 := Tryz.underlying242
 a85 := Tryz.isAgg242
 z85 := Tryz.sizeOf242
 v85 := Tryz.zeroValue242
 t127 := Tryz.underlying184
 a127 := Tryz.isAgg184
 z127 := Tryz.sizeOf184
 v127 := Tryz.zeroValue184
 t143 := Tryz.underlying254
 a143 := Tryz.isAgg254
 z143 := Tryz.sizeOf254
 v143 := Tryz.zeroValue254
 t145 := Tryz.underlying256
 a145 := Tryz.isAgg256
 z145 := Tryz.sizeOf256
 v145 := Tryz.zeroValue256
 t167 := Tryz.underlying241
 a167 := Tryz.isAgg241
 z167 := Tryz.sizeOf241
 v167 := Tryz.zeroValue241
 t168 := Tryz.underlying244
 a168 := Tryz.isAgg244
 z168 := Tryz.sizeOf244
 v168 := Tryz.zeroValue244
 t171 := Tryz.underlying227
 a171 := Tryz.isAgg227
 z171 := Tryz.sizeOf227
 v171 := Tryz.zeroValue227
 t173 := Tryz.underlying229
 a173 := Tryz.isAgg229
 z173 := Tryz.sizeOf229
 v173 := Tryz.zeroValue229
 t175 := Tryz.underlying247
 a175 := Tryz.isAgg247
 z175 := Tryz.sizeOf247
 v175 := Tryz.zeroValue247
 t210 := Tryz.underlying251
 a210 := Tryz.isAgg251
 z210 := Tryz.sizeOf251
 v210 := Tryz.zeroValue251
 t212 := Tryz.underlying234
 a212 := Tryz.isAgg234
 z212 := Tryz.sizeOf234
 v212 := Tryz.zeroValue234
 t213 := Tryz.underlying235
 a213 := Tryz.isAgg235
 z213 := Tryz.sizeOf235
 t232 := Tryz.underlying237
 a232 := Tryz.isAgg237
 z232 := Tryz.sizeOf237
 v232 := Tryz.zeroValue237
 t233 := Tryz.underlying238
 a233 := Tryz.isAgg238
 z233 := Tryz.sizeOf238
 v233 := Tryz.zeroValue238
 g15 := by kernel_rfl
 g16 := by kernel_rfl
 g17 := by kernel_rfl
 g18 := by kernel_rfl
 g19 := by kernel_rfl
 t80 := Tryz.underlying137
 a80 := Tryz.isAgg137
 z80 := Tryz.sizeOf137
 v80 := Tryz.zeroValue137
 i0 := by kernel_rfl
 i2 := by kernel_rfl
 i3 := by kernel_rfl
 i4 := by kernel_rfl
 i5 := by kernel_rfl
 i9 := by kernel_rfl
 i20 := by kernel_rfl
 i21 := by kernel_rfl
 i37 := by kernel_rfl
 i46 := by kernel_rfl
 i51 := by kernel_rfl
 i53 := by kernel_rfl
 i75 := by kernel_rfl
 i76 := by kernel_rfl
 i80 := by kernel_rfl
 i85 := by kernel_rfl
 i127 := by kernel_rfl
 i143 := by kernel_rfl
 i145 := by kernel_rfl
 i167 := by kernel_rfl
 i168 := by kernel_rfl
 i171 := by kernel_rfl
 i173 := by kernel_rfl
 i175 := by kernel_rfl
 i210 := by kernel_rfl
 i212 := by kernel_rfl
 i232 := by kernel_rfl
 i233 := by kernel_rfl
 m15 := by kernel_rfl
 m16 := by kernel_rfl
 m17 := by kernel_rfl
 m18 := by kernel_rfl
 m19 := by kernel_rfl
 c0 := by kernel_rfl
 c2 := by kernel_rfl
 c3 := by kernel_rfl
 c4 := by kernel_rfl
 c5 := by kernel_rfl
 c9 := by kernel_rfl
 c20 := by kernel_rfl
 c21 := by kernel_rfl
 c37 := by kernel_rfl
 c46 := by kernel_rfl
 c51 := by kernel_rfl
 c53 := by kernel_rfl
 c75 := by kernel_rfl
 c76 := by kernel_rfl
 c80 := by kernel_rfl
 c85 := by kernel_rfl
 c127 := by kernel_rfl
 c143 := by kernel_rfl
 c145 := by kernel_rfl
 c167 := by kernel_rfl
 c168 := by kernel_rfl
 c171 := by kernel_rfl
 c173 := by kernel_rfl
 c175 := by kernel_rfl
 c210 := by kernel_rfl
 c212 := by kernel_rfl
 c213 := by kernel_rfl
 c232 := by kernel_rfl
 c233 := by kernel_rfl }
open Go.RowKit in
theorem Tryz.strconv_Atoi_ok (s : ByteArray) (hmax : s.size <= 9223372036854775806) (v : Int) (h : Lib.atoiAll s.data.toList = .ok v) (w : World) :
  Calls Tryz.prog 248 #[.string s] w fun e w' => e = .returned (.tuple #[.int .i64 v, .nilIface]) /\ (w' = w \/ ∃ t, w' = Lib.bytesWorld w 5 t) := Any.strconv_Atoi_ok Tryz.laysC172 s hmax v h w
open Go.RowKit in
theorem Tryz.strconv_Atoi_range_var (s : ByteArray) (hlim : s.size <= 281474976710656) (h : Lib.atoiAll s.data.toList = .range) (tp : TypeId) (p : Value) (w : World) (hvar : w.var? Tryz.prog "strconv.ErrRange" = some #[.iface tp p]) :
  Calls Tryz.prog 248 #[.string s] w fun e w' => ∃ N, e = .returned (.tuple #[.int .i64 (Lib.atoiSat s.data.toList), .iface 244 (.pointer (some ⟨N, 0, none⟩))]) /\ w.heap.size <= N /\ w'.heap[N]? = some (.cells #[.string ⟨#[65, 116, 111, 105]⟩, .string s, .iface tp p] 251 (0, 0)) /\ Below w.heap.size w w' := Any.strconv_Atoi_range_var Tryz.laysC172 s hlim h tp p w hvar
def Tryz.lays99_ren : Go.Shelf.Ren := ⟨fun | 99 => 182 | 206 => 210 | n => n, fun | 9 => 9 | 4 => 4 | 3 => 3 | n => n, fun | n => n⟩
theorem Tryz.lays99 : Go.Proofs.Lays.n99 Tryz.prog Tryz.lays99_ren := {
 mixed := by kernel_rfl
 f99 := Tryz.func182.trans (congrArg some (by kernel_rfl))
 f206 := Tryz.func210.trans (congrArg some (by kernel_rfl))
 t3 := Tryz.underlying3
 a3 := Tryz.isAgg3
 z3 := Tryz.sizeOf3
 v3 := Tryz.zeroValue3
 t4 := Tryz.underlying4
 a4 := Tryz.isAgg4
 z4 := Tryz.sizeOf4
 v4 := Tryz.zeroValue4
 t9 := Tryz.underlying9
 a9 := Tryz.isAgg9
 z9 := Tryz.sizeOf9
 v9 := Tryz.zeroValue9 }
open Go.RowKit Go.Lib in
theorem Tryz.strings_HasPrefix (s p : ByteArray) (w : World) :
  Calls Tryz.prog 182 #[.string s, .string p] w fun e w' => e = .returned (.bool (Lib.hasPrefix s.data.toList p.data.toList)) /\ w' = w := Any.strings_HasPrefix Tryz.lays99 s p w
end Go.Proofs
namespace Go.Proofs.YtaihlcdkcampbaaGreatDoor
end Go.Proofs.YtaihlcdkcampbaaGreatDoor
namespace Go.Proofs
open Go.Shelf
end Go.Proofs
namespace Go.Proofs.YtaihlcdkcampbaaGreatDoor
section
open Go.Proofs Go.RowKit Go.Sort Go.Lib
end


def sz (e : Expr) : Nat := match e with
 | ⟨_, _, ks⟩ => 1 + (ks.map fun x => sz x).sum
theorem K5 (e : Expr) : sz e = 1 + (e.Kids.map sz).sum := by cases e; rw [sz]
theorem CM {e x : Expr} (h : x ∈ e.Kids) : sz x < sz e := by
 rw [K5 e]
 have : ∀ l : List Expr, x ∈ l -> sz x <= (l.map sz).sum := by
  intro l
  induction l with
  | nil => intro h; cases h
  | cons a l ih =>
   intro h
   rw [List.map_cons, List.sum_cons]
   rcases List.mem_cons.1 h with rfl | h
   ·omega
   ·have := ih h; omega
 have := this _ h; omega
section
open Go.ChangeShapes Go.WideShapes Go.ChangeAt Go.RowKit
theorem O4 {H : Type} {α : Type} {S : α -> Nat} : ∀ {l : List α} {ds : List (DataW H)}, l.length = ds.length -> (∀ (i : Nat) (x : α) (d : DataW H), l[i]? = some x -> ds[i]? = some d -> S x <= Rows.uptoBulk d) -> (l.map S).sum <= Rows.uptoBulkAll ds
 | [], [], _, _ => by simp [Rows.uptoBulkAll]
 | x :: l, d :: ds, hl, h => by
  have h1 := h 0 x d rfl rfl
  have h2 := O4 (l := l) (ds := ds) (by simpa using hl) (fun i y e hy he => h (i + 1) y e hy he)
  simp only [List.map_cons, List.sum_cons, Rows.uptoBulkAll]; omega
structure D5 (P : Program) (t : TypeId) {α : Type} (T : Ty α) (Q : α -> Prop) (S : α -> Nat) : Prop where
 op : ∀ {H : Type} {enc : TypeId × Value -> H} {W : World} {fuel : Nat} {cs : List Value} {x : DataW H × List MemPlace}, DataW.trod enc P W 0 (fun _ => true) true fuel t cs = some x -> SzW P t x.1 -> ∃ a, T.R (Fe W) cs a /\ Q a /\ S a <= Rows.uptoBulk x.1
 sz : P.cellsOf t = T.sz
theorem K6 {P : Program} {t e : TypeId} {α : Type} {T : Ty α} {Q : α -> Prop} {S : α -> Nat} (hsz : P.cellsOf e = T.sz) (hpos : 0 < T.sz) (hu : P.underlying t = some (.slice e))
  {H : Type} {enc : TypeId × Value -> H} {W : World} {fuel : Nat} {cs : List Value} {x : DataW H × List MemPlace}
  (he : ∀ n csi y, fuel = n + 1 -> DataW.trod enc P W 0 (fun _ => true) true n e csi = some y -> SzW P e y.1 -> ∃ a, T.R (Fe W) csi a /\ Q a /\ S a <= Rows.uptoBulk y.1)
  (h : DataW.trod enc P W 0 (fun _ => true) true fuel t cs = some x) (hw : SzW P t x.1) :
  ∃ l, (tSl T).R (Fe W) cs l /\ (l.length < 9223372036854775808 /\ l.length * P.bytesOf e <= reachBytes /\ ∀ x, x ∈ l -> Q x) /\ (l.map S).sum + 1 <= Rows.uptoBulk x.1 := by
 rcases DataW.trod_slice hu h with ⟨h1, h2⟩ | ⟨a, len, cap, elems, rest, n, hf, h1, hx, _, h2, h3, h4, h5, _, _⟩
 ·exact ⟨[], ⟨none, 0, h1, SK (α := α), .inl rfl⟩, ⟨by simp, by simp, fun x hx => by cases hx⟩, by rw [h2]; simp [Rows.uptoBulk]⟩
 have hby : (elems.length + rest.length) * P.bytesOf e <= reachBytes := by
  have hw' := hw
  rw [hx] at hw'
  unfold SzW at hw'
  simp only [DataW.weights, hu, List.all_cons, Bool.and_eq_true, List.length_map, decide_eq_true_eq] at hw'
  exact hw'.1
 have h3' : cap <= 9223372036854775807 := h3
 have hcell : ∀ i, i < len -> ∃ csi y, W.cells? 0 (a.add (i * T.sz)) T.sz = some csi /\ DataW.trod enc P W 0 (fun _ => true) true n e csi = some y /\ SzW P e y.1 /\ elems[i]? = some y := by
  intro i hi
  have hsz' : ∀ y, elems[i]? = some y -> SzW P e y.1 := fun y hy => by
   rw [hx] at hw
   unfold SzW at hw ⊢
   simp only [DataW.weights, hu, List.all_cons, Bool.and_eq_true, List.all_append] at hw
   exact List.all_eq_true.2 fun m hm => List.all_eq_true.1 hw.2.1 m (Jh (List.mem_map.2 ⟨y, List.mem_of_getElem? hy, rfl⟩) m hm)
  have := h5 i hi
  rw [hsz] at this
  have hlt : i < elems.length := by omega
  rw [List.getElem?_eq_getElem hlt] at this
  cases hc : W.cells? 0 (a.add (i * T.sz)) T.sz with
  | none => rw [hc] at this; cases this
  | some csi => rw [hc] at this; exact ⟨csi, _, rfl, this, hsz' _ (List.getElem?_eq_getElem hlt), List.getElem?_eq_getElem hlt⟩
 obtain ⟨l, hl, hR⟩ := Jq (R := fun i (x : α) => ∃ csi, W.cells? 0 (a.add (i * T.sz)) T.sz = some csi /\ T.R (Fe W) csi x /\ Q x /\ ∃ y, elems[i]? = some y /\ S x <= Rows.uptoBulk y.1) (n := len) (fun i hi => by
  obtain ⟨csi, y, hc, ht, hsy, hey⟩ := hcell i hi
  obtain ⟨z, hz, hq, hs⟩ := he n csi y hf ht hsy
  exact ⟨z, csi, hc, hz, hq, y, hey, hs⟩)
 have hsum : (l.map S).sum + 1 <= Rows.uptoBulk x.1 := by
  rw [hx]
  simp only [Rows.uptoBulk]
  have := O4 (S := S) (l := l) (ds := elems.map (·.1)) (by rw [List.length_map, hl, h4]) (fun i z d hz hd => by
   obtain ⟨_, _, _, _, y, hy, hs⟩ := hR i z hz
   rw [List.getElem?_map, hy] at hd
   cases hd; exact hs)
  omega
 refine ⟨l, ⟨some a, cap, by rw [hl]; exact h1, ⟨by omega, by omega⟩, ?_⟩, ⟨by omega, Nat.le_trans (Nat.mul_le_mul_right _ (by omega)) hby, fun x hx => ?_⟩, hsum⟩
 ·rcases Nat.eq_zero_or_pos len with h0 | hp
  ·exact .inl (List.length_eq_zero_iff.1 (by omega))
  ·right
   obtain ⟨csi, y, hc, _, _⟩ := hcell 0 hp
   obtain ⟨C, E, fz, hsp, hb, _⟩ := MP hc hpos
   have hb' : W.heap[a.block]? = some (.cells C E fz) := by rw [Jd] at hb; exact hb
   have hsp' : a.spot = none := by rw [Nat.zero_mul] at hsp; have e0 : a.add 0 = a := by { unfold Addr.add; simp }; rw [e0] at hsp; exact hsp
   refine ⟨a.block, a.off, C, E, fz, by obtain ⟨_, _, _⟩ := a; simp only at hsp'; subst hsp'; rfl, hb', fun i x hx => ?_⟩
   obtain ⟨csi, hc, hz, _⟩ := hR i x hx
   obtain ⟨C', E', fz', _, hb2, hcs⟩ := MP hc hpos
   have hb2' : W.heap[a.block]? = some (.cells C' E' fz') := by rw [Jd] at hb2; exact hb2
   rw [hb'] at hb2'
   cases hb2'
   rw [Ol] at hcs
   rw [hcs]; exact hz
 ·obtain ⟨i, hi, rfl⟩ := List.getElem_of_mem hx
  obtain ⟨_, _, _, hq, _⟩ := hR i _ (List.getElem?_eq_getElem hi)
  exact hq
theorem LO {P : Program} {t e : TypeId} {α : Type} {T : Ty α} {Q : α -> Prop} {S : α -> Nat} (he : D5 P e T Q S) (hpos : 0 < T.sz) (hu : P.underlying t = some (.slice e)) (hs : P.cellsOf t = 1) :
  D5 P t (tSl T) (fun l => l.length < 9223372036854775808 /\ ∀ x, x ∈ l -> Q x) (fun l => (l.map S).sum + 1) :=
 ⟨fun h hw => by
  obtain ⟨l, h1, ⟨h2, _, h3⟩, h4⟩ := K6 he.sz hpos hu (fun n csi y _ ht hsy => he.op ht hsy) h hw
  exact ⟨l, h1, ⟨h2, h3⟩, h4⟩, hs⟩
theorem St {H : Type} {enc : TypeId × Value -> H} {P : Program} {W : World} {fuel : Nat} {t e : TypeId} {cs : List Value} {x : DataW H × List MemPlace} {i off c : Nat} (hf : fieldAt P t i = some (e, off)) (hc : P.cellsOf e = c)
  (h : DataW.trod enc P W 0 (fun _ => true) true fuel t cs = some x) (hw : SzW P t x.1) : ∃ n y ds, fuel = n + 1 /\ DataW.trod enc P W 0 (fun _ => true) true n e ((cs.drop off).take c) = some y /\ SzW P e y.1 /\ x.1 = .agg ds /\ ds[i]? = some y.1 := by
 unfold fieldAt at hf
 cases hu : P.underlying t with
 | none => rw [hu] at hf; cases hf
 | some k =>
  rw [hu] at hf
  cases k <;> simp only at hf <;> first | cases hf | skip
  rename_i fs
  cases hi : fs[i]? with
  | none => rw [hi] at hf; cases hf
  | some f =>
   rw [hi] at hf
   simp only [Option.map_some, Option.some.injEq, Prod.mk.injEq] at hf
   obtain ⟨rfl, rfl⟩ := hf
   obtain ⟨xs, n, rfl, rfl, hlen, hxl, hf⟩ := DataW.trod_struct hu h
   have hlt : i < xs.length := by
    rw [hxl]
    rcases Nat.lt_or_ge i fs.size with h' | h'
    ·exact h'
    ·rw [Array.getElem?_eq_none h'] at hi; cases hi
   have := hf i f hi
   rw [List.getElem?_eq_getElem hlt, hc] at this
   refine ⟨n, _, _, rfl, this, ?_, rfl, by rw [List.getElem?_map, List.getElem?_eq_getElem hlt]; rfl⟩
   unfold SzW at hw
   simp only [DataW.weights, hu] at hw
   refine SzW.each hw (j := i) ?_ ?_
   ·rw [List.getElem?_map, Array.getElem?_toList, hi]; rfl
   ·rw [List.getElem?_map, List.getElem?_eq_getElem hlt]; rfl
theorem PE {H : Type} {enc : TypeId × Value -> H} {W : World} : ∀ (m : Nat) {fuel : Nat} {cs : List Value} {x : DataW H × List MemPlace}, fuel <= m -> DataW.trod enc Tryz.prog W 0 (fun _ => true) true fuel 33 cs = some x -> SzW Tryz.prog 33 x.1 -> ∃ a, Ar.R (Fe W) cs a /\ MC a /\ sz a <= Rows.uptoBulk x.1 := by
 intro m
 induction m with
 | zero =>
  intro fuel cs x hm h hw
  cases fuel with
  | zero => cases h
  | succ n => exact absurd hm (by omega)
 | succ m ih =>
  intro fuel cs x hm h hw
  obtain ⟨n0, y0, e0, t0, z0⟩ := fld (i := 0) (off := 0) (e := 3) (c := 1) (by kernel_rfl) (by kernel_rfl) h hw
  obtain ⟨n1, y1, e1, t1, z1⟩ := fld (i := 1) (off := 1) (e := 3) (c := 1) (by kernel_rfl) (by kernel_rfl) h hw
  obtain ⟨n2, y2, ds, e2, t2, z2, hag, hd2⟩ := St (i := 2) (off := 2) (e := 24) (c := 1) (by kernel_rfl) (by kernel_rfl) h hw
  have hl := M7 (k := 3) (by kernel_rfl) (by decide) h
  obtain ⟨op, r0, _⟩ := (Lk (t := 3) (by kernel_rfl) (by kernel_rfl) : KM Tryz.prog 3 Ci rI).op t0 z0
  obtain ⟨v, r1, _⟩ := (Lk (t := 3) (by kernel_rfl) (by kernel_rfl) : KM Tryz.prog 3 Ci rI).op t1 z1
  obtain ⟨ks, r2, ⟨q1, q0, q2⟩, hsum⟩ := K6 (T := Ar) (Q := MC) (S := sz) (e := 33) (by kernel_rfl) (by decide) (by kernel_rfl) (fun n csi y hn ht hs => by
   exact ih (by omega) ht hs) t2 z2
  have qb : ks.length < 3518437208781 := by
   have e40 : Tryz.prog.bytesOf 33 = 40 := by kernel_rfl
   rw [e40] at q0
   have : reachBytes = 140737488351232 := rfl
   omega
  have hbulk : 1 + (ks.map sz).sum <= Rows.uptoBulk x.1 := by
   rw [hag]
   simp only [Rows.uptoBulk]
   match ds, hd2 with
   | [], hd => cases hd
   | [_], hd => cases hd
   | [_, _], hd => cases hd
   | a :: b :: c :: r, hd => cases hd; simp only [Rows.uptoBulkAll]; omega
  clear h t0 t1 t2
  obtain ⟨n, hn⟩ := Of q2
  match cs, hl with
  | [c0, c1, c2], _ =>
   have e0 : [c0] = [.int .i64 op] := r0
   have e1 : [c1] = [.int .i64 v] := r1
   obtain ⟨a, c, e2, b2, s2⟩ := r2
   have e2 : [c2] = _ := e2
   cases e0; cases e1; cases e2
   exact ⟨⟨op, v, ks⟩, A6 ⟨a, c, rfl, b2, s2⟩, ⟨n + 1, Ht.mk qb q1 hn⟩, by rw [sz]; exact hbulk⟩
theorem Ka : D5 Tryz.prog 33 Ar MC sz := ⟨fun h hw => PE _ (Nat.le_refl _) h hw, by kernel_rfl⟩
theorem D5.agg {P : Program} {t : TypeId} {α : Type} {T : Ty α} {Q : α -> Prop} {S : α -> Nat} (o : D5 P t T Q S) (hs : (match P.underlying t with | some (.struct _) => true | _ => false) = true)
  {H : Type} {enc : TypeId × Value -> H} {W : World} {r : Reach} {b0 : Nat} {v : Value} {d : DataW H} {ps : List MemPlace} (hv : Value.okWide P W r b0 t v) (h : DataW.Trod enc P W 0 (fun _ => true) true t v d ps) (hw : SzW P t d) :
  ∃ cs a, v = .agg cs /\ T.R (Fe W) cs.toList a /\ Q a /\ S a <= Rows.uptoBulk d := by
 cases hu : P.underlying t with
 | none => simp [hu] at hs
 | some q =>
  cases q <;> simp [hu] at hs
  obtain ⟨cs, rfl, _⟩ := okWide_struct hu hv
  obtain ⟨n, hn⟩ := h
  obtain ⟨a, h1, h2, h3⟩ := o.op hn hw
  exact ⟨cs, a, rfl, h1, h2, h3⟩
theorem D5.one {P : Program} {t : TypeId} {α : Type} {T : Ty α} {Q : α -> Prop} {S : α -> Nat} (o : D5 P t T Q S) (hs : (match P.underlying t with | some (.int _) => true | some .bool => true | some .string => true | some (.slice _) => true | _ => false) = true)
  {H : Type} {enc : TypeId × Value -> H} {W : World} {r : Reach} {b0 : Nat} {v : Value} {d : DataW H} {ps : List MemPlace} (hv : Value.okWide P W r b0 t v) (h : DataW.Trod enc P W 0 (fun _ => true) true t v d ps) (hw : SzW P t d) :
  ∃ a, T.R (Fe W) [v] a /\ Q a /\ S a <= Rows.uptoBulk d := by
 obtain ⟨n, hn⟩ := h
 cases hu : P.underlying t with
 | none => simp [hu] at hs
 | some q =>
  cases q <;> simp [hu] at hs
  ·obtain ⟨_, rfl⟩ := okWide_bool hu hv; exact o.op hn hw
  ·obtain ⟨_, rfl⟩ := okWide_int hu hv; exact o.op hn hw
  ·obtain ⟨_, rfl⟩ := okWide_string hu hv; exact o.op hn hw
  ·obtain ⟨_, _, _, rfl⟩ := okWide_slice hu hv; exact o.op hn hw
def rU8 (x : Int) : Prop := 0 <= x /\ x <= 255
theorem OG {P : Program} {t : TypeId} (hu : P.underlying t = some (.int .u8)) (hs : P.cellsOf t = 1) : D5 P t tU8 rU8 (fun _ => 1) :=
 ⟨fun h _ => by
  obtain ⟨n, h1, h2, h3⟩ := DataW.trod_int hu h
  refine ⟨n, h1, ?_, by rw [h2]; simp [Rows.uptoBulk]⟩
  simp only [Lit.wf, Bool.and_eq_true, decide_eq_true_eq] at h3
  have e1 : IntKind.min .u8 = 0 := by decide
  have e2 : IntKind.max .u8 = 255 := by decide
  rw [e1, e2] at h3
  exact h3, hs⟩
theorem Lv {H : Type} {enc : TypeId × Value -> H} {C : Checked} {os : Os} {f : FuncId} {fn : Func} {s : OpenSpec} {conds : List PathCond} {apart : Bool} {laid : List (String × DataW Unit)} (modest : Bool) (w0 : World) (args : Array Value) (hos : w0.os = os)
  (hsh : (w0.forCall (fun _ _ => 0) ⟨#[], args, []⟩).Shaped C.prog) (hok : Input.okWideB C.prog (w0.forCall (fun _ _ => 0) ⟨#[], args, []⟩) f ⟨#[], args, []⟩ = true)
  (hrow : s.preRow enc C.prog fn conds apart laid (w0.forCall (fun _ _ => 0) ⟨#[], args, []⟩).memory args) :
  ∃ (w : World) (tape : Tape) (i : Input), w.os = os /\ (w.forCall tape i).Shaped C.prog /\ i.vars = [] /\ Input.okWide C.prog (w.forCall tape i) .any w.heap.size f i /\
   s.preRow enc C.prog fn conds apart laid (w.forCall tape i).memory i.args /\ ({ modest := modest } : Assume).holds C.prog (lone (Frame.enter C.prog f i.args .normal) [] (w.forCall tape i)) :=
 ⟨w0, fun _ _ => 0, ⟨#[], args, []⟩, hos, hsh, (Input.okWide_of_okWideB (base := 0) hok).1, (Input.okWide_of_okWideB hok).2, hrow, by
  simp only [Assume.holds]
  exact ⟨by simp, by simp, fun _ => Modest.zero, by simp, by simp⟩⟩
end
theorem Bj {a b : Bool} (ha : a = true) (hb : b = true) : (a && b) = true := by rw [ha, hb]; rfl
set_option maxRecDepth 100000 in
theorem Sr : (laidOutB Tryz.pinned.checked.prog) = true := by kernel_rfl
set_option maxRecDepth 100000 in
theorem So : (mapsRowed Tryz.pinned.checked.prog) = true := by kernel_rfl
set_option maxRecDepth 100000 in
theorem Sn : ((Tryz.pinned.checked.prog.stops == [])) = true := by kernel_rfl
set_option maxRecDepth 100000 in
theorem Sm : ((Tryz.pinned.checked.prog.stopKnobs == [])) = true := by kernel_rfl
set_option maxRecDepth 100000 in
theorem RU : ((Rows.rulesParsesRow.plainKeys == Tryz.pinned.checked.prog.plainKeys)) = true := by kernel_rfl
set_option maxRecDepth 100000 in
theorem RT : (Tryz.pinned.checked.prog.stopsHeard) = true := by kernel_rfl
set_option maxRecDepth 100000 in
theorem RR : (Tryz.pinned.checked.prog.mayEnter) = true := by kernel_rfl
set_option maxRecDepth 100000 in
theorem RQ : ((Rows.rulesParsesRow.lifted == Tryz.pinned.checked.prog.liftsFinal)) = true := by kernel_rfl
set_option maxRecDepth 100000 in
theorem RP : ((Tryz.pinned.checked.prog.make == some Rows.rulesParsesRow.make)) = true := by kernel_rfl
theorem QD : Tryz.pinned.checked.prog.mainIs = some (true, "9ef67a4cb07571d798ed60e513598468ebe5a66f3455e0900720288bced703b8".toList) := by kernel_rfl
theorem PA : true = Tryz.pinned.checked.prog.looks [] := by kernel_rfl
def Bx (N : Nat) (x0 : (List Clause)) (x1 : (Clause -> Option Bool)) : Int -> Option (Bn Int Int) := fun s24 =>
 (bif (decide (s24 < (x0.length : Int))) then ((idx x0 s24).bind fun x47 => ((x1 x47).bind fun r61 => (bif r61 then some (.ret s24) else some (.next (W64 (s24 + 1)))))) else some (.done s24))
def BE (N : Nat) (x0 : (List Clause)) (x1 : (Clause -> Option Bool)) : Option Int :=
 ((AX (Bx N x0 x1) N 0).bind fun o => o.k (fun r => some r) (fun s33 => some (-1)))
theorem Ct : Aq Tryz.prog 162 := fun _ _ => by kernel_rfl
theorem Cv (N : Nat) (w0 : World) (F0 : Mem) (hF : S1 w0 F0) (x0 : (List Clause)) (a0_0 : S0) (n0_0 : Nat) (hb0_0 : LC x0.length n0_0) (hs0_0 : SlA AC F0 a0_0 x0) (gx1 : FuncId) (fx1 kx1 : List Value) (x1 : Clause -> Option Bool) (hox1 : Aq Tryz.prog gx1) (hpx1 : Oo F0 gx1 fx1 kx1 x1) (r : Int) (h : BE N x0 x1 = some r) :
  Calls Tryz.prog 162 ([(.slice a0_0 x0.length n0_0), (.func (.func gx1) fx1.toArray kx1.toArray)] : List Value).toArray w0 (AV w0 F0 fun F' v => v = (vi r)) := by
 have hs0 := SI hF
 refine Go 19 Tryz.func162 ?_
 refine Sq (Rg [0] ?_)
 refine Vs 1 ?_
 refine Nss ?_
 refine Sq (Rg [0, 1, 2] ?_)
 refine Vs 3 ?_
 refine Nt ?_
 obtain ⟨o21, ho22, h23⟩ := bind_some h
 refine SN (fun f w => ∃ (s33 : Int) (F2 : Mem), o21 = .done s33 /\ HS w0 F0 w F2 [] /\ SG F0 F2 /\ FI f [] []) ?_ ?_
 ·refine Bk ?_
  refine SF (by kernel_rfl) (fun m f w => ∃ (s24 : Int) (F1 : Mem), AX (Bx N x0 x1) m s24 = some o21 /\ HS w0 F0 w F1 [] /\ SG F0 F1 /\ FI f [] [(0, (.slice a0_0 x0.length n0_0)), (1, (.func (.func gx1) fx1.toArray kx1.toArray)), (7, (vi (x0.length : Int))), (8, (vi s24))]) N ⟨0, F0, ho22, hs0, (SH _), fI⟩ ?_
  rintro m38 f w25 ⟨s24, F1, hit39, hs26, le27, ⟨_, rfl⟩⟩
  obtain ⟨m40, fl41, rfl, hb42, hnx43⟩ := Bf hit39
  refine Sq (Rg [0] ?_)
  refine Vs 1 ?_
  refine Nss ?_
  refine Cd hb42 (fun hb44 h45 => ?_) (fun hb44 h46 => ?_)
  ·refine Sc ?_
   refine Ac ?_
   refine Sq ?_
   refine Bk ?_
   refine Sq (Rg [0, 1] ?_)
   refine Vs 2 ?_
   refine Nss (Rg [0, 1, 2, 3, 4, 5] ?_)
   refine Vs 3 ?_
   obtain ⟨x47, hx48, h50⟩ := bind_some h45
   obtain ⟨hi49, hx48'⟩ := Aw hx48
   obtain ⟨b51, o52, C53, E54, fz55, rfl, hF57, hE58⟩ := SQ (SJ hs0_0 le27) hx48'
   obtain ⟨ae59_2, ne59_2, ae59_5, ne59_5, hc60, hbe59_2, hse59_2, hbe59_5, hse59_5⟩ := hE58 _ _ hx48'
   refine Ix hi49 ?_
   refine Lx 0 (hs26.pers _ _ hF57) hc60 ?_
   obtain ⟨r61, hr62, h63⟩ := bind_some h50
   refine Cq hox1 hs26 (hpx1 w25 F1 x47 ae59_2 ne59_2 hbe59_2 hse59_2 ae59_5 ne59_5 hbe59_5 hse59_5 _ le27 hs26.pers hr62) ?_
   rintro _ F3 w65 hs66 le67 rfl
   refine Nt ?_
   refine Cd h63 (fun hb69 h70 => ?_) (fun hb69 h71 => ?_)
   ·refine Sq (Rg [0, 1] ?_)
    refine Vs 2 ?_
    refine Nt ?_
    refine Rt ?_
    refine Al ?_
    refine Aj ?_
    refine Aj ?_
    refine Al ?_
    have hret := Cs h70 hnx43
    subst hret
    refine .inr ?_
    refine Aj ?_
    obtain rfl := Ab h23
    exact Re [(vi s24)] hs66 rfl
   ·refine Sc ?_
    refine Ax ?_
    refine Ac ?_
    refine Rg [0, 1] ?_
    refine Vs 2 ?_
    refine SC ?_
    have hn72 := A8 h71 hnx43
    exact ⟨m40, Nat.lt_succ_self _, (W64 (s24 + 1)), F3, hn72, hs66, (le27.trans le67), fI⟩
  ·refine Ex ?_
   refine AF ?_
   refine AF ?_
   refine AZ rfl ?_
   have ho73 := Bm h46 hnx43
   exact .inl ⟨rfl, s24, F1, ho73, hs26, le27, fI⟩
 ·rintro f w34 ⟨s33, F2, rfl, hs35, le36, ⟨_, rfl⟩⟩
  have h74 := Cu h23
  refine Ac ?_
  refine Sq (Rg [0] ?_)
  refine Vs 1 ?_
  refine Nt ?_
  refine Rt ?_
  obtain rfl := Ab h74
  exact Re [(vi (-1))] hs35 rfl



def EW (N : Nat) (x0 : Clause) (z0 : (List Int)) : Option Bool :=
 ((EH N x0.When z0).bind fun r24 => some (r24 == 1))
theorem I3 : Aq Tryz.prog 163 := fun _ _ => by kernel_rfl
theorem JJ (N : Nat) (w0 : World) (F0 : Mem) (hF : S1 w0 F0) (x0 : Clause) (a0_2 : S0) (n0_2 : Nat) (hb0_2 : LC x0.When.Kids.length n0_2) (hs0_2 : SlA Ar F0 a0_2 x0.When.Kids) (a0_5 : S0) (n0_5 : Nat) (hb0_5 : LC x0.Then.Kids.length n0_5) (hs0_5 : SlA Ar F0 a0_5 x0.Then.Kids) (bz0 : Nat) (z0 : (List Int)) (az0_0 : S0) (nz0_0 : Nat) (hbz0_0 : LC z0.length nz0_0) (hsz0_0 : SlA Ci F0 az0_0 z0) (hz0 : F0 bz0 = some (oc #[(.slice az0_0 z0.length nz0_0)] 47)) (r : Bool) (h : EW N x0 z0 = some r) :
  Calls Tryz.prog 163 ([(.agg (HQ x0 a0_2 n0_2 a0_5 n0_5)), (pt bz0 0)] : List Value).toArray w0 (AV w0 F0 fun F' v => v = (.bool r)) := by
 have hs0 := SI hF
 refine Go 9 Tryz.func163 ?_
 refine Sq (Rg [0, 1] ?_)
 refine Bx' 56 (HQ x0 a0_2 n0_2 a0_5 n0_5) hs0 (fun b21 w22 hs23 => ?_)
 refine Vs 1 ?_
 refine Nss (Rg [0, 1, 2, 3, 4, 5] ?_)
 refine Vs 1 ?_
 refine Ld hs23.at0 ?_
 refine Ld (hs23.pers _ _ hz0) ?_
 obtain ⟨r24, hr25, h26⟩ := bind_some h
 refine Cl' Dg hs23 (E3 N w22 F0 hs23.pers x0.When a0_2 n0_2 hb0_2 hs0_2 z0 az0_0 nz0_0 hbz0_0 hsz0_0 _ hr25) ?_
 rintro _ F1 w28 hs29 le30 rfl
 refine Vs 2 ?_
 refine Nt ?_
 refine Rt ?_
 obtain rfl := Ab h26
 exact Re [(.bool (r24 == 1))] hs29 rfl
def Jj (N : Nat) (x0 : (List Clause)) (x1 : (List Int)) : Option Int :=
 ((BE N x0 (fun y0 => EW N y0 x1)).bind fun r27 => some r27)
theorem Kr : Aq Tryz.prog 103 := fun _ _ => by kernel_rfl
theorem KV (N : Nat) (w0 : World) (F0 : Mem) (hF : S1 w0 F0) (x0 : (List Clause)) (a0_0 : S0) (n0_0 : Nat) (hb0_0 : LC x0.length n0_0) (hs0_0 : SlA AC F0 a0_0 x0) (x1 : (List Int)) (a1_0 : S0) (n1_0 : Nat) (hb1_0 : LC x1.length n1_0) (hs1_0 : SlA Ci F0 a1_0 x1) (r : Int) (h : Jj N x0 x1 = some r) :
  Calls Tryz.prog 103 ([(.slice a0_0 x0.length n0_0), (.slice a1_0 x1.length n1_0)] : List Value).toArray w0 (AV w0 F0 fun F' v => v = (vi r)) := by
 have hs0 := SI hF
 refine Go 8 Tryz.func103 ?_
 refine Sq (Rg [0, 1] ?_)
 refine Bx' 47 #[(.slice a1_0 x1.length n1_0)] hs0 (fun b21 w22 hs23 => ?_)
 refine Vs 1 ?_
 refine Nss (Rg [0, 1, 2, 3] ?_)
 refine Vs 2 ?_
 obtain ⟨F1, hs24, le25, hF26⟩ := hs23.fc0
 obtain ⟨r27, hr28, h29⟩ := bind_some h
 refine Cl' Ct hs24 (Cv N w22 F1 hs24.pers x0 a0_0 n0_0 hb0_0 (SJ hs0_0 le25) 163 [] [(pt b21 0)] (fun y0 => EW N y0 x1) I3 (fun w1 F1 y0 ay0_2 ny0_2 hby0_2 hsy0_2 ay0_5 ny0_5 hby0_5 hsy0_5 r le1 pe1 hr1 => JJ N w1 F1 pe1  y0 ay0_2 ny0_2 hby0_2 hsy0_2 ay0_5 ny0_5 hby0_5 hsy0_5 b21 x1 a1_0 n1_0 hb1_0 (SJ (SJ hs1_0 le25) le1) (le1 _ _ hF26) r hr1) _ hr28) ?_
 rintro _ F2 w31 hs32 le33 rfl
 refine Vs 1 ?_
 refine Nt ?_
 refine Rt ?_
 obtain rfl := Ab h29
 exact Re [(vi r27)] hs32 rfl









def B4 (N : Nat) (x1 : Int) : Option (List Clause) :=
 (bif (decide (x1 < 0)) then none else (bif (decide ((W64 (x1 - (W64 (0 - (([] : List Clause).length : Int))))) > 0)) then ((mk0 ({ When := ({ Op := 0, Value := 0, Kids := ([] : List Expr) } : Expr), Then := ({ Op := 0, Value := 0, Kids := ([] : List Expr) } : Expr) } : Clause) (W64 (x1 - (W64 (0 - (([] : List Clause).length : Int)))))).bind fun r7 => ((sub r7 0 (([] : List Clause).length : Int)).bind fun r17 => some r17)) else some ([] : List Clause)))
theorem CN : Aq Tryz.prog 173 := fun _ _ => by kernel_rfl
theorem CR (N : Nat) (w0 : World) (F0 : Mem) (hF : S1 w0 F0) (x1 : Int) (r : (List Clause)) (h : B4 N x1 = some r) :
  Calls Tryz.prog 173 ([.slice none 0 0, (vi x1)] : List Value).toArray w0 (QT w0 F0 fun F' v L' => ∃ (a : S0) (n : Nat) (e : Option Nat × Obj), v = .slice a r.length n /\ L' = [e] /\ Av AC 56 F' a n r e) := by
 have hs0 := SI hF
 refine EB (n := 27) (c := Cb Tryz.f173) Tryz.func173 (by kernel_rfl) (by kernel_rfl) (by kernel_rfl) ?_
 refine Sq (Rg [0] ?_)
 refine Vs 1 ?_
 refine Nss ?_
 refine Sq (Rg [0, 1] ?_)
 refine Vs 1 ?_
 refine Vs 1 ?_
 refine Nt ?_
 refine Cd h (fun hb1 h2 => ?_) (fun hb1 h3 => ?_)
 ·refine Rg [0, 1] ?_
  refine V 7 20 (Fo (t := 9) (x := (.const (.string ⟨([99, 97, 110, 110, 111, 116, 32, 98, 101, 32, 110, 101, 103, 97, 116, 105, 118, 101] : SZ).toArray⟩))) (v := (.string ⟨(([99, 97, 110, 110, 111, 116, 32, 98, 101, 32, 110, 101, 103, 97, 116, 105, 118, 101] : SZ)).toArray⟩)) rfl (by kernel_rfl)) ?_
  cases h2
 ·refine Sc ?_
  refine Ac ?_
  refine Sq ?_
  refine Sq (Rg [0, 1, 2, 3, 4, 5, 6, 7] ?_)
  refine Vs 1 ?_
  refine Vs 1 ?_
  refine V 10 3 (G8 (x := (.tmp 9)) (ats := #[23]) (a := none) (n := 0) (c := 0) (E := 56) (s := 6) (by_ := 80) rfl rfl (by kernel_rfl)) ?_
  refine Vs 1 ?_
  refine Vs 1 ?_
  refine Vs 1 ?_
  refine Vs 1 ?_
  refine Vs 1 ?_
  refine Nss (Rg [0, 1] ?_)
  refine Vs 1 ?_
  refine Vs 1 ?_
  refine Nt ?_
  refine Cd h3 (fun hb4 h5 => ?_) (fun hb4 h6 => ?_)
  ·refine Rg [0, 1, 2, 3, 4, 5, 6, 7, 8, 9] ?_
   refine Vs 1 ?_
   refine Vs 1 ?_
   refine V 19 3 (G8 (x := (.tmp 18)) (ats := #[23]) (a := none) (n := 0) (c := 0) (E := 56) (s := 6) (by_ := 80) rfl rfl (by kernel_rfl)) ?_
   refine V 20 23 (KP (t := 23) (x := (.tmp 17)) (y := (.tmp 19)) (E := 56) (s := 6) (by_ := 80) rfl (by kernel_rfl) (by kernel_rfl) rfl) ?_
   refine Vs 1 ?_
   obtain ⟨r7, hm8, h9⟩ := bind_some h5
   refine RWP.appendNil (dst := (some 22)) (ty := 23) (g := none) (by kernel_rfl) rfl (x := (.tmp 20)) (y := (.tmp 21)) (t := 23) (t2 := 3) (by_ := 80) (z := (.agg #[(vi 0), (vi 0), (.slice none ([] : List Expr).length 0), (vi 0), (vi 0), (.slice none ([] : List Expr).length 0)])) (T := AC) (E := 56) rfl rfl (by kernel_rfl) (by decide) (by kernel_rfl) (by kernel_rfl) (z0 := ({ When := ({ Op := 0, Value := 0, Kids := ([] : List Expr) } : Expr), Then := ({ Op := 0, Value := 0, Kids := ([] : List Expr) } : Expr) } : Clause)) (fun _ => ⟨none, 0, none, 0, rfl, SK, (.inl rfl), SK, (.inl rfl)⟩) (by decide) hs0 hm8 (fun a10 n11 e12 w13 (hs14 : HS w0 F0 w13 F0 [e12]) hr15 => ?_)
   refine Vs 1 ?_
   refine Vs 1 ?_
   obtain ⟨r17, hr18, h19⟩ := bind_some h9
   refine RWP.sliceRow (T := AC) (x := (.tmp 22)) (y := (.tmp 24)) (t := 23) (E := 56) (by_ := 80) (c := n11) (a := a10) (l := r7) (r := r17) (ih := (([] : List Clause).length : Int)) (dst := (some 25)) (ty := 23) (g := none) (by kernel_rfl) rfl rfl (by kernel_rfl) (by kernel_rfl) hr15 rfl hr18 (fun hr20 => ?_)
   refine Vs 1 ?_
   refine Nss (Rg [0, 1] ?_)
   refine Vs 1 ?_
   refine Vs 1 ?_
   refine Nt ?_
   refine Rt ?_
   have hfin := Ab h19
   subst hfin
   exact ⟨rfl, (.slice a10 r17.length n11), AB (l := [.tmp 4]) (by kernel_rfl) (vs := [(.slice a10 r17.length n11)]) ⟨rfl, trivial⟩, (.slice a10 r17.length n11), F0, _, rfl, hs14, _, _, _, rfl, rfl, hr20⟩
  ·refine Sc ?_
   refine Ac ?_
   refine Sq (Rg [0, 1] ?_)
   refine Vs 1 ?_
   refine Vs 1 ?_
   refine Nt ?_
   refine Rt ?_
   have hs21 := hs0.dummy (oc #[] 0)
   have hfin := Ab h6
   subst hfin
   exact ⟨rfl, (.slice none ([] : List Clause).length 0), AB (l := [.tmp 4]) (by kernel_rfl) (vs := [(.slice none ([] : List Clause).length 0)]) ⟨rfl, trivial⟩, (.slice none ([] : List Clause).length 0), F0, _, rfl, hs21, _, _, _, rfl, rfl, (Av.nil AC 56 F0 _)⟩
def BG (N : Nat) (x0 : (List (List Clause))) : (Int × Int) -> Option (Bn (List Clause) (Int × Int)) := fun s24 =>
 (bif (decide (s24.2 < (x0.length : Int))) then ((idx x0 s24.2).bind fun x50 => (bif (decide ((W64 (s24.1 + (x50.length : Int))) < 0)) then none else some (.next ((W64 (s24.1 + (x50.length : Int))), (W64 (s24.2 + 1)))))) else some (.done (s24.1, s24.2)))
def BF (N : Nat) (x0 : (List (List Clause))) (s34 : (Int × Int)) (r70 : (List Clause)) : (List Clause × Int) -> Option (Bn (List Clause) (List Clause × Int)) := fun s87 =>
 (bif (decide (s87.2 < (x0.length : Int))) then ((idx x0 s87.2).bind fun x111 => ((C4 s87.1 x111).bind fun r125 => some (.next (r125, (W64 (s87.2 + 1)))))) else some (.done (s87.1, s87.2)))
def BW (N : Nat) (x0 : (List (List Clause))) : Option (List Clause) :=
 ((AX (BG N x0) N (0, 0)).bind fun o => o.k (fun r => some r) (fun s34 => ((B4 N s34.1).bind fun r70 => ((AX (BF N x0 s34 r70) N (r70, 0)).bind fun o => o.k (fun r => some r) (fun s96 => some s96.1)))))
theorem CH : Aq Tryz.prog 122 := fun _ _ => by kernel_rfl
theorem CK (N : Nat) (w0 : World) (F0 : Mem) (hF : S1 w0 F0) (x0 : (List (List Clause))) (a0_0 : S0) (n0_0 : Nat) (hb0_0 : LC x0.length n0_0) (hs0_0 : SlA (tSl AC) F0 a0_0 x0) (r : (List Clause)) (h : BW N x0 = some r) :
  Calls Tryz.prog 122 ([(.slice a0_0 x0.length n0_0)] : List Value).toArray w0 (AV w0 F0 fun F' v => ∃ (aq0_0 : S0) (nq0_0 : Nat), v = (.slice aq0_0 r.length nq0_0) /\ LC r.length nq0_0 /\ SlA AC F' aq0_0 r) := by
 have hs0 := SI hF
 refine Go 36 Tryz.func122 ?_
 refine Sq (Rg [0] ?_)
 refine Vs 1 ?_
 refine Nss (Rg [0] ?_)
 refine Vs 1 ?_
 refine Nss ?_
 refine Sq (Rg [0, 1, 2] ?_)
 refine Vs 3 ?_
 refine Nt ?_
 obtain ⟨o21, ho22, h23⟩ := bind_some h
 refine SN (fun f w => ∃ (s34 : (Int × Int)) (F2 : Mem), o21 = .done s34 /\ HS w0 F0 w F2 [] /\ SG F0 F2 /\ FI f [] [(0, (.slice a0_0 x0.length n0_0)), (3, (vi s34.1))]) ?_ ?_
 ·refine Bk ?_
  refine SF (by kernel_rfl) (fun m f w => ∃ (s24 : (Int × Int)) (F1 : Mem), AX (BG N x0) m s24 = some o21 /\ HS w0 F0 w F1 [] /\ SG F0 F1 /\ FI f [] [(0, (.slice a0_0 x0.length n0_0)), (3, (vi s24.1)), (9, (.slice a0_0 x0.length n0_0)), (10, (vi (x0.length : Int))), (11, (vi s24.2))]) N ⟨(0, 0), F0, ho22, hs0, (SH _), fI⟩ ?_
  rintro m41 f w25 ⟨s24, F1, hit42, hs26, le27, ⟨_, rfl⟩⟩
  obtain ⟨m43, fl44, rfl, hb45, hnx46⟩ := Bf hit42
  refine Sq (Rg [0] ?_)
  refine Vs 1 ?_
  refine Nss ?_
  refine Cd hb45 (fun hb47 h48 => ?_) (fun hb47 h49 => ?_)
  ·refine Sc ?_
   refine Ac ?_
   refine Sq ?_
   refine Bk ?_
   refine Sq (Rg [0, 1, 2] ?_)
   obtain ⟨x50, hx51, h53⟩ := bind_some h48
   obtain ⟨hi52, hx51'⟩ := Aw hx51
   obtain ⟨b54, o55, C56, E57, fz58, rfl, hF60, hE61⟩ := SQ (SJ hs0_0 le27) hx51'
   obtain ⟨ae62_0, ne62_0, hc63, hbe62_0, hse62_0⟩ := hE61 _ _ hx51'
   refine Ix hi52 ?_
   refine Lx 0 (hs26.pers _ _ hF60) hc63 ?_
   refine Vs 1 ?_
   refine Nss (Rg [0, 1, 2, 3, 4] ?_)
   refine Vs 5 ?_
   refine Nss (Rg [0, 1] ?_)
   refine Vs 2 ?_
   refine Nt ?_
   refine Cd h53 (fun hb64 h65 => ?_) (fun hb64 h66 => ?_)
   ·refine Rg [0, 1] ?_
    refine V 21 20 (Fo (t := 9) (x := (.const (.string ⟨([108, 101, 110, 32, 111, 117, 116, 32, 111, 102, 32, 114, 97, 110, 103, 101] : SZ).toArray⟩))) (v := (.string ⟨(([108, 101, 110, 32, 111, 117, 116, 32, 111, 102, 32, 114, 97, 110, 103, 101] : SZ)).toArray⟩)) rfl (by kernel_rfl)) ?_
    cases h65
   ·refine Sc ?_
    refine Ax ?_
    refine Ac ?_
    refine Rg [0, 1] ?_
    refine Vs 2 ?_
    refine SC ?_
    have hn67 := A8 h66 hnx46
    exact ⟨m43, Nat.lt_succ_self _, ((W64 (s24.1 + (x50.length : Int))), (W64 (s24.2 + 1))), F1, hn67, hs26, le27, fI⟩
  ·refine Ex ?_
   refine AF ?_
   refine AF ?_
   refine AZ rfl ?_
   have ho68 := Bm h49 hnx46
   exact .inl ⟨rfl, (s24.1, s24.2), F1, ho68, hs26, le27, fI⟩
 ·rintro f w35 ⟨s34, F2, rfl, hs36, le37, ⟨_, rfl⟩⟩
  have h69 := Cu h23
  refine Ac ?_
  refine Sq (Rg [0, 1, 2] ?_)
  refine Vs 1 ?_
  obtain ⟨r70, hr71, h72⟩ := bind_some h69
  refine RWP.callO (dst := (some 24)) (ty := 23) (g := none) (by kernel_rfl) rfl (f0 := (.func 173)) (aos := #[(.const (.slice none 0 0)), (.tmp 23)]) (ats := #[23, 3]) (fid := 173) (first := #[]) (cap := #[]) (args := [(.slice none ([] : List Clause).length 0), (vi s34.1)]) rfl CN rfl hs36 (CR N w35 F2 hs36.pers s34.1 _ hr71) ?_
  rintro _ F3 w74 _ hs75 le76 ⟨a78, n79, e80, rfl, rfl, hr81⟩
  have hs83 : HS w0 F0 w74 F3 [e80] := hs75
  refine Vs 1 ?_
  refine Nss ?_
  refine Sq (Rg [0, 1, 2] ?_)
  refine Vs 3 ?_
  refine Nt ?_
  obtain ⟨o84, ho85, h86⟩ := bind_some h72
  refine SN (fun f w => ∃ (s96 : (List Clause × Int)) (F5 : Mem) (as96_0 : S0) (ns96_0 : Nat) (es96_0 : Option Nat × Obj), o84 = .done s96 /\ HS w0 F0 w F5 [es96_0] /\ SG F3 F5 /\ FI f [] [(6, (.slice as96_0 s96.1.length ns96_0))] /\ Av AC 56 F5 as96_0 ns96_0 s96.1 es96_0) ?_ ?_
  ·refine Bk ?_
   refine SF (by kernel_rfl) (fun m f w => ∃ (s87 : (List Clause × Int)) (F4 : Mem) (as87_0 : S0) (ns87_0 : Nat) (es87_0 : Option Nat × Obj), AX (BF N x0 s34 r70) m s87 = some o84 /\ HS w0 F0 w F4 [es87_0] /\ SG F3 F4 /\ FI f [] [(6, (.slice as87_0 s87.1.length ns87_0)), (25, (.slice a0_0 x0.length n0_0)), (26, (vi (x0.length : Int))), (27, (vi s87.2))] /\ Av AC 56 F4 as87_0 ns87_0 s87.1 es87_0) N ⟨(r70, 0), F3, a78, n79, e80, ho85, hs83, (SH _), fI, hr81⟩ ?_
   rintro m102 f w88 ⟨s87, F4, as87_0, ns87_0, es87_0, hit103, hs89, le90, ⟨_, rfl⟩, hrs87_0⟩
   obtain ⟨m104, fl105, rfl, hb106, hnx107⟩ := Bf hit103
   refine Sq (Rg [0] ?_)
   refine Vs 1 ?_
   refine Nss ?_
   refine Cd hb106 (fun hb108 h109 => ?_) (fun hb108 h110 => ?_)
   ·refine Sc ?_
    refine Ac ?_
    refine Sq ?_
    refine Bk ?_
    refine Sq (Rg [0, 1, 2] ?_)
    obtain ⟨x111, hx112, h114⟩ := bind_some h109
    obtain ⟨hi113, hx112'⟩ := Aw hx112
    obtain ⟨b115, o116, C117, E118, fz119, rfl, hF121, hE122⟩ := SQ (SJ hs0_0 ((le37.trans le76).trans le90)) hx112'
    obtain ⟨ae123_0, ne123_0, hc124, hbe123_0, hse123_0⟩ := hE122 _ _ hx112'
    refine Ix hi113 ?_
    refine Lx 0 (hs89.pers _ _ hF121) hc124 ?_
    refine Vs 1 ?_
    refine Nt ?_
    refine Rg [0, 1, 2, 3] ?_
    refine Vs 2 ?_
    obtain ⟨r125, hap126, h127⟩ := bind_some h114
    refine Ap0 N5 hs89 hrs87_0 (SlA.rd hs89 hse123_0) hap126 (fun a128 n129 e130 w131 hs132 hr133 => ?_)
    refine Vs 1 ?_
    refine SC ?_
    refine Ax ?_
    refine Ac ?_
    refine Rg [0, 1] ?_
    refine Vs 2 ?_
    refine SC ?_
    have hn134 := A8 h127 hnx107
    exact ⟨m104, Nat.lt_succ_self _, (r125, (W64 (s87.2 + 1))), F4, a128, n129, e130, hn134, hs132, le90, fI, hr133⟩
   ·refine Ex ?_
    refine AF ?_
    refine AF ?_
    refine AZ rfl ?_
    have ho135 := Bm h110 hnx107
    exact .inl ⟨rfl, (s87.1, s87.2), F4, as87_0, ns87_0, es87_0, ho135, hs89, le90, fI, hrs87_0⟩
  ·rintro f w97 ⟨s96, F5, as96_0, ns96_0, es96_0, rfl, hs98, le99, ⟨_, rfl⟩, hrs96_0⟩
   have h136 := Cu h86
   refine Ac ?_
   refine Sq (Rg [0, 1] ?_)
   refine Vs 2 ?_
   refine Nt ?_
   refine Rt ?_
   have hb140 := SW hrs96_0
   obtain ⟨F6, hs137, le138, hs139⟩ := hs98.fr0 hrs96_0
   obtain rfl := Ab h136
   exact Re [(.slice as96_0 s96.1.length ns96_0)] hs137 ⟨as96_0, ns96_0, rfl, hb140, hs139⟩
def Gf (N : Nat) (x0 : C6) (r36 : (List Clause)) : (Int × Int) -> Option (Bn (Int × Int) (Int × Int)) := fun s47 =>
 (bif (decide (s47.2 < (r36.length : Int))) then ((idx r36 s47.2).bind fun x73 => ((EI N x73).bind fun r92 => (bif (!r92) then some (.ret (62, (W64 (s47.1 + 1)))) else some (.next ((W64 (s47.1 + 1)), (W64 (s47.2 + 1))))))) else some (.done (s47.1, s47.2)))
def Ge (N : Nat) (x0 : C6) (r36 : (List Clause)) (s57 : (Int × Int)) : (Int × Int) -> Option (Bn (Int × Int) (Int × Int)) := fun s109 =>
 (bif (decide (s109.2 < (x0.Repeats.length : Int))) then ((idx x0.Repeats s109.2).bind fun x132 => ((HJ N x132 1).bind fun r151 => (bif (!r151) then some (.ret (62, (W64 (s109.1 + 1)))) else some (.next ((W64 (s109.1 + 1)), (W64 (s109.2 + 1))))))) else some (.done (s109.1, s109.2)))
def Jl (N : Nat) (x0 : C6) : Option (Int × Int) :=
 (bif (decide ((max (max (max (x0.Points.length : Int) (x0.Multipliers.length : Int)) (x0.Penalties.length : Int)) (x0.Repeats.length : Int)) > 64)) then some (2, 0) else ((BW N ([x0.Points, x0.Multipliers, x0.Penalties])).bind fun r36 => ((AX (Gf N x0 r36) N (0, 0)).bind fun o => o.k (fun r => some r) (fun s57 => ((AX (Ge N x0 r36 s57) N (s57.1, 0)).bind fun o => o.k (fun r => some r) (fun s118 => some (0, 0)))))))
theorem Kt : Aq Tryz.prog 70 := fun _ _ => by kernel_rfl
theorem KX (N : Nat) (w0 : World) (F0 : Mem) (hF : S1 w0 F0) (x0 : C6) (a0_0 : S0) (n0_0 : Nat) (hb0_0 : LC x0.Points.length n0_0) (hs0_0 : SlA AC F0 a0_0 x0.Points) (a0_1 : S0) (n0_1 : Nat) (hb0_1 : LC x0.Multipliers.length n0_1) (hs0_1 : SlA AC F0 a0_1 x0.Multipliers) (a0_2 : S0) (n0_2 : Nat) (hb0_2 : LC x0.Penalties.length n0_2) (hs0_2 : SlA AC F0 a0_2 x0.Penalties) (a0_3 : S0) (n0_3 : Nat) (hb0_3 : LC x0.Repeats.length n0_3) (hs0_3 : SlA Ar F0 a0_3 x0.Repeats) (r : (Int × Int)) (h : Jl N x0 = some r) :
  Calls Tryz.prog 70 ([(.agg (BC x0 a0_0 n0_0 a0_1 n0_1 a0_2 n0_2 a0_3 n0_3))] : List Value).toArray w0 (AV w0 F0 fun F' v => v = (.tuple #[(vi r.1), (vi r.2)])) := by
 have hs0 := SI hF
 refine Go 57 Tryz.func70 ?_
 refine Sq (Rg [0, 1, 2] ?_)
 refine Bx' 26 (BC x0 a0_0 n0_0 a0_1 n0_1 a0_2 n0_2 a0_3 n0_3) hs0 (fun b21 w22 hs23 => ?_)
 refine Vs 2 ?_
 refine Nss ?_
 refine Sq (Rg [0, 1, 2, 3, 4, 5, 6, 7, 8, 9, 10, 11, 12, 13] ?_)
 refine Vs 1 ?_
 refine Ld hs23.at0 ?_
 refine Vs 2 ?_
 refine Ld hs23.at0 ?_
 refine Vs 2 ?_
 refine Ld hs23.at0 ?_
 refine Vs 2 ?_
 refine Ld hs23.at0 ?_
 refine Vs 1 ?_
 refine V 21 3 (Pb (x := (.tmp 11)) (y := (.tmp 14)) (z := (.tmp 17)) (u := (.tmp 20)) (ats := #[3, 3, 3, 3]) (a := (x0.Points.length : Int)) (b := (x0.Multipliers.length : Int)) (c := (x0.Penalties.length : Int)) (d := (x0.Repeats.length : Int)) rfl rfl rfl rfl) ?_
 refine Vs 1 ?_
 refine Nt ?_
 refine Cd h (fun hb24 h25 => ?_) (fun hb24 h26 => ?_)
 ·refine Sq (Rg [0, 1] ?_)
  refine Vs 2 ?_
  refine Nt ?_
  refine Rt ?_
  refine Aj ?_
  obtain rfl := Ab h25
  exact Re [(vi 2), (vi 0)] hs23 rfl
 ·refine Sc ?_
  refine Ac ?_
  refine Sq (Rg [0] ?_)
  refine Vs 1 ?_
  refine Nss ?_
  refine Sq (Rg [0, 1, 2, 3, 4, 5, 6, 7, 8, 9] ?_)
  refine Vs 1 ?_
  refine Ld hs23.at0 ?_
  refine Vs 1 ?_
  refine Ld hs23.at0 ?_
  refine Vs 1 ?_
  refine Ld hs23.at0 ?_
  refine Bs 23 [(.slice a0_0 x0.Points.length n0_0), (.slice a0_1 x0.Multipliers.length n0_1), (.slice a0_2 x0.Penalties.length n0_2)] hs23 (fun b27 w28 hs29 => ?_)
  have hr31 : Av (tSl AC) 23 F0 (some ⟨b27, 0, none⟩) 3 [x0.Points, x0.Multipliers, x0.Penalties] (some b27, .cells ([(.slice a0_0 x0.Points.length n0_0), (.slice a0_1 x0.Multipliers.length n0_1), (.slice a0_2 x0.Penalties.length n0_2)] : List Value).toArray 23 (0, 0)) := SX ⟨⟨a0_0, n0_0, rfl, hb0_0, hs0_0⟩, ⟨⟨a0_1, n0_1, rfl, hb0_1, hs0_1⟩, ⟨⟨a0_2, n0_2, rfl, hb0_2, hs0_2⟩, rfl⟩⟩⟩ (by simp)
  have hb35 := SW hr31
  obtain ⟨F1, hs32, le33, hs34⟩ := hs29.fr0 hr31
  obtain ⟨r36, hr37, h38⟩ := bind_some h26
  refine Cl' CH hs32 (CK N w28 F1 hs32.pers ([x0.Points, x0.Multipliers, x0.Penalties]) (some ⟨b27, 0, none⟩) 3 hb35 hs34 _ hr37) ?_
  rintro _ F2 w40 hs41 le42 ⟨ar36_0_0, nr36_0_0, rfl, hbr36_0_0, hsr36_0_0⟩
  refine Vs 2 ?_
  refine Nt ?_
  obtain ⟨o44, ho45, h46⟩ := bind_some h38
  refine SN (fun f w => ∃ (s57 : (Int × Int)) (F4 : Mem), o44 = .done s57 /\ HS w0 F0 w F4 [(sb b21 (BC x0 a0_0 n0_0 a0_1 n0_1 a0_2 n0_2 a0_3 n0_3) 26)] /\ SG F2 F4 /\ FI f [] [(1, (pt b21 0)), (4, (vi s57.1))]) ?_ ?_
  ·refine Bk ?_
   refine SF (by kernel_rfl) (fun m f w => ∃ (s47 : (Int × Int)) (F3 : Mem), AX (Gf N x0 r36) m s47 = some o44 /\ HS w0 F0 w F3 [(sb b21 (BC x0 a0_0 n0_0 a0_1 n0_1 a0_2 n0_2 a0_3 n0_3) 26)] /\ SG F2 F3 /\ FI f [] [(1, (pt b21 0)), (4, (vi s47.1)), (30, (.slice ar36_0_0 r36.length nr36_0_0)), (31, (vi (r36.length : Int))), (32, (vi s47.2))]) N ⟨(0, 0), F2, ho45, hs41, (SH _), fI⟩ ?_
   rintro m64 f w48 ⟨s47, F3, hit65, hs49, le50, ⟨_, rfl⟩⟩
   obtain ⟨m66, fl67, rfl, hb68, hnx69⟩ := Bf hit65
   refine Sq (Rg [0] ?_)
   refine Vs 1 ?_
   refine Nss ?_
   refine Cd hb68 (fun hb70 h71 => ?_) (fun hb70 h72 => ?_)
   ·refine Sc ?_
    refine Ac ?_
    refine Sq ?_
    refine Bk ?_
    refine Sq (Rg [0, 1, 2, 3] ?_)
    obtain ⟨x73, hx74, h76⟩ := bind_some h71
    obtain ⟨hi75, hx74'⟩ := Aw hx74
    obtain ⟨b77, o78, C79, E80, fz81, rfl, hF83, hE84⟩ := SQ (SJ hsr36_0_0 le50) hx74'
    obtain ⟨ae85_2, ne85_2, ae85_5, ne85_5, hc86, hbe85_2, hse85_2, hbe85_5, hse85_5⟩ := hE84 _ _ hx74'
    refine Ix hi75 ?_
    refine Lx 0 (hs49.pers _ _ hF83) hc86 ?_
    refine Al' 56 #[(vi 0), (vi 0), (.slice none ([] : List Expr).length 0), (vi 0), (vi 0), (.slice none ([] : List Expr).length 0)] hs49 (fun b87 w88 hs89 => ?_)
    refine St0 (HQ x73 ae85_2 ne85_2 ae85_5 ne85_5) hs89 (fun w90 hs91 => ?_)
    refine Nss (Rg [0, 1, 2] ?_)
    refine Vs 3 ?_
    refine Nss (Rg [0, 1, 2] ?_)
    refine Ld hs91.at0 ?_
    obtain ⟨r92, hr93, h94⟩ := bind_some h76
    refine Cl' Gn hs91 (GS N w90 F3 hs91.pers x73 ae85_2 ne85_2 hbe85_2 hse85_2 ae85_5 ne85_5 hbe85_5 hse85_5 _ hr93) ?_
    rintro _ F5 w96 hs97 le98 rfl
    refine Vs 1 ?_
    refine Nt ?_
    refine Cd h94 (fun hb100 h101 => ?_) (fun hb100 h102 => ?_)
    ·refine Sq (Rg [0, 1, 2] ?_)
     refine Vs 3 ?_
     refine Nt ?_
     refine Rt ?_
     refine Al ?_
     refine Aj ?_
     refine Aj ?_
     refine Al ?_
     have hret := Cs h101 hnx69
     subst hret
     refine .inr ?_
     refine Aj ?_
     obtain rfl := Ab h46
     exact Re [(vi 62), (vi (W64 (s47.1 + 1)))] hs97 rfl
    ·refine Sc ?_
     refine Ax ?_
     refine Ac ?_
     refine Rg [0, 1] ?_
     refine Vs 2 ?_
     refine SC ?_
     have hn103 := A8 h102 hnx69
     exact ⟨m66, Nat.lt_succ_self _, ((W64 (s47.1 + 1)), (W64 (s47.2 + 1))), F5, hn103, hs97.dr0, (le50.trans le98), fI⟩
   ·refine Ex ?_
    refine AF ?_
    refine AF ?_
    refine AZ rfl ?_
    have ho104 := Bm h72 hnx69
    exact .inl ⟨rfl, (s47.1, s47.2), F3, ho104, hs49, le50, fI⟩
  ·rintro f w58 ⟨s57, F4, rfl, hs59, le60, ⟨_, rfl⟩⟩
   have h105 := Cu h46
   refine Ac ?_
   refine Sq ?_
   refine Sq (Rg [0, 1, 2, 3] ?_)
   refine Vs 1 ?_
   refine Ld hs59.at0 ?_
   refine Vs 2 ?_
   refine Nt ?_
   obtain ⟨o106, ho107, h108⟩ := bind_some h105
   refine SN (fun f w => ∃ (s118 : (Int × Int)) (F7 : Mem), o106 = .done s118 /\ HS w0 F0 w F7 [] /\ SG F4 F7 /\ FI f [] []) ?_ ?_
   ·refine Bk ?_
    refine SF (by kernel_rfl) (fun m f w => ∃ (s109 : (Int × Int)) (F6 : Mem), AX (Ge N x0 r36 s57) m s109 = some o106 /\ HS w0 F0 w F6 [] /\ SG F4 F6 /\ FI f [] [(4, (vi s109.1)), (44, (.slice a0_3 x0.Repeats.length n0_3)), (45, (vi (x0.Repeats.length : Int))), (46, (vi s109.2))]) N ⟨(s57.1, 0), F4, ho107, hs59.dr0, (SH _), fI⟩ ?_
    rintro m123 f w110 ⟨s109, F6, hit124, hs111, le112, ⟨_, rfl⟩⟩
    obtain ⟨m125, fl126, rfl, hb127, hnx128⟩ := Bf hit124
    refine Sq (Rg [0] ?_)
    refine Vs 1 ?_
    refine Nss ?_
    refine Cd hb127 (fun hb129 h130 => ?_) (fun hb129 h131 => ?_)
    ·refine Sc ?_
     refine Ac ?_
     refine Sq ?_
     refine Bk ?_
     refine Sq (Rg [0, 1, 2, 3] ?_)
     obtain ⟨x132, hx133, h135⟩ := bind_some h130
     obtain ⟨hi134, hx133'⟩ := Aw hx133
     obtain ⟨b136, o137, C138, E139, fz140, rfl, hF142, hE143⟩ := SQ (SJ hs0_3 (((le33.trans le42).trans le60).trans le112)) hx133'
     obtain ⟨ae144_2, ne144_2, hc145, hbe144_2, hse144_2⟩ := (AR (hE143 _ _ hx133'))
     refine Ix hi134 ?_
     refine Lx 0 (hs111.pers _ _ hF142) hc145 ?_
     refine Al' 33 #[(vi 0), (vi 0), (.slice none ([] : List Expr).length 0)] hs111 (fun b146 w147 hs148 => ?_)
     refine St0 (Ai x132 ae144_2 ne144_2) hs148 (fun w149 hs150 => ?_)
     refine Nss (Rg [0, 1, 2] ?_)
     refine Vs 3 ?_
     refine Nss (Rg [0, 1, 2] ?_)
     refine Ld hs150.at0 ?_
     obtain ⟨r151, hr152, h153⟩ := bind_some h135
     refine Cl' Gv hs150 (Hw N w149 F6 hs150.pers x132 ae144_2 ne144_2 hbe144_2 hse144_2 1 _ hr152) ?_
     rintro _ F8 w155 hs156 le157 rfl
     refine Vs 1 ?_
     refine Nt ?_
     refine Cd h153 (fun hb159 h160 => ?_) (fun hb159 h161 => ?_)
     ·refine Sq (Rg [0, 1, 2] ?_)
      refine Vs 3 ?_
      refine Nt ?_
      refine Rt ?_
      refine Al ?_
      refine Aj ?_
      refine Aj ?_
      refine Al ?_
      have hret := Cs h160 hnx128
      subst hret
      refine .inr ?_
      refine Aj ?_
      obtain rfl := Ab h108
      exact Re [(vi 62), (vi (W64 (s109.1 + 1)))] hs156 rfl
     ·refine Sc ?_
      refine Ax ?_
      refine Ac ?_
      refine Rg [0, 1] ?_
      refine Vs 2 ?_
      refine SC ?_
      have hn162 := A8 h161 hnx128
      exact ⟨m125, Nat.lt_succ_self _, ((W64 (s109.1 + 1)), (W64 (s109.2 + 1))), F8, hn162, hs156.dr0, (le112.trans le157), fI⟩
    ·refine Ex ?_
     refine AF ?_
     refine AF ?_
     refine AZ rfl ?_
     have ho163 := Bm h131 hnx128
     exact .inl ⟨rfl, (s109.1, s109.2), F6, ho163, hs111, le112, fI⟩
   ·rintro f w119 ⟨s118, F7, rfl, hs120, le121, ⟨_, rfl⟩⟩
    have h164 := Cu h108
    refine Ac ?_
    refine Sq (Rg [0, 1] ?_)
    refine Vs 2 ?_
    refine Nt ?_
    refine Rt ?_
    obtain rfl := Ab h164
    exact Re [(vi 0), (vi 0)] hs120 rfl
def Jk (N : Nat) (x0 : C6) : Option Bool :=
 ((Jl N x0).bind fun r24 => some (r24.1 == 0))
theorem Ks : Aq Tryz.prog 54 := fun _ _ => by kernel_rfl
theorem KW (N : Nat) (w0 : World) (F0 : Mem) (hF : S1 w0 F0) (x0 : C6) (a0_0 : S0) (n0_0 : Nat) (hb0_0 : LC x0.Points.length n0_0) (hs0_0 : SlA AC F0 a0_0 x0.Points) (a0_1 : S0) (n0_1 : Nat) (hb0_1 : LC x0.Multipliers.length n0_1) (hs0_1 : SlA AC F0 a0_1 x0.Multipliers) (a0_2 : S0) (n0_2 : Nat) (hb0_2 : LC x0.Penalties.length n0_2) (hs0_2 : SlA AC F0 a0_2 x0.Penalties) (a0_3 : S0) (n0_3 : Nat) (hb0_3 : LC x0.Repeats.length n0_3) (hs0_3 : SlA Ar F0 a0_3 x0.Repeats) (r : Bool) (h : Jk N x0 = some r) :
  Calls Tryz.prog 54 ([(.agg (BC x0 a0_0 n0_0 a0_1 n0_1 a0_2 n0_2 a0_3 n0_3))] : List Value).toArray w0 (AV w0 F0 fun F' v => v = (.bool r)) := by
 have hs0 := SI hF
 refine Go 12 Tryz.func54 ?_
 refine Sq (Rg [0, 1] ?_)
 refine Bx' 26 (BC x0 a0_0 n0_0 a0_1 n0_1 a0_2 n0_2 a0_3 n0_3) hs0 (fun b21 w22 hs23 => ?_)
 refine Vs 1 ?_
 refine Nss (Rg [0, 1, 2, 3, 4, 5, 6] ?_)
 refine Ld hs23.at0 ?_
 obtain ⟨r24, hr25, h26⟩ := bind_some h
 refine Cl' Kt hs23 (KX N w22 F0 hs23.pers x0 a0_0 n0_0 hb0_0 hs0_0 a0_1 n0_1 hb0_1 hs0_1 a0_2 n0_2 hb0_2 hs0_2 a0_3 n0_3 hb0_3 hs0_3 _ hr25) ?_
 rintro _ F1 w28 hs29 le30 rfl
 refine Vs 5 ?_
 refine Nss (Rg [0, 1, 2] ?_)
 refine Vs 3 ?_
 refine Nt ?_
 refine Rt ?_
 obtain rfl := Ab h26
 exact Re [(.bool (r24.1 == 0))] hs29 rfl
def Ji (N : Nat) (x0 : C6) (x1 : (List Int)) : Option Int :=
 ((Jk N x0).bind fun r24 => (bif (!r24) then some 62 else ((Fa N x1).bind fun r35 => (bif (!r35) then some 63 else some 0))))
theorem Kq : Aq Tryz.prog 106 := fun _ _ => by kernel_rfl
theorem KU (N : Nat) (w0 : World) (F0 : Mem) (hF : S1 w0 F0) (x0 : C6) (a0_0 : S0) (n0_0 : Nat) (hb0_0 : LC x0.Points.length n0_0) (hs0_0 : SlA AC F0 a0_0 x0.Points) (a0_1 : S0) (n0_1 : Nat) (hb0_1 : LC x0.Multipliers.length n0_1) (hs0_1 : SlA AC F0 a0_1 x0.Multipliers) (a0_2 : S0) (n0_2 : Nat) (hb0_2 : LC x0.Penalties.length n0_2) (hs0_2 : SlA AC F0 a0_2 x0.Penalties) (a0_3 : S0) (n0_3 : Nat) (hb0_3 : LC x0.Repeats.length n0_3) (hs0_3 : SlA Ar F0 a0_3 x0.Repeats) (x1 : (List Int)) (a1_0 : S0) (n1_0 : Nat) (hb1_0 : LC x1.length n1_0) (hs1_0 : SlA Ci F0 a1_0 x1) (r : Int) (h : Ji N x0 x1 = some r) :
  Calls Tryz.prog 106 ([(.agg (BC x0 a0_0 n0_0 a0_1 n0_1 a0_2 n0_2 a0_3 n0_3)), (.slice a1_0 x1.length n1_0)] : List Value).toArray w0 (AV w0 F0 fun F' v => v = (vi r)) := by
 have hs0 := SI hF
 refine Go 13 Tryz.func106 ?_
 refine Sq (Rg [0, 1] ?_)
 refine Bx' 26 (BC x0 a0_0 n0_0 a0_1 n0_1 a0_2 n0_2 a0_3 n0_3) hs0 (fun b21 w22 hs23 => ?_)
 refine Vs 1 ?_
 refine Nss ?_
 refine Bk ?_
 refine Sq (Rg [0, 1, 2, 3] ?_)
 refine Ld hs23.at0 ?_
 obtain ⟨r24, hr25, h26⟩ := bind_some h
 refine Cl' Ks hs23 (KW N w22 F0 hs23.pers x0 a0_0 n0_0 hb0_0 hs0_0 a0_1 n0_1 hb0_1 hs0_1 a0_2 n0_2 hb0_2 hs0_2 a0_3 n0_3 hb0_3 hs0_3 _ hr25) ?_
 rintro _ F1 w28 hs29 le30 rfl
 refine Vs 2 ?_
 refine Nt ?_
 refine Cd h26 (fun hb32 h33 => ?_) (fun hb32 h34 => ?_)
 ·refine Sq (Rg [0] ?_)
  refine Vs 1 ?_
  refine Nt ?_
  refine Rt ?_
  refine Al ?_
  refine Aj ?_
  obtain rfl := Ab h33
  exact Re [(vi 62)] hs29 rfl
 ·refine Sq (Rg [0, 1, 2, 3] ?_)
  refine Vs 1 ?_
  obtain ⟨r35, hr36, h37⟩ := bind_some h34
  refine Cl' GP hs29 (Hu N w28 F1 hs29.pers x1 a1_0 n1_0 hb1_0 (SJ hs1_0 le30) _ hr36) ?_
  rintro _ F2 w39 hs40 le41 rfl
  refine Vs 2 ?_
  refine Nt ?_
  refine Cd h37 (fun hb43 h44 => ?_) (fun hb43 h45 => ?_)
  ·refine Sq (Rg [0] ?_)
   refine Vs 1 ?_
   refine Nt ?_
   refine Rt ?_
   refine Al ?_
   refine Aj ?_
   obtain rfl := Ab h44
   exact Re [(vi 63)] hs40 rfl
  ·refine Sc ?_
   refine Ax ?_
   refine Ac ?_
   refine Sq (Rg [0] ?_)
   refine Vs 1 ?_
   refine Nt ?_
   refine Rt ?_
   obtain rfl := Ab h45
   exact Re [(vi 0)] hs40 rfl



def fi {α : Type} (p : α -> Bool) (l : List α) : Int := if l.any p then (l.findIdx p : Int) else -1
section
variable {N : Nat} {f : List Int}
def isT (f : List Int) (c : Clause) : Bool := val f c.When == 1
end
theorem Rm {x : Expr} (h : MC x) : ∃ n0, ∀ N, n0 <= N -> Fit N x := by
 obtain ⟨n, hn⟩ := h
 exact ⟨3518437208781 + (2 * n + 10), fun N hN => ⟨n, hn.wide (by omega), by omega⟩⟩
def Iq (m : ∀ {σ : Type}, (σ -> Ah -> Option (Bool × σ)) -> σ -> Option σ) : Option (List Ah) := m (fun st x => (C4 st [x]).map fun t => (true, t)) ([] : List Ah)
theorem GO : Aq Tryz.prog 179 := fun _ _ => by kernel_rfl
theorem Hs (w0 : World) (F0 : Mem) (hF : S1 w0 F0) (gf : FuncId) (cap : List Value) (m : ∀ {σ : Type}, (σ -> Ah -> Option (Bool × σ)) -> σ -> Option σ) (hgf : Aq Tryz.prog gf) (hseq : MV Tryz.prog gf cap F0 [] LV N4 N0 m) (r : (List Ah)) (h : Iq m = some r) :
  Calls Tryz.prog 179 ([.slice none 0 0, (.func (.func gf) #[] cap.toArray)] : List Value).toArray w0 (AV w0 F0 fun F' v => ∃ (aq0_0 : S0) (nq0_0 : Nat), v = (.slice aq0_0 r.length nq0_0) /\ LC r.length nq0_0 /\ SlA Ag F' aq0_0 r) := by
 have hs0 := SI hF
 refine OO (n := 13) (c := Cb Tryz.f179) Tryz.func179 (by kernel_rfl) (by kernel_rfl) (by kernel_rfl) ?_
 refine Sq ?_
 refine Rg [0, 1] ?_
 refine RWP.box (dst := (some 2)) (ty := 0) (g := none) (by kernel_rfl) rfl (x := (.tmp 0)) (t := 98) (v := (.slice none ([] : List Ah).length 0)) rfl (C := #[(.slice none ([] : List Ah).length 0)]) rfl hs0 (fun b1 w2 (hs3 : HS w0 F0 w2 F0 [(some b1, (.cells #[(.slice none ([] : List Ah).length 0)] 98 (0, 0)))]) => ?_)
 refine V 4 98 (Az (x := (.const (.slice none 0 0))) (v := (.slice none ([] : List Ah).length 0)) rfl) ?_
 refine SC ?_
 refine Ac ?_
 refine Sq ?_
 refine Sq ?_
 refine Rg [0] ?_
 refine V 6 162 (AL (x := (.tmp 1)) (v := (.func (.func gf) #[] cap.toArray)) rfl) ?_
 refine SC ?_
 refine Ac ?_
 refine CWP.block (by kernel_rfl) ?_
 have hs4 : HS w0 F0 w2 F0 [(none, .cells #[] 0 (0, 0)), (some b1, (.cells #[(.slice none ([] : List Ah).length 0)] 98 (0, 0)))] := hs3.dummy _
 obtain ⟨r14, hr15, h16⟩ : ∃ r14, Iq m = some r14 /\ some r14 = some r := ⟨r, h, rfl⟩
 refine CWP.rangeFunc (enc := LV) (ok := N4) (px := N0) (m := fun {_} y s => m y s) (L := [(none, .cells #[] 0 (0, 0)), (some b1, (.cells #[(.slice none ([] : List Ah).length 0)] 98 (0, 0)))]) (B := []) (ps := [7]) (by kernel_rfl) (gf := gf) (cap := cap) rfl hgf rfl (by kernel_rfl) (by kernel_rfl) (fun _ => rfl) hs4 hseq (fun st x => (C4 st [x]).map fun t => (true, t)) (fun (s6 : (List Ah)) (F1 : Mem) (Lq : Own) => ∃ (as6_0 : S0) (ns6_0 : Nat) (es6_0 : Option Nat × Obj), Lq = [es6_0, (some b1, (.cells #[(.slice as6_0 s6.length ns6_0)] 98 (0, 0)))] /\ Av Ag 97 F1 as6_0 ns6_0 s6 es6_0) ?_ (s := ([] : List Ah)) (r := r14) ?_ hr15 (fun _ _ _ h => (MI h).1) ?_ ?_
 ·
  rintro s F F' L ⟨as6_0, ns6_0, es6_0, rfl, hrs6_0⟩ hl
  exact ⟨as6_0, ns6_0, es6_0, rfl, (hrs6_0.mono hl)⟩
 ·
  exact ⟨none, 0, (none, .cells #[] 0 (0, 0)), rfl, (Av.nil Ag 97 F0 _)⟩
 ·
  rintro l17 s6 x19 w20 F1 _ Rf22 ⟨q0, q23⟩ le24 ok25 ⟨as6_0, ns6_0, es6_0, rfl, hrs6_0⟩ hs26 hy27
  have h28 := (MI hy27).2
  have hs29 : HS w0 F0 w20 F1 (es6_0 :: (some b1, (.cells #[(.slice as6_0 s6.length ns6_0)] 98 (0, 0))) :: Rf22) := hs26
  refine Rg [0, 1] ?_
  refine SO (dst := (some 5)) (ty := 0) (g := none) (by kernel_rfl) rfl (t := 97) (z := (.agg #[(.int .i64 0), (.int .i64 0), (.string ⟨(([] : SZ)).toArray⟩)])) (by kernel_rfl) (C := #[(.int .i64 0), (.int .i64 0), (.string ⟨(([] : SZ)).toArray⟩)]) rfl hs29 (fun b30 w31 (hs32 : HS w0 F0 w31 F1 ((some b30, (.cells #[(.int .i64 0), (.int .i64 0), (.string ⟨(([] : SZ)).toArray⟩)] 97 (0, 0))) :: es6_0 :: (some b1, (.cells #[(.slice as6_0 s6.length ns6_0)] 98 (0, 0))) :: Rf22)) => ?_)
  refine SP (ty := 0) (g := none) (by kernel_rfl) rfl (x := (.tmp 5)) (y := (.tmp 7)) (t := 97) (gg := true) (s := 3) (v := (.agg #[(.int .i64 x19.kind_), (.int .i64 x19.at_), (.string ⟨(x19.text_).toArray⟩)])) (b := b30) (o := 0) (C := #[(.int .i64 0), (.int .i64 0), (.string ⟨(([] : SZ)).toArray⟩)]) rfl rfl (by kernel_rfl) hs32 (k := 0) rfl rfl rfl rfl (C' := #[(.int .i64 x19.kind_), (.int .i64 x19.at_), (.string ⟨(x19.text_).toArray⟩)]) rfl (fun w33 (hs34 : HS w0 F0 w33 F1 ((some b30, (.cells #[(.int .i64 x19.kind_), (.int .i64 x19.at_), (.string ⟨(x19.text_).toArray⟩)] 97 (0, 0))) :: es6_0 :: (some b1, (.cells #[(.slice as6_0 s6.length ns6_0)] 98 (0, 0))) :: Rf22)) => ?_)
  refine SC ?_
  refine ⟨rfl, F1, [(some b30, (.cells #[(.int .i64 x19.kind_), (.int .i64 x19.at_), (.string ⟨(x19.text_).toArray⟩)] 97 (0, 0))), es6_0, (some b1, (.cells #[(.slice as6_0 s6.length ns6_0)] 98 (0, 0)))], hs34, fun w35 Rf36 hs37 => ?_⟩
  have hs38 : HS w0 F0 w35 F1 ((some b30, (.cells #[(.int .i64 x19.kind_), (.int .i64 x19.at_), (.string ⟨(x19.text_).toArray⟩)] 97 (0, 0))) :: es6_0 :: (some b1, (.cells #[(.slice as6_0 s6.length ns6_0)] 98 (0, 0))) :: Rf36) := hs37
  refine CWP.block (by kernel_rfl) ?_
  refine Rg [0, 1, 2, 3, 4] ?_
  refine V 8 98 (B6 (t := 98) (x := (.tmp 2)) (b := b1) (o := 0) (g := false) (s := 1) (C := #[(.slice as6_0 s6.length ns6_0)]) (v := (.slice as6_0 s6.length ns6_0)) rfl (by kernel_rfl) (hs38.ownAt (k := 2) rfl) rfl rfl rfl) ?_
  refine V 9 97 (B6 (t := 97) (x := (.tmp 5)) (b := b30) (o := 0) (g := true) (s := 3) (C := #[(.int .i64 x19.kind_), (.int .i64 x19.at_), (.string ⟨(x19.text_).toArray⟩)]) (v := (.agg #[(.int .i64 x19.kind_), (.int .i64 x19.at_), (.string ⟨(x19.text_).toArray⟩)])) rfl (by kernel_rfl) (hs38.ownAt (k := 0) rfl) rfl rfl rfl) ?_
  refine RWP.buildSlice (dst := (some 10)) (ty := 98) (g := none) (by kernel_rfl) rfl (t := 98) (len := 1) (parts := #[(0, (.tmp 9))]) (vs := [(0, (.agg #[(.int .i64 x19.kind_), (.int .i64 x19.at_), (.string ⟨(x19.text_).toArray⟩)]))]) (rfl) (E := 97) (cs := [(.int .i64 x19.kind_), (.int .i64 x19.at_), (.string ⟨(x19.text_).toArray⟩)]) (by kernel_rfl) hs38 (fun b39 w40 (hs41 : HS w0 F0 w40 F1 ((some b39, .cells ([(.int .i64 x19.kind_), (.int .i64 x19.at_), (.string ⟨(x19.text_).toArray⟩)] : List Value).toArray 97 (0, 0)) :: (some b30, (.cells #[(.int .i64 x19.kind_), (.int .i64 x19.at_), (.string ⟨(x19.text_).toArray⟩)] 97 (0, 0))) :: es6_0 :: (some b1, (.cells #[(.slice as6_0 s6.length ns6_0)] 98 (0, 0))) :: Rf36)) => ?_)
  have hr43 : Av Ag 97 F1 (some ⟨b39, 0, none⟩) 1 [x19] (some b39, .cells ([(.int .i64 x19.kind_), (.int .i64 x19.at_), (.string ⟨(x19.text_).toArray⟩)] : List Value).toArray 97 (0, 0)) := SX ⟨rfl, rfl⟩ (by simp)
  obtain ⟨r44, hap45, h46⟩ : ∃ r44, C4 s6 [x19] = some r44 /\ some r44 = some q23 := ⟨_, h28, rfl⟩
  refine RWP.append (dst := (some 11)) (ty := 98) (g := none) (by kernel_rfl) rfl (x := (.tmp 8)) (y := (.tmp 10)) (t := 98) (t2 := 98) (by_ := 32) (z := (.agg #[(.int .i64 0), (.int .i64 0), (.string ⟨(([] : SZ)).toArray⟩)])) (a2 := (some ⟨b39, 0, none⟩)) (c2 := 1) (m := [x19]) (T := Ag) (E := 97) (a := as6_0) (cap := ns6_0) (l := s6) rfl rfl (by kernel_rfl) (by decide) (by kernel_rfl) (by kernel_rfl) rfl LN hs41 (k := 2) rfl hrs6_0 (Av.rd hs41 (k := 0) rfl hr43) (r := r44) hap45 (fun a47 n48 e49 w50 (hs51 : HS w0 F0 w50 F1 ((some b39, .cells ([(.int .i64 x19.kind_), (.int .i64 x19.at_), (.string ⟨(x19.text_).toArray⟩)] : List Value).toArray 97 (0, 0)) :: (some b30, (.cells #[(.int .i64 x19.kind_), (.int .i64 x19.at_), (.string ⟨(x19.text_).toArray⟩)] 97 (0, 0))) :: e49 :: (some b1, (.cells #[(.slice as6_0 s6.length ns6_0)] 98 (0, 0))) :: Rf36)) hr52 => ?_)
  refine SP (ty := 0) (g := none) (by kernel_rfl) rfl (x := (.tmp 2)) (y := (.tmp 11)) (t := 98) (gg := false) (s := 1) (v := (.slice a47 r44.length n48)) (b := b1) (o := 0) (C := #[(.slice as6_0 s6.length ns6_0)]) rfl rfl (by kernel_rfl) hs51 (k := 3) rfl rfl rfl rfl (C' := #[(.slice a47 r44.length n48)]) rfl (fun w53 (hs54 : HS w0 F0 w53 F1 ((some b39, .cells ([(.int .i64 x19.kind_), (.int .i64 x19.at_), (.string ⟨(x19.text_).toArray⟩)] : List Value).toArray 97 (0, 0)) :: (some b30, (.cells #[(.int .i64 x19.kind_), (.int .i64 x19.at_), (.string ⟨(x19.text_).toArray⟩)] 97 (0, 0))) :: e49 :: (some b1, (.cells #[(.slice a47 r44.length n48)] 98 (0, 0))) :: Rf36)) => ?_)
  refine SC ?_
  refine Ax ?_
  have hs56 : HS w0 F0 w53 F1 (e49 :: (some b1, (.cells #[(.slice a47 r44.length n48)] 98 (0, 0))) :: Rf36) := (hs54.drop 0).drop 0
  obtain rfl := Ab h46
  exact ⟨rfl, F1, [e49, (some b1, (.cells #[(.slice a47 r44.length n48)] 98 (0, 0)))], hs56, (SH _), ⟨a47, n48, e49, rfl, hr52⟩⟩
 ·
  rintro D58 w59 F2 _ hs60 le61 ⟨as10_0, ns10_0, es10_0, rfl, hrs10_0⟩
  have hs62 : HS w0 F0 w59 F2 [(some D58, (.deferred (some []))), es10_0, (some b1, (.cells #[(.slice as10_0 r14.length ns10_0)] 98 (0, 0)))] := hs60
  refine Ax ?_
  refine Ac ?_
  refine Sq ?_
  refine Rg [0, 1] ?_
  refine V 12 98 (B6 (t := 98) (x := (.tmp 2)) (b := b1) (o := 0) (g := false) (s := 1) (C := #[(.slice as10_0 r14.length ns10_0)]) (v := (.slice as10_0 r14.length ns10_0)) rfl (by kernel_rfl) (hs62.ownAt (k := 2) rfl) rfl rfl rfl) ?_
  refine V 4 98 (Az (x := (.tmp 12)) (v := (.slice as10_0 r14.length ns10_0)) rfl) ?_
  refine SC ?_
  refine Ac ?_
  refine CWP.ret (by kernel_rfl) ?_
  have hb66 := SW hrs10_0
  obtain ⟨F3, hs63, le64, hs65⟩ : ∃ Fq, HS w0 F0 w59 Fq [(some D58, (.deferred (some []))), (some b1, (.cells #[(.slice as10_0 r14.length ns10_0)] 98 (0, 0)))] /\ SG F2 Fq /\ SlA Ag Fq as10_0 r14 := HS.freezeRow hs62 (k := 1) rfl hrs10_0
  have hs67 := hs63.put (k := 0) rfl (.deferred none)
  have hs68 : HS w0 F0 (Cm w59 D58 (.deferred none)) F3 [(some b1, (.cells #[(.slice as10_0 r14.length ns10_0)] 98 (0, 0)))] := hs67.drop 0
  have hfin := Ab h16
  subst hfin
  exact .inr ⟨D58, rfl, hs63.ownAt (k := 0) rfl, (.slice as10_0 r14.length ns10_0), AB (l := [.tmp 4]) (by kernel_rfl) (vs := [(.slice as10_0 r14.length ns10_0)]) ⟨rfl, trivial⟩, (.slice as10_0 r14.length ns10_0), F3, rfl, hs68.clear, ⟨as10_0, ns10_0, rfl, hb66, hs65⟩⟩
theorem Ir : Aq Tryz.prog 132 := fun _ _ => by kernel_rfl
set_option maxRecDepth 100000 in
theorem I5 (w0 : World) (F0 : Mem) (hF : S1 w0 F0) (gf : FuncId) (cap : List Value) (m : ∀ {σ : Type}, (σ -> Ah -> Option (Bool × σ)) -> σ -> Option σ) (hgf : Aq Tryz.prog gf) (hseq : MV Tryz.prog gf cap F0 [] LV N4 N0 m) (r : (List Ah)) (h : Iq m = some r) :
  Calls Tryz.prog 132 ([(.func (.func gf) #[] cap.toArray)] : List Value).toArray w0 (AV w0 F0 fun F' v => ∃ (aq0_0 : S0) (nq0_0 : Nat), v = (.slice aq0_0 r.length nq0_0) /\ LC r.length nq0_0 /\ SlA Ag F' aq0_0 r) := by
 have hs0 := SI hF
 refine EB (n := 5) (c := Cb Tryz.f132) Tryz.func132 (by kernel_rfl) (by kernel_rfl) (by kernel_rfl) ?_
 refine Sq ?_
 refine Rg [0] ?_
 refine V 2 98 (Az (x := (.const (.slice none 0 0))) (v := (.slice none 0 0)) rfl) ?_
 refine SC ?_
 refine Ac ?_
 refine Sq ?_
 refine Rg [0, 1, 2] ?_
 refine V 3 162 (AL (x := (.tmp 0)) (v := (.func (.func gf) #[] cap.toArray)) rfl) ?_
 refine RWP.call (dst := (some 4)) (ty := 98) (g := none) (by kernel_rfl) rfl (f0 := (.func 179)) (aos := #[(.const (.slice none 0 0)), (.tmp 3)]) (ats := #[98, 162]) (fid := 179) (first := #[]) (cap := #[]) (args := [.slice none 0 0, (.func (.func gf) #[] cap.toArray)]) rfl GO rfl hs0 (Hs w0 F0 hs0.pers gf cap m hgf hseq r h) ?_
 intro v F1 w1 hs1 le1 hp
 obtain ⟨a, n, rfl, hb, hs⟩ := hp
 refine V 2 98 (Az (x := (.tmp 4)) (v := (.slice a r.length n)) rfl) ?_
 refine SC ?_
 refine Ac ?_
 refine CWP.ret (by kernel_rfl) ?_
 exact ⟨rfl, (.slice a r.length n), AB (l := [.tmp 2]) (by kernel_rfl) (vs := [(.slice a r.length n)]) ⟨rfl, trivial⟩, _, F1, rfl, hs1, a, n, rfl, hb, hs⟩
theorem JA : Aq Tryz.prog 133 := fun _ _ => by kernel_rfl
set_option maxRecDepth 100000 in
theorem Ky (w0 : World) (F0 : Mem) (hF : S1 w0 F0) (x0 : SZ) :
  Calls Tryz.prog 133 ([(.string ⟨(x0).toArray⟩)] : List Value).toArray w0 (AV w0 F0 fun F' v => ∃ (b1 b2 : Nat), v = .func (.func 181) #[] #[.pointer (some ⟨b1, 0, none⟩), .pointer (some ⟨b2, 0, none⟩)] /\ F' b1 = some (.cells #[(.string ⟨(x0).toArray⟩)] 9 (0, 0)) /\ F' b2 = some (.cells #[.func (.func 180) #[] #[.pointer (some ⟨b1, 0, none⟩)]] 193 (0, 0))) := by
 have hs0 := SI hF
 refine EB (n := 6) (c := Cb Tryz.f133) Tryz.func133 (by kernel_rfl) (by kernel_rfl) (by kernel_rfl) ?_
 refine Sq ?_
 refine Rg [0, 1] ?_
 refine RWP.box (dst := (some 1)) (ty := 0) (g := none) (by kernel_rfl) rfl (x := (.tmp 0)) (t := 9) (v := (.string ⟨(x0).toArray⟩)) rfl (C := #[(.string ⟨(x0).toArray⟩)]) rfl hs0 (fun b1 w1 hs1 => ?_)
 refine V 2 162 (Az (x := (.const .nilFunc)) (v := .nilFunc) rfl) ?_
 refine SC ?_
 refine Ac ?_
 refine Sq ?_
 refine Rg [0, 1, 2] ?_
 refine V 4 193 (CJ (fn := .func 180) (first := #[]) (cap := #[.tmp 1]) (fl := []) (cl := [.pointer (some ⟨b1, 0, none⟩)]) rfl rfl) ?_
 refine SO (dst := (some 3)) (ty := 0) (g := none) (by kernel_rfl) rfl (t := 193) (z := .nilFunc) (by kernel_rfl) (C := #[.nilFunc]) rfl hs1 (fun b2 w2 hs2 => ?_)
 refine SP (ty := 0) (g := none) (by kernel_rfl) rfl (x := (.tmp 3)) (y := (.tmp 4)) (t := 193) (gg := false) (s := 1) (v := .func (.func 180) #[] #[.pointer (some ⟨b1, 0, none⟩)]) (b := b2) (o := 0) (C := #[.nilFunc]) rfl rfl (by kernel_rfl) hs2 (k := 0) rfl rfl rfl rfl (C' := #[.func (.func 180) #[] #[.pointer (some ⟨b1, 0, none⟩)]]) rfl (fun w3 (hs3 : HS w0 F0 w3 F0 [(some b2, .cells #[.func (.func 180) #[] #[.pointer (some ⟨b1, 0, none⟩)]] 193 (0, 0)), (some b1, .cells #[(.string ⟨(x0).toArray⟩)] 9 (0, 0))]) => ?_)
 refine SC ?_
 refine Ac ?_
 refine Sq ?_
 refine Rg [0, 1] ?_
 refine V 5 161 (CJ (fn := .func 181) (first := #[]) (cap := #[.tmp 1, .tmp 3]) (fl := []) (cl := [.pointer (some ⟨b1, 0, none⟩), .pointer (some ⟨b2, 0, none⟩)]) rfl rfl) ?_
 refine V 2 162 (Az (x := (.tmp 5)) (v := .func (.func 181) #[] #[.pointer (some ⟨b1, 0, none⟩), .pointer (some ⟨b2, 0, none⟩)]) rfl) ?_
 refine SC ?_
 refine Ac ?_
 refine CWP.ret (by kernel_rfl) ?_
 obtain ⟨F1, hs4, le1, hF1⟩ : ∃ Fq, HS w0 F0 w3 Fq [(some b1, .cells #[(.string ⟨(x0).toArray⟩)] 9 (0, 0))] /\ SG F0 Fq /\ Fq b2 = some _ := HS.freezeC hs3 (k := 0) rfl
 obtain ⟨F2, hs5, le2, hF2⟩ : ∃ Fq, HS w0 F0 w3 Fq [] /\ SG F1 Fq /\ Fq b1 = some _ := HS.freezeC hs4 (k := 0) rfl
 exact ⟨rfl, _, AB (l := [.tmp 2]) (by kernel_rfl) (vs := [.func (.func 181) #[] #[.pointer (some ⟨b1, 0, none⟩), .pointer (some ⟨b2, 0, none⟩)]]) ⟨rfl, trivial⟩, _, F2, rfl, hs5, b1, b2, rfl, hF2, le2 _ _ hF1⟩
def C9 (N : Nat) (x0 : Int) (x1 : Int) (x2 : Int) (z0 : SZ) : Int -> Option (Bn SZ Int) := fun s24 =>
 ((bif (decide (s24 < (z0.length : Int))) then ((ET z0 s24).bind fun c64 => (bif (decide (x1 <= c64)) then ((ET z0 s24).bind fun c70 => some (decide (c70 <= x2))) else some false)) else some false).bind fun j51 => (bif j51 then some (.next (W64 (s24 + 1))) else some (.done s24)))
def B0 (N : Nat) (x0 : Int) (x1 : Int) (x2 : Int) (z0 : SZ) : Option SZ :=
 ((AX (C9 N x0 x1 x2 z0) N x0).bind fun o => o.k (fun r => some r) (fun s34 => ((FV z0 x0 s34).bind fun r79 => some r79)))
theorem It : Aq Tryz.prog 180 := fun _ _ => by kernel_rfl
theorem I7 (N : Nat) (w0 : World) (F0 : Mem) (hF : S1 w0 F0) (x0 : Int) (x1 : Int) (x2 : Int) (bz0 : Nat) (z0 : SZ) (hz0 : F0 bz0 = some (oc #[(.string ⟨(z0).toArray⟩)] 9)) (r : SZ) (h : B0 N x0 x1 x2 z0 = some r) :
  Calls Tryz.prog 180 ([(vi x0), (.int .u8 x1), (.int .u8 x2), (pt bz0 0)] : List Value).toArray w0 (AV w0 F0 fun F' v => v = (.string ⟨(r).toArray⟩)) := by
 have hs0 := SI hF
 refine Go 34 Tryz.func180 ?_
 refine Sq (Rg [0] ?_)
 refine Vs 1 ?_
 refine Nss (Rg [0, 1] ?_)
 refine Vs 2 ?_
 refine Nss ?_
 obtain ⟨o21, ho22, h23⟩ := bind_some h
 refine SN (fun f w => ∃ (s34 : Int) (F2 : Mem), o21 = .done s34 /\ HS w0 F0 w F2 [] /\ SG F0 F2 /\ FI f [] [(0, (vi x0)), (3, (pt bz0 0)), (8, (vi s34))]) ?_ ?_
 ·refine Bk ?_
  refine SF (by kernel_rfl) (fun m f w => ∃ (s24 : Int) (F1 : Mem), AX (C9 N x0 x1 x2 z0) m s24 = some o21 /\ HS w0 F0 w F1 [] /\ SG F0 F1 /\ FI f [] [(0, (vi x0)), (1, (.int .u8 x1)), (2, (.int .u8 x2)), (3, (pt bz0 0)), (8, (vi s24))]) N ⟨x0, F0, ho22, hs0, (SH _), fI⟩ ?_
  rintro m42 f w25 ⟨s24, F1, hit43, hs26, le27, ⟨_, rfl⟩⟩
  obtain ⟨m44, fl45, rfl, hb46, hnx47⟩ := Bf hit43
  refine Sq ?_
  refine Sq (Rg [0, 1, 2, 3, 4, 5, 6, 7, 8, 9, 10, 11, 12, 13, 14, 15, 16, 17] ?_)
  obtain ⟨j51, hj59, h60⟩ := bind_some hb46
  refine SM (fun f w => ∃ (F3 : Mem), HS w0 F0 w F3 [] /\ SG F1 F3 /\ FI f [] [(0, (vi x0)), (1, (.int .u8 x1)), (2, (.int .u8 x2)), (3, (pt bz0 0)), (8, (vi s24)), (27, (.bool j51))]) ?_ ?_
  ·refine Vs 1 ?_
   refine Ld (hs26.pers _ _ (le27 _ _ hz0)) ?_
   refine Vs 3 ?_
   refine Sp hj59 (fun hb61 h62 => ?_) (fun hb61 h63 => ?_)
   ·refine Vgs hb61 1 ?_
    refine Lg hb61 (hs26.pers _ _ (le27 _ _ hz0)) ?_
    refine Vgs hb61 1 ?_
    obtain ⟨c64, hr65, h66⟩ := bind_some h62
    refine Vg 18 5 4 true 14 hb61 (HG (t := 9) (x := (.tmp 16)) (y := (.tmp 17)) (a := z0) (k := .i64) (i := s24) (v := c64) rfl rfl (by kernel_rfl) hr65) ?_
    refine Vgs hb61 1 ?_
    refine Pk1 hb61 ?_
    refine Vs 1 ?_
    refine Sp h66 (fun hb67 h68 => ?_) (fun hb67 h69 => ?_)
    ·refine Lg hb67 (hs26.pers _ _ (le27 _ _ hz0)) ?_
     refine Vgs hb67 1 ?_
     obtain ⟨c70, hr71, h72⟩ := bind_some h68
     refine Vg 24 5 11 true 21 hb67 (HG (t := 9) (x := (.tmp 22)) (y := (.tmp 23)) (a := z0) (k := .i64) (i := s24) (v := c70) rfl rfl (by kernel_rfl) hr71) ?_
     refine Vgs hb67 2 ?_
     refine Pk1 hb67 ?_
     obtain rfl := Ab h72
     exact SC ⟨rfl, F1, hs26, (SH _), fI⟩
    ·refine Ss hb67 5 ?_
     refine Pk0 hb67 ?_
     obtain rfl := Ab h69
     exact SC ⟨rfl, F1, hs26, (SH _), fI⟩
   ·refine Ss hb61 5 ?_
    refine Pk0 hb61 ?_
    refine Vs 1 ?_
    refine Ss (rfl : false = false) 5 ?_
    refine Pk0 (rfl : false = false) ?_
    obtain rfl := Ab h63
    exact SC ⟨rfl, F1, hs26, (SH _), fI⟩
  ·rintro f w48 ⟨F3, hs49, le50, ⟨_, rfl⟩⟩
   refine Ac ?_
   refine Cd h60 (fun hb73 h74 => ?_) (fun hb73 h75 => ?_)
   ·refine Sc ?_
    refine Ac ?_
    refine Bk ?_
    refine Rg [0, 1, 2] ?_
    refine Vs 3 ?_
    refine SC ?_
    refine Ax ?_
    have hn76 := A8 h74 hnx47
    exact ⟨m44, Nat.lt_succ_self _, (W64 (s24 + 1)), F3, hn76, hs49, (le27.trans le50), fI⟩
   ·refine Ex ?_
    refine AF ?_
    refine AF ?_
    refine AZ rfl ?_
    have ho77 := Bm h75 hnx47
    exact .inl ⟨rfl, s24, F3, ho77, hs49, (le27.trans le50), fI⟩
 ·rintro f w35 ⟨s34, F2, rfl, hs36, le37, ⟨_, rfl⟩⟩
  have h78 := Cu h23
  refine Ac ?_
  refine Sq (Rg [0, 1, 2, 3, 4] ?_)
  refine Ld (hs36.pers _ _ (le37 _ _ hz0)) ?_
  refine Vs 2 ?_
  obtain ⟨r79, hr80, h81⟩ := bind_some h78
  refine V 33 9 (HF (t := 9) (x := (.tmp 30)) (lo := (some (.tmp 31))) (hi := (some (.tmp 32))) (a := z0) (il := x0) (ih := s34) (v := r79) rfl (by kernel_rfl) rfl rfl hr80) ?_
  refine Vs 1 ?_
  refine Nt ?_
  refine Rt ?_
  obtain rfl := Ab h81
  exact Re [(.string ⟨(r79).toArray⟩)] hs36 rfl
section
open Go.Proofs Go.RowKit Go.Sort Go.Lib
def strings_HasPrefix (_N : Nat) (s p : SZ) : Option Bool := some (Go.Lib.hasPrefix s p)
theorem Gm : Aq Tryz.prog 182 := fun _ _ => by kernel_rfl
theorem GR (N : Nat) (w0 : World) (F0 : Mem) (hF : S1 w0 F0) (x0 : SZ) (x1 : SZ) (r : Bool) (h : strings_HasPrefix N x0 x1 = some r) :
  Calls Tryz.prog 182 ([(.string ⟨(x0).toArray⟩), (.string ⟨(x1).toArray⟩)] : List Value).toArray w0 (AV w0 F0 fun _ v => v = (.bool r)) := by
 cases h
 exact AV.below hF ((Tryz.strings_HasPrefix ⟨x0.toArray⟩ ⟨x1.toArray⟩ w0).mono fun e w' ⟨he, hw⟩ => ⟨he, hw ▸ Below.refl _ _⟩) rfl
def strings_IndexByte (_N : Nat) (s : SZ) (c : Int) : Option Int := some (Go.Lib.indexByte s c.toNat.toUInt8)
theorem Gl : Aq Tryz.prog 183 := fun _ _ => by kernel_rfl
theorem GQ (N : Nat) (w0 : World) (F0 : Mem) (hF : S1 w0 F0) (x0 : SZ) (x1 : Int) (r : Int) (h : strings_IndexByte N x0 x1 = some r) :
  Calls Tryz.prog 183 ([(.string ⟨(x0).toArray⟩), (.int .u8 x1)] : List Value).toArray w0 (AV w0 F0 fun _ v => v = (.int .i64 r)) := by
 cases h
 exact AV.below hF ((Tryz.strings_IndexByte ⟨x0.toArray⟩ x1 w0).mono fun e w' ⟨he, hw⟩ => ⟨he, hw ▸ Below.refl _ _⟩) rfl
def strconv_Itoa (_N : Nat) (n : Int) : Option SZ := if -9223372036854775808 <= n /\ n <= 9223372036854775807 then some (Go.Lib.itoa n) else none
theorem Jy : Aq Tryz.prog 151 := fun _ _ => by kernel_rfl
theorem Kw (N : Nat) (w0 : World) (F0 : Mem) (hF : S1 w0 F0) (hG : CA F0) (x0 : Int) (r : SZ) (h : strconv_Itoa N x0 = some r) :
  Calls Tryz.prog 151 ([(.int .i64 x0)] : List Value).toArray w0 (AV w0 F0 fun _ v => v = (.string ⟨(r).toArray⟩)) := by
 unfold strconv_Itoa at h
 split at h
 ·rename_i ha
  cases h
  refine AV.below hF ((Tryz.strconv_Itoa x0 ha.1 ha.2 w0 (hG w0 hF).1).mono ?_) rfl
  rintro e w' ⟨rfl, k, os, rfl⟩
  exact ⟨rfl, rfl, rfl, rfl, by simp [grow, World.drewN], fun j hj => by
   show ((w0.drewN k).heap ++ os)[j]? = _
   rw [Array.getElem?_append_left (show j < (w0.drewN k).heap.size from hj)]; rfl⟩
 ·cases h
def Cj (_N : Nat) (s : SZ) : Option (Int × Bool) := if s.length <= 281474976710656 then (match Go.Lib.atoiAll s with
 | .ok v => some (v, false)
 | .range => some (Go.Lib.atoiSat s, true)
 | _ => none) else none
theorem Jz : Aq Tryz.prog 248 := fun _ _ => by kernel_rfl
theorem Kx (N : Nat) (w0 : World) (F0 : Mem) (hF : S1 w0 F0) (hG : CA F0) (x0 : SZ) (r : Int × Bool) (h : Cj N x0 = some r) :
  Calls Tryz.prog 248 ([(.string ⟨(x0).toArray⟩)] : List Value).toArray w0 (AV w0 F0 fun _ v => ∃ (vq1_0 : Value), v = (.tuple #[(.int .i64 r.1), vq1_0]) /\ Sb r.2 vq1_0) := by
 unfold Cj at h
 split at h
 ·rename_i ha
  have hsz : (⟨x0.toArray⟩ : ByteArray).size <= 281474976710656 := by simpa [ByteArray.size] using ha
  split at h
  ·rename_i v hv
   cases h
   refine AV.below hF ((Tryz.strconv_Atoi_ok ⟨x0.toArray⟩ (by omega) v (by simpa using hv) w0).mono ?_) ⟨.nilIface, rfl, rfl⟩
   rintro e w' ⟨rfl, (rfl | ⟨t, rfl⟩)⟩
   ·exact ⟨rfl, Below.refl _ _⟩
   ·exact ⟨rfl, rfl, rfl, rfl, by rw [Go.Lib.bytesWorld_size]; omega, fun j hj => Go.Lib.bytesWorld_at_old w0 _ _ j hj⟩
  ·rename_i hv
   cases h
   obtain ⟨tp, p, hvar⟩ := (hG w0 hF).2
   refine (Tryz.strconv_Atoi_range_var ⟨x0.toArray⟩ hsz (by simpa using hv) tp p w0 hvar).mono ?_
   rintro e w' ⟨n, rfl, _, _, hb⟩
   exact ⟨_, F0, rfl, HS.below hF hb, _, rfl, _, _, rfl⟩
  ·cases h
 ·cases h
end
end Go.Proofs.YtaihlcdkcampbaaGreatDoor
