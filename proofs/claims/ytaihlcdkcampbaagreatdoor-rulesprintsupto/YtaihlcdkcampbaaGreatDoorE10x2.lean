/- Lemmas of the claim RulesPrintsUpto, printed by a program of the claimant and by hand. No statement of the seat is proved here. -/
import Derived.Test.YtaihlcdkcampbaaGreatDoorE10x1
set_option linter.unusedVariables false
set_option linter.unusedSimpArgs false
set_option linter.unusedSectionVars false
set_option maxHeartbeats 4000000
set_option maxRecDepth 100000
namespace Go.Proofs.YtaihlcdkcampbaaGreatDoor
def ups (g : Fr) (d : List Deferred) : List (Nat × Value) -> Fr
 | [] => ⟨g.v, d⟩
 | (i, v) :: l => upd (ups g d l) i v
def FI (f : Fr) (d : List Deferred) (l : List (Nat × Value)) : Prop := ∃ g, f = ups g d l
theorem O8 {f : Fr} {i : Nat} {v : Value} (h : f i = v) : upd f i v = f := by
 subst h
 cases f with
 | mk fv fd =>
  simp only [upd, Fr.mk.injEq, and_true]
  funext j
  cases hb : Nat.beq j i with
  | false => rfl
  | true => rw [Nat.eq_of_beq_eq_true hb]; rfl
def Eqs (f : Fr) : List (Nat × Value) -> Prop
 | [] => True
 | (i, v) :: l => f i = v /\ Eqs f l
theorem Kl {f : Fr} {d : List Deferred} (hd : f.d = d) : ∀ {l : List (Nat × Value)}, Eqs f l -> f = ups f d l
 | [], _ => by subst hd; rfl
 | (i, v) :: l, h => by
  show f = upd (ups f d l) i v
  rw [<- Kl hd h.2]; exact (O8 h.1).symm
theorem PM {f : Fr} : ∀ {l : List (Nat × Value)}, l.map (fun p => f p.1) = l.map (·.2) -> Eqs f l
 | [], _ => trivial
 | (i, v) :: l, h => by
  simp only [List.map_cons, List.cons.injEq] at h
  exact ⟨h.1, PM h.2⟩
theorem kq {α : Type} {a : α} (b : α) {c : α} (h : b = c) (k : a = b := by kernel_rfl) : a = c := k.trans h
theorem fI {f : Fr} {d : List Deferred} {l : List (Nat × Value)} (h : l.map (fun p => f p.1) = l.map (·.2) := by kernel_rfl) (hd : f.d = d := by kernel_rfl) : FI f d l := ⟨f, Kl hd (PM h)⟩
theorem fJ {f : Fr} {d : List Deferred} {l : List (Nat × Value)} (h : Eqs f l) (hd : f.d = d := by kernel_rfl) : FI f d l := ⟨f, Kl hd h⟩
def pkC : Op -> Operand | .pick c _ _ => c | _ => .tmp 0
def pkA : Op -> Operand | .pick _ a _ => a | _ => .tmp 0
def pkB : Op -> Operand | .pick _ _ b => b | _ => .tmp 0
def OX : Op -> Bool | .pick _ _ _ => true | _ => false
theorem Hp {op : Op} (h : OX op = true) : op = .pick (pkC op) (pkA op) (pkB op) := by cases op <;> simp_all [OX, pkC, pkA, pkB]
def ldX : Op -> Operand | .load _ x => x | _ => .tmp 0
def ldT : Op -> TypeId | .load t _ => t | _ => 0
def Nh : Op -> Bool | .load _ _ => true | _ => false
theorem EE {op : Op} (h : Nh op = true) : op = .load (ldT op) (ldX op) := by cases op <;> simp_all [Nh, ldX, ldT]
def pO : Value -> Nat | .pointer (some ⟨_, o, _⟩) => o | _ => 0
def sB : Value -> Nat | .slice (some ⟨b, _, _⟩) _ _ => b | _ => 0
def sO : Value -> Nat | .slice (some ⟨_, o, _⟩) _ _ => o | _ => 0
def sC : Value -> Nat | .slice _ _ c => c | _ => 0
def iK : Value -> IntKind | .int k _ => k | _ => .i64
def ixX : Op -> Operand | .indexAddr _ x _ => x | _ => .tmp 0
def ixY : Op -> Operand | .indexAddr _ _ y => y | _ => .tmp 0
def ixT : Op -> TypeId | .indexAddr t _ _ => t | _ => 0
def N3 : Op -> Bool | .indexAddr _ _ _ => true | _ => false
theorem FO {op : Op} (h : N3 op = true) : op = .indexAddr (ixT op) (ixX op) (ixY op) := by cases op <;> simp_all [N3, ixT, ixX, ixY]
def stX : Op -> Operand | .store _ x _ => x | _ => .tmp 0
def stY : Op -> Operand | .store _ _ y => y | _ => .tmp 0
def stT : Op -> TypeId | .store t _ _ => t | _ => 0
def Js : Op -> Bool | .store _ _ _ => true | _ => false
theorem FN {op : Op} (h : Js op = true) : op = .store (stT op) (stX op) (stY op) := by cases op <;> simp_all [Js, stT, stX, stY]
def Q7 (t : TypeId) : Op -> Bool | .alloc t' => Nat.beq t t' | _ => false
theorem OZ {t : TypeId} {op : Op} (h : Q7 t op = true) : op = .alloc t := by
 cases op <;> simp only [Q7, Bool.false_eq_true] at h
 rw [Nat.eq_of_beq_eq_true h]
def bxX : Op -> Operand | .box _ x => x | _ => .tmp 0
def Q6 (t : TypeId) : Op -> Bool | .box t' _ => Nat.beq t t' | _ => false
theorem OY {t : TypeId} {op : Op} (h : Q6 t op = true) : op = .box t (bxX op) := by
 cases op <;> simp only [Q6, Bool.false_eq_true] at h
 rw [Nat.eq_of_beq_eq_true h]; rfl
def bsV (P : Program) (f : Fr) : Op -> Option (TypeId × List Value) | .buildSlice t len parts => I8 P t len (parts.toList.map fun p => (p.1, fev f p.2)) | _ => none
def bsL : Op -> Nat | .buildSlice _ len _ => len | _ => 0
def clV (f : Fr) : Op -> Option (FuncId × List Value)
 | .call c => (match c.callee with
  | .value f0 => (match fev f f0 with
   | .func (.func g) fi ca => some (g, fi.toList ++ c.args.toList.map (fev f) ++ ca.toList)
   | _ => none)
  | _ => none)
 | _ => none
theorem G6 {P : Program} {w : World} {f : Fr} {op : Op} {ty : TypeId} {g : FuncId} {args : List Value} (h : clV f op = some (g, args)) (hok : Al P g) : (Ak (fev f) op ty).run P w = .ok (.enter g args.toArray) w := by
 unfold clV at h
 split at h
 ·rename_i c
  obtain ⟨callee, aos, ats⟩ := c
  simp only at h
  split at h
  ·split at h
   ·rename_i hf
    simp only [Option.some.injEq, Prod.mk.injEq] at h
    obtain ⟨rfl, rfl⟩ := h
    exact CW hf hok rfl
   ·cases h
  ·cases h
 ·cases h
section
variable {P : Program} {ro : Option Nat} {n : Nat} {R : Array Oper} {Q : Exit -> Fr -> World -> Prop} {i : Nat} {rest : List Nat} {f : Fr} {w w' w0 : World} {F0 F : Mem} {L : List (Option Nat × Obj)}
theorem RWP.valU {v : Value} (ho : ung R i = true) (hy : (Ak (fev f) (An R i) (FT R i)).run P w = .ok (.value v) w') (k : RWP P ro n R Q rest (A1 f (Bf R i) v) w') : RWP P ro n R Q (i :: rest) f w := Se (Bm ho) rfl hy k
theorem Pk1 {t : Bool} (ht : t = true) (k : RWP P ro n R Q rest (A1 f (Bf R i) (fev f (pkA (An R i)))) w) (hc : fev f (pkC (An R i)) = .bool t := by kernel_rfl) (ho : (ung R i && OX (An R i)) = true := by kernel_rfl) : RWP P ro n R Q (i :: rest) f w := by
 simp only [Bool.and_eq_true] at ho
 refine RWP.valU ho.1 ?_ k
 have := Hp ho.2
 rw [this] at hc ⊢; exact Je hc ht rfl
theorem Pk0 {t : Bool} (ht : t = false) (k : RWP P ro n R Q rest (A1 f (Bf R i) (fev f (pkB (An R i)))) w) (hc : fev f (pkC (An R i)) = .bool t := by kernel_rfl) (ho : (ung R i && OX (An R i)) = true := by kernel_rfl) : RWP P ro n R Q (i :: rest) f w := by
 simp only [Bool.and_eq_true] at ho
 refine RWP.valU ho.1 ?_ k
 have := Hp ho.2
 rw [this] at hc ⊢; exact Jf hc ht rfl
def ldV (P : Program) (t : TypeId) (C : Array Value) (o : Nat) : Value := match DF P t with | some (g, s) => mkV g (Ax C o s) | none => undef
def ldK (P : Program) (t : TypeId) (C : Array Value) (o : Nat) : Bool := match DF P t with | some (g, s) => Nat.beq (Ax C o s).length s && (g || s == 1) | none => false
theorem NL {ρ : Operand -> Value} {t ty : TypeId} {x : Operand} {b o : Nat} {C : Array Value} {E : TypeId} {fz : Nat × Nat} (hx : ρ x = .pointer (some ⟨b, o, none⟩)) (hp : w.heap[b]? = some (.cells C E fz)) (hk : ldK P t C o = true) :
  (Ak ρ (.load t x) ty).run P w = .ok (.value (ldV P t C o)) w := by
 unfold ldK at hk; unfold ldV
 split at hk
 ·rename_i g s ht
  simp only [Bool.and_eq_true] at hk
  exact B1 hx ht hp (Nat.eq_of_beq_eq_true hk.1) hk.2 rfl
 ·cases hk
theorem Ld {b : Nat} {C : Array Value} {E : TypeId} {fz : Nat × Nat} (hp : w.heap[b]? = some (.cells C E fz)) (k : RWP P ro n R Q rest (A1 f (Bf R i) (ldV P (ldT (An R i)) C (pO (fev f (ldX (An R i)))))) w)
  (hx : fev f (ldX (An R i)) = .pointer (some ⟨b, pO (fev f (ldX (An R i))), none⟩) := by kernel_rfl) (ho : (ung R i && (Nh (An R i) && ldK P (ldT (An R i)) C (pO (fev f (ldX (An R i)))))) = true := by kernel_rfl) : RWP P ro n R Q (i :: rest) f w := by
 simp only [Bool.and_eq_true] at ho
 refine RWP.valU ho.1 ?_ k
 have := EE ho.2.1
 rw [this]; exact NL hx hp ho.2.2
def lxV (P : Program) (t : TypeId) (cs : List Value) (j : Nat) : Value := match DF P t with | some (g, s) => mkV g ((cs.drop j).take s) | none => undef
def lxK (P : Program) (t : TypeId) (cs : List Value) (j kk : Nat) : Bool := match DF P t with | some (g, s) => decide (j + s <= kk) && (Nat.beq ((cs.drop j).take s).length s && (g || s == 1)) | none => false
theorem NI {ρ : Operand -> Value} {t ty : TypeId} {x : Operand} {j b o kk : Nat} {C : Array Value} {E : TypeId} {fz : Nat × Nat} {cs : List Value} (hx : ρ x = .pointer (some ⟨b, o + j, none⟩)) (hp : w.heap[b]? = some (.cells C E fz)) (hc : Ax C o kk = cs) (hk : lxK P t cs j kk = true) :
  (Ak ρ (.load t x) ty).run P w = .ok (.value (lxV P t cs j)) w := by
 unfold lxK at hk; unfold lxV
 split at hk
 ·rename_i g s ht
  simp only [Bool.and_eq_true] at hk
  exact Hj hx ht hp hc hk.1 ⟨Nat.eq_of_beq_eq_true hk.2.1, trivial⟩ hk.2.2 rfl
 ·cases hk
theorem Lx (j : Nat) {b o kk : Nat} {C : Array Value} {E : TypeId} {fz : Nat × Nat} {cs : List Value} (hp : w.heap[b]? = some (.cells C E fz)) (hc : Ax C o kk = cs) (k : RWP P ro n R Q rest (A1 f (Bf R i) (lxV P (ldT (An R i)) cs j)) w)
  (hx : fev f (ldX (An R i)) = .pointer (some ⟨b, o + j, none⟩) := by kernel_rfl) (ho : (ung R i && (Nh (An R i) && lxK P (ldT (An R i)) cs j kk)) = true := by kernel_rfl) : RWP P ro n R Q (i :: rest) f w := by
 simp only [Bool.and_eq_true] at ho
 refine RWP.valU ho.1 ?_ k
 have := EE ho.2.1
 rw [this]; exact NI hx hp hc ho.2.2
def elS (P : Program) (t : TypeId) : Nat := match A4 P t with | some (_, s, _) => s | none => 0
theorem Ix {m : Nat} {y : Int} (hi : 0 <= y /\ y < (m : Int)) (k : RWP P ro n R Q rest (A1 f (Bf R i) (.pointer (some ⟨sB (fev f (ixX (An R i))), sO (fev f (ixX (An R i))) + y.toNat * elS P (ixT (An R i)), none⟩))) w)
  (hx : fev f (ixX (An R i)) = .slice (some ⟨sB (fev f (ixX (An R i))), sO (fev f (ixX (An R i))), none⟩) m (sC (fev f (ixX (An R i)))) := by kernel_rfl) (hy : fev f (ixY (An R i)) = .int (iK (fev f (ixY (An R i)))) y := by kernel_rfl)
  (ho : (ung R i && (N3 (An R i) && slQ P (ixT (An R i)))) = true := by kernel_rfl) : RWP P ro n R Q (i :: rest) f w := by
 simp only [Bool.and_eq_true] at ho
 obtain ⟨h1, h2, h3⟩ := ho
 refine RWP.valU h1 ?_ k
 unfold slQ at h3
 split at h3
 ·rename_i q hq; obtain ⟨E, s, by_⟩ := q
  have es : elS P (ixT (An R i)) = s := by simp [elS, hq]
  rw [es]
  have e := FO h2
  have := Hk (P := P) (w := w) (ty := FT R i) hx hy hq hi
  rw [<- e] at this; exact this
 ·cases h3
theorem Ix0 {m : Nat} {y : Int} (hi : 0 <= y /\ y < (m : Int)) (k : RWP P ro n R Q rest (A1 f (Bf R i) (.pointer (some ⟨sB (fev f (ixX (An R i))), y.toNat * elS P (ixT (An R i)), none⟩))) w)
  (hx : fev f (ixX (An R i)) = .slice (some ⟨sB (fev f (ixX (An R i))), 0, none⟩) m (sC (fev f (ixX (An R i)))) := by kernel_rfl) (hy : fev f (ixY (An R i)) = .int (iK (fev f (ixY (An R i)))) y := by kernel_rfl)
  (ho : (ung R i && (N3 (An R i) && slQ P (ixT (An R i)))) = true := by kernel_rfl) : RWP P ro n R Q (i :: rest) f w := by
 simp only [Bool.and_eq_true] at ho
 obtain ⟨h1, h2, h3⟩ := ho
 refine RWP.valU h1 ?_ k
 unfold slQ at h3
 split at h3
 ·rename_i q hq; obtain ⟨E, s, by_⟩ := q
  have es : elS P (ixT (An R i)) = s := by simp [elS, hq]
  rw [es]
  have e := FO h2
  have := Kv (P := P) (w := w) (ty := FT R i) hx hy hq hi
  rw [<- e] at this; exact this
 ·cases h3
theorem Pq {ρ : Operand -> Value} {t ty : TypeId} {x y : Operand} {m : Nat} {q : Int} (hi : 0 <= q /\ q < (m : Int)) (hx : ρ x = .slice (some ⟨sB (ρ x), sO (ρ x), none⟩) m (sC (ρ x))) (hy : ρ y = .int (iK (ρ y)) q) (h3 : slQ P t = true) :
  (Ak ρ (.indexAddr t x y) ty).run P w = .ok (.value (.pointer (some ⟨sB (ρ x), sO (ρ x) + q.toNat * elS P t, none⟩))) w := by
 unfold slQ at h3
 split at h3
 ·rename_i a hq; obtain ⟨E, s, by_⟩ := a
  have es : elS P t = s := by simp [elS, hq]
  rw [es]; exact Hk hx hy hq hi
 ·cases h3
theorem Qn {t ty : TypeId} {x y : Operand} {m : Nat} {q : Int} (hi : 0 <= q /\ q < (m : Int)) (hx : fev f x = .slice (some ⟨sB (fev f x), 0, none⟩) m (sC (fev f x))) (hy : fev f y = .int (iK (fev f y)) q) (h3 : slQ P t = true) :
  (Ak (fev f) (.indexAddr t x y) ty).run P w = .ok (.value (.pointer (some ⟨sB (fev f x), q.toNat * elS P t, none⟩))) w := by
 unfold slQ at h3
 split at h3
 ·rename_i a hq; obtain ⟨E, s, by_⟩ := a
  have es : elS P t = s := by simp [elS, hq]
  rw [es]; exact Kv hx hy hq hi
 ·cases h3
theorem RWP.valG {gb' gc : Bool} (hg : gc = gb') {v : Value} (hy : (Ak (fev f) (An R i) (FT R i)).run P w = .ok (.value v) w') (k : RWP P ro n R Q rest (A1 f (Bf R i) v) w')
  (ho2 : Lm R (gj R [i]) gb' i = true) (hj : Gd R (gj R [i]) = some (gq R [i])) (hf : f (gq R [i]) = .bool gc) : RWP P ro n R Q (i :: rest) f w := by
 rcases KE ho2 with e | e
 ·exact Se e rfl hy k
 ·exact Se e (N5 hj hf hg) hy k
theorem Pg1 {gb' gc : Bool} (hg : gc = gb') {t : Bool} (ht : t = true) (k : RWP P ro n R Q rest (A1 f (Bf R i) (fev f (pkA (An R i)))) w) (hc : fev f (pkC (An R i)) = .bool t := by kernel_rfl) (ho : OX (An R i) = true := by kernel_rfl)
  (ho2 : Lm R (gj R [i]) gb' i = true := by kernel_rfl) (hj : Gd R (gj R [i]) = some (gq R [i]) := by kernel_rfl) (hf : f (gq R [i]) = .bool gc := by kernel_rfl) : RWP P ro n R Q (i :: rest) f w := by
 refine RWP.valG hg ?_ k ho2 hj hf
 have := Hp ho
 rw [this] at hc ⊢; exact Je hc ht rfl
theorem Pg0 {gb' gc : Bool} (hg : gc = gb') {t : Bool} (ht : t = false) (k : RWP P ro n R Q rest (A1 f (Bf R i) (fev f (pkB (An R i)))) w) (hc : fev f (pkC (An R i)) = .bool t := by kernel_rfl) (ho : OX (An R i) = true := by kernel_rfl)
  (ho2 : Lm R (gj R [i]) gb' i = true := by kernel_rfl) (hj : Gd R (gj R [i]) = some (gq R [i]) := by kernel_rfl) (hf : f (gq R [i]) = .bool gc := by kernel_rfl) : RWP P ro n R Q (i :: rest) f w := by
 refine RWP.valG hg ?_ k ho2 hj hf
 have := Hp ho
 rw [this] at hc ⊢; exact Jf hc ht rfl
theorem Lg {gb' gc : Bool} (hg : gc = gb') {b : Nat} {C : Array Value} {E : TypeId} {fz : Nat × Nat} (hp : w.heap[b]? = some (.cells C E fz)) (k : RWP P ro n R Q rest (A1 f (Bf R i) (ldV P (ldT (An R i)) C (pO (fev f (ldX (An R i)))))) w)
  (hx : fev f (ldX (An R i)) = .pointer (some ⟨b, pO (fev f (ldX (An R i))), none⟩) := by kernel_rfl) (ho : (Nh (An R i) && ldK P (ldT (An R i)) C (pO (fev f (ldX (An R i))))) = true := by kernel_rfl)
  (ho2 : Lm R (gj R [i]) gb' i = true := by kernel_rfl) (hj : Gd R (gj R [i]) = some (gq R [i]) := by kernel_rfl) (hf : f (gq R [i]) = .bool gc := by kernel_rfl) : RWP P ro n R Q (i :: rest) f w := by
 simp only [Bool.and_eq_true] at ho
 refine RWP.valG hg ?_ k ho2 hj hf
 have := EE ho.1
 rw [this]; exact NL hx hp ho.2
theorem Lxg {gb' gc : Bool} (hg : gc = gb') (j : Nat) {b o kk : Nat} {C : Array Value} {E : TypeId} {fz : Nat × Nat} {cs : List Value} (hp : w.heap[b]? = some (.cells C E fz)) (hcs : Ax C o kk = cs) (k : RWP P ro n R Q rest (A1 f (Bf R i) (lxV P (ldT (An R i)) cs j)) w)
  (hx : fev f (ldX (An R i)) = .pointer (some ⟨b, o + j, none⟩) := by kernel_rfl) (ho : (Nh (An R i) && lxK P (ldT (An R i)) cs j kk) = true := by kernel_rfl)
  (ho2 : Lm R (gj R [i]) gb' i = true := by kernel_rfl) (hj : Gd R (gj R [i]) = some (gq R [i]) := by kernel_rfl) (hf : f (gq R [i]) = .bool gc := by kernel_rfl) : RWP P ro n R Q (i :: rest) f w := by
 simp only [Bool.and_eq_true] at ho
 refine RWP.valG hg ?_ k ho2 hj hf
 have := EE ho.1
 rw [this]; exact NI hx hp hcs ho.2
theorem Ixg {gb' gc : Bool} (hg : gc = gb') {m : Nat} {y : Int} (hi : 0 <= y /\ y < (m : Int)) (k : RWP P ro n R Q rest (A1 f (Bf R i) (.pointer (some ⟨sB (fev f (ixX (An R i))), sO (fev f (ixX (An R i))) + y.toNat * elS P (ixT (An R i)), none⟩))) w)
  (hx : fev f (ixX (An R i)) = .slice (some ⟨sB (fev f (ixX (An R i))), sO (fev f (ixX (An R i))), none⟩) m (sC (fev f (ixX (An R i)))) := by kernel_rfl) (hy : fev f (ixY (An R i)) = .int (iK (fev f (ixY (An R i)))) y := by kernel_rfl)
  (ho : (N3 (An R i) && slQ P (ixT (An R i))) = true := by kernel_rfl)
  (ho2 : Lm R (gj R [i]) gb' i = true := by kernel_rfl) (hj : Gd R (gj R [i]) = some (gq R [i]) := by kernel_rfl) (hf : f (gq R [i]) = .bool gc := by kernel_rfl) : RWP P ro n R Q (i :: rest) f w := by
 simp only [Bool.and_eq_true] at ho
 refine RWP.valG hg ?_ k ho2 hj hf
 have e := FO ho.1
 have := Pq (P := P) (w := w) (ty := FT R i) hi hx hy ho.2
 rw [<- e] at this; exact this
theorem Al' (t : TypeId) (C : Array Value) (hs : HS w0 F0 w F L) (k : ∀ b w', HS w0 F0 w' F ((some b, .cells C t (0, 0)) :: L) -> RWP P ro n R Q rest (A1 f (Bf R i) (.pointer (some ⟨b, 0, none⟩))) w')
  (hC : (Bv P t).map Value.cells = some C := by kernel_rfl) (ho : (ung R i && Q7 t (An R i)) = true := by kernel_rfl) : RWP P ro n R Q (i :: rest) f w := by
 simp only [Bool.and_eq_true] at ho
 cases hz : Bv P t with
 | none => rw [hz] at hC; cases hC
 | some z =>
  rw [hz] at hC; simp only [Option.map_some, Option.some.injEq] at hC
  have e := OZ ho.2
  have := Bm ho.1
  rw [e] at this
  exact Sr this rfl hz hC hs k
theorem Bx' (t : TypeId) (C : Array Value) (hs : HS w0 F0 w F L) (k : ∀ b w', HS w0 F0 w' F ((some b, .cells C t (0, 0)) :: L) -> RWP P ro n R Q rest (A1 f (Bf R i) (.pointer (some ⟨b, 0, none⟩))) w')
  (hC : (fev f (bxX (An R i))).cells = C := by kernel_rfl) (ho : (ung R i && Q6 t (An R i)) = true := by kernel_rfl) : RWP P ro n R Q (i :: rest) f w := by
 simp only [Bool.and_eq_true] at ho
 have e := OY ho.2
 have := Bm ho.1
 rw [e] at this
 exact RWP.box this rfl rfl hC hs k
theorem Bs (E : TypeId) (cs : List Value) (hs : HS w0 F0 w F L) (k : ∀ b w', HS w0 F0 w' F ((some b, .cells cs.toArray E (0, 0)) :: L) -> RWP P ro n R Q rest (A1 f (Bf R i) (.slice (some ⟨b, 0, none⟩) (bsL (An R i)) (bsL (An R i)))) w')
  (hb : bsV P f (An R i) = some (E, cs) := by kernel_rfl) (ho : ung R i = true := by kernel_rfl) : RWP P ro n R Q (i :: rest) f w := by
 have := Bm ho
 cases e : An R i with
 | buildSlice t len parts =>
  rw [e] at hb this k
  exact RWP.buildSlice this rfl rfl hb hs k
 | _ => rw [e] at hb; simp [bsV] at hb
def DG (P : Program) (t : TypeId) (v : Value) (o : Nat) (C : Array Value) : Bool := match DF P t with | some (_, s) => Nat.beq v.cells.size s && (decide (o + s <= C.size) && v.cells.toList.all (·.oneCell')) | none => false
theorem Kq {ρ : Operand -> Value} {t ty : TypeId} {x y : Operand} {b o : Nat} {C C' : Array Value} {E : TypeId} (hx : ρ x = .pointer (some ⟨b, o, none⟩)) (hp : w.heap[b]? = some (.cells C E (0, 0))) (hk : DG P t (ρ y) o C = true) (hC : Dc C o (ρ y).cells.toList = C') :
  (Ak ρ (.store t x y) ty).run P w = .ok .skip (Ch w b (.cells C' E (0, 0))) := by
 unfold DG at hk
 split at hk
 ·rename_i g s ht
  simp only [Bool.and_eq_true] at hk
  exact FV hx rfl ht hp (Nat.eq_of_beq_eq_true hk.1) hk.2.1 hk.2.2 hC
 ·cases hk
theorem JJ {b : Nat} {C C' : Array Value} {E : TypeId} (hp : w.heap[b]? = some (.cells C E (0, 0))) (k : RWP P ro n R Q rest f (Ch w b (.cells C' E (0, 0))))
  (hx : fev f (stX (An R i)) = .pointer (some ⟨b, pO (fev f (stX (An R i))), none⟩)) (hC : Dc C (pO (fev f (stX (An R i)))) (fev f (stY (An R i))).cells.toList = C')
  (ho : (ung R i && (Js (An R i) && (DG P (stT (An R i)) (fev f (stY (An R i))) (pO (fev f (stX (An R i)))) C && (match Bf R i with | none => true | some _ => false)))) = true) : RWP P ro n R Q (i :: rest) f w := by
 simp only [Bool.and_eq_true] at ho
 obtain ⟨h1, h2, h3, h4⟩ := ho
 have e := FN h2
 have := Bm h1
 cases hd : Bf R i with
 | some d => rw [hd] at h4; cases h4
 | none =>
  rw [hd] at this
  refine RWP.unit this rfl ?_ k
  rw [e]; exact Kq hx hp h3 hC
theorem Cl' {fid : FuncId} {args : List Value} {post : Mem -> Value -> Prop} (hok : Al P fid) (hs : HS w0 F0 w F L) (hc : Calls P fid args.toArray w (AJ w F post))
  (k : ∀ v F1 w1, HS w0 F0 w1 F1 L -> Sh F F1 -> post F1 v -> RWP P ro n R Q rest (A1 f (Bf R i) v) w1) (ha : clV f (An R i) = some (fid, args) := by kernel_rfl) (ho : ung R i = true := by kernel_rfl) : RWP P ro n R Q (i :: rest) f w := by
 refine Sf (Bm ho) rfl (G6 ha hok) hc ?_
 rintro e w' ⟨r, F', rfl, h1, h2⟩
 exact k r F' w' (hs.call h1) h1.le h2
theorem Cg {fid : FuncId} {args : List Value} {post : Mem -> Value -> Prop} {b c : Bool} (hg : c = b) (hok : Al P fid) (hs : HS w0 F0 w F L) (hc : Calls P fid args.toArray w (AJ w F post))
  (k : ∀ v F1 w1, HS w0 F0 w1 F1 L -> Sh F F1 -> post F1 v -> RWP P ro n R Q rest (A1 f (Bf R i) v) w1) (ha : clV f (An R i) = some (fid, args) := by kernel_rfl)
  (ho : Lm R (gj R [i]) b i = true := by kernel_rfl) (hj : Gd R (gj R [i]) = some (gq R [i]) := by kernel_rfl) (hf : f (gq R [i]) = .bool c := by kernel_rfl) : RWP P ro n R Q (i :: rest) f w := by
 have hE : ∀ e w', AJ w F post e w' -> match e with
   | .returned v => RWP P ro n R Q rest (A1 f (Bf R i) v) w'
   | .panicked chain => Q (.panic chain) f w'
   | .outgrown => False := by
  rintro e w' ⟨r, F', rfl, h1, h2⟩
  exact k r F' w' (hs.call h1) h1.le h2
 rcases KE ho with e | e
 ·exact Sf e rfl (G6 ha hok) hc hE
 ·exact Sf e (N5 hj hf hg) (G6 ha hok) hc hE
theorem CB {fid : FuncId} {args : List Value} {wb : World} {Fb : Mem} {post : Mem -> Value -> Own -> Prop} (hok : Al P fid) (hc : Calls P fid args.toArray w (Ll wb Fb F post))
  (k : ∀ v F1 w1 L', HS wb Fb w1 F1 L' -> Sh F F1 -> post F1 v L' -> RWP P ro n R Q rest (A1 f (Bf R i) v) w1) (ha : clV f (An R i) = some (fid, args) := by kernel_rfl) (ho : ung R i = true := by kernel_rfl) : RWP P ro n R Q (i :: rest) f w := by
 refine Sf (Bm ho) rfl (G6 ha hok) hc ?_
 rintro e w' ⟨F', r, L', rfl, h1, h2, h3⟩
 exact k r F' w' L' h1 h2 h3
theorem CP {fid : FuncId} {args : List Value} {wb : World} {Fb : Mem} {α β : Type} {Lf : Own} {res : β ⊕ α} {bv : β -> Value} {post : α -> Mem -> Value -> Own -> Prop} (hok : Al P fid) (hc : Calls P fid args.toArray w (BB wb Fb F Lf res bv post))
  (k : ∀ r v F1 w1 L', res = .inr r -> HS wb Fb w1 F1 L' -> Sh F F1 -> post r F1 v L' -> RWP P ro n R Q rest (A1 f (Bf R i) v) w1)
  (kp : ∀ b F1 w1, res = .inl b -> HS wb Fb w1 F1 Lf -> Sh F F1 -> Q (.panic [{ v := bv b, recovered := false }]) f w1) (ha : clV f (An R i) = some (fid, args) := by kernel_rfl) (ho : ung R i = true := by kernel_rfl) : RWP P ro n R Q (i :: rest) f w := by
 refine Sf (Bm ho) rfl (G6 ha hok) hc ?_
 rintro e w' (⟨r, F', v, L', h0, rfl, h1, h2, h3⟩ | ⟨b, F', h0, rfl, h1, h2⟩)
 ·exact k r v F' w' L' h0 h1 h2 h3
 ·exact kp b F' w' h0 h1 h2
def clQ (f : Fr) : Op -> Option (FuncId × List Value)
 | .call c => (match c.callee with
  | .value f0 => (match fev f f0 with
   | .func (.func g) fi ca => some (g, fi.toList ++ (c.args.toList.map (fev f) ++ ca.toList))
   | _ => none)
  | _ => none)
 | _ => none
theorem PV (f : Fr) (op : Op) : clQ f op = clV f op := by
 unfold clQ clV
 split <;> try rfl
 split <;> try rfl
 split <;> try rfl
 simp [List.append_assoc]
theorem Cq {fid : FuncId} {args : List Value} {post : Mem -> Value -> Prop} (hok : Al P fid) (hs : HS w0 F0 w F L) (hc : Calls P fid args.toArray w (AJ w F post))
  (k : ∀ v F1 w1, HS w0 F0 w1 F1 L -> Sh F F1 -> post F1 v -> RWP P ro n R Q rest (A1 f (Bf R i) v) w1) (ha : clQ f (An R i) = some (fid, args) := by kernel_rfl) (ho : ung R i = true := by kernel_rfl) : RWP P ro n R Q (i :: rest) f w := Cl' hok hs hc k (PV f _ ▸ ha) ho
theorem CPq {fid : FuncId} {args : List Value} {wb : World} {Fb : Mem} {α β : Type} {Lf : Own} {res : β ⊕ α} {bv : β -> Value} {post : α -> Mem -> Value -> Own -> Prop} (hok : Al P fid) (hc : Calls P fid args.toArray w (BB wb Fb F Lf res bv post))
  (k : ∀ r v F1 w1 L', res = .inr r -> HS wb Fb w1 F1 L' -> Sh F F1 -> post r F1 v L' -> RWP P ro n R Q rest (A1 f (Bf R i) v) w1)
  (kp : ∀ b F1 w1, res = .inl b -> HS wb Fb w1 F1 Lf -> Sh F F1 -> Q (.panic [{ v := bv b, recovered := false }]) f w1) (ha : clQ f (An R i) = some (fid, args) := by kernel_rfl) (ho : ung R i = true := by kernel_rfl) : RWP P ro n R Q (i :: rest) f w := CP hok hc k kp (PV f _ ▸ ha) ho
theorem Go (m : Nat) {fid : FuncId} {fn : Func} {args : List Value} {S : Ending -> World -> Prop} (hf : P.funcs[fid]? = some fn) (h : CWP P none m (B8 fn) (Ru P fn.results S) (f0 args) w)
  (hk : (Nat.beq fn.ntmps m && (decide (args.length <= m) && isS fn.body)) = true := by kernel_rfl) : Calls P fid args.toArray w S := by
 simp only [Bool.and_eq_true] at hk
 have h1 := GK (d := .skip) hk.2.2
 exact ET hf h1 (Nat.eq_of_beq_eq_true hk.1) hk.2.1 h
variable {c : Code} {Q' : Exit -> Fr -> World -> Prop}
theorem Cd {α : Type} {t : Bool} {x y r : α} (h : (bif t then x else y) = r) (ht : t = true -> x = r -> CWP P ro n (PS c) Q f w) (hf : t = false -> y = r -> CWP P ro n (PW c) Q f w) (hc : fev f (N8 c) = .bool t := by kernel_rfl) (hk : kin c = 4 := by kernel_rfl) : CWP P ro n c Q f w :=
 CWP.cond hk hc (fun e => ht e (PT h e)) (fun e => hf e (PU h e))
theorem Cp (t : Bool) (ht : t = true -> CWP P ro n (PS c) Q f w) (hf : t = false -> CWP P ro n (PW c) Q f w) (hc : fev f (N8 c) = .bool t := by kernel_rfl) (hk : kin c = 4 := by kernel_rfl) : CWP P ro n c Q f w := CWP.cond hk hc ht hf
theorem C1 {t : Bool} (e : t = true) (h : CWP P ro n (PS c) Q f w) (hc : fev f (N8 c) = .bool t := by kernel_rfl) (hk : kin c = 4 := by kernel_rfl) : CWP P ro n c Q f w := CWP.cond1 hk hc e h
theorem C0 {t : Bool} (e : t = false) (h : CWP P ro n (PW c) Q f w) (hc : fev f (N8 c) = .bool t := by kernel_rfl) (hk : kin c = 4 := by kernel_rfl) : CWP P ro n c Q f w := CWP.cond0 hk hc e h
theorem Sp {α : Type} {t : Bool} {x y r : α} (h : (bif t then x else y) = r) {l : List Nat} (ht : t = true -> x = r -> RWP P ro n R Q l f w) (hf : t = false -> y = r -> RWP P ro n R Q l f w) : RWP P ro n R Q l f w :=
 Sm t (fun e => ht e (PT h e)) (fun e => hf e (PU h e))
theorem Rt (h : Q .ret f w) (hk : kin c = 8 := by kernel_rfl) : CWP P ro n c Q f w := CWP.ret hk h
theorem Ex (h : Q (.exit (cid c)) f w) (hk : kin c = 7 := by kernel_rfl) : CWP P ro n c Q f w := CWP.exit hk h
end
def NP (f : Fr) : List ResultVar -> Option (List Value)
 | [] => some []
 | .tmp t :: rs => (match NP f rs with | some l => some (f t :: l) | none => none)
 | _ => none
theorem Hl {P : Program} {w : World} {f : Fr} : ∀ {rs : List ResultVar} {vs : List Value}, NP f rs = some vs -> P2 P w f rs vs
 | [], _, h => by cases h; trivial
 | .tmp t :: rs, vs, h => by
  unfold NP at h
  split at h
  ·rename_i l hl; cases h; exact ⟨rfl, Hl hl⟩
  ·cases h
 | .cell _ _ :: rs, vs, h => by simp [NP] at h
theorem Re {P : Program} {rs : Array ResultVar} {w w0 : World} {F0 F : Mem} {f : Fr} {L : List (Option Nat × Obj)} {post : Mem -> Value -> Prop} (vs : List Value) (hs : HS w0 F0 w F L) (hp : post F (Fm vs)) (hr : NP f rs.toList = some vs := by kernel_rfl) (hd : f.d = [] := by kernel_rfl) :
  f.d = [] /\ ∃ v, (Cc rs f).run P w = .ok v w /\ AJ w0 F0 post (.returned v) w :=
 ⟨hd, Fm vs, AC rfl (Hl hr), Fm vs, F, rfl, hs.clear, hp⟩
theorem ReB {P : Program} {rs : Array ResultVar} {w wb : World} {Fb F0 F : Mem} {f : Fr} {L : Own} {post : Mem -> Value -> Own -> Prop} (vs : List Value) (hs : HS wb Fb w F L) (hl : Sh F0 F) (hp : post F (Fm vs) L) (hr : NP f rs.toList = some vs := by kernel_rfl) (hd : f.d = [] := by kernel_rfl) :
  f.d = [] /\ ∃ v, (Cc rs f).run P w = .ok v w /\ Ll wb Fb F0 post (.returned v) w :=
 ⟨hd, Fm vs, AC rfl (Hl hr), F, Fm vs, L, rfl, hs, hl, hp⟩
theorem ReP {P : Program} {rs : Array ResultVar} {w wb : World} {Fb F0 F : Mem} {f : Fr} {L Lf : Own} {α β : Type} {a : α} {bv : β -> Value} {post : α -> Mem -> Value -> Own -> Prop} (vs : List Value) (hs : HS wb Fb w F L) (hl : Sh F0 F) (hp : post a F (Fm vs) L) (hr : NP f rs.toList = some vs := by kernel_rfl) (hd : f.d = [] := by kernel_rfl) :
  f.d = [] /\ ∃ v, (Cc rs f).run P w = .ok v w /\ BB wb Fb F0 Lf (.inr a) bv post (.returned v) w :=
 ⟨hd, Fm vs, AC rfl (Hl hr), .inl ⟨a, F, Fm vs, L, rfl, rfl, hs, hl, hp⟩⟩
theorem Cj {w wb : World} {Fb F0 F : Mem} {f : Fr} {Lf : Own} {α β : Type} {b : β} {bv : β -> Value} {post : α -> Mem -> Value -> Own -> Prop} (hs : HS wb Fb w F Lf) (hl : Sh F0 F) (hd : f.d = [] := by kernel_rfl) :
  f.d = [] /\ BB wb Fb F0 Lf (.inl b) bv post (.panicked [{ v := bv b, recovered := false }]) w := ⟨hd, .inr ⟨b, F, rfl, rfl, hs, hl⟩⟩
section
variable {w0 w : World} {F0 F : Mem} {L : List (Option Nat × Obj)} {e : Option Nat × Obj}
theorem HS.dr0 (h : HS w0 F0 w F (e :: L)) : HS w0 F0 w F (L) := h.drop 0
theorem HS.at0 {b : Nat} {o : Obj} (h : HS w0 F0 w F ((some b, o) :: L)) : w.heap[b]? = some o := h.ownAt (k := 0) rfl
theorem HS.fc0 {b : Nat} {o : Obj} (h : HS w0 F0 w F ((some b, o) :: L)) : ∃ F1, HS w0 F0 w F1 (L) /\ Sh F F1 /\ F1 b = some o := h.freezeC (k := 0) rfl
theorem HS.fr0 {α : Type} {T : Ty α} {E : TypeId} {a : SG} {cap : Nat} {l : List α} (h : HS w0 F0 w F (e :: L)) (hr : Aw T E F a cap l e) : ∃ F1, HS w0 F0 w F1 (L) /\ Sh F F1 /\ SlA T F1 a l := h.freezeRow (k := 0) rfl hr
theorem HS.rd0 {α : Type} {T : Ty α} {E : TypeId} {a : SG} {cap : Nat} {l : List α} (h : HS w0 F0 w F (e :: L)) (hr : Aw T E F a cap l e) : Rd T F w a l := Aw.rd h (k := 0) rfl hr
theorem HS.dr1 {e0 : Option Nat × Obj} (h : HS w0 F0 w F (e0 :: e :: L)) : HS w0 F0 w F (e0 :: L) := h.drop 1
theorem HS.pk1 {e0 : Option Nat × Obj} (h : HS w0 F0 w F (e0 :: e :: L)) : HS w0 F0 w F (e :: e0 :: L) := h.pick (k := 1) rfl
theorem HS.at1 {e0 : Option Nat × Obj} {b : Nat} {o : Obj} (h : HS w0 F0 w F (e0 :: (some b, o) :: L)) : w.heap[b]? = some o := h.ownAt (k := 1) rfl
theorem HS.fc1 {e0 : Option Nat × Obj} {b : Nat} {o : Obj} (h : HS w0 F0 w F (e0 :: (some b, o) :: L)) : ∃ F1, HS w0 F0 w F1 (e0 :: L) /\ Sh F F1 /\ F1 b = some o := h.freezeC (k := 1) rfl
theorem HS.dr2 {e0 e1 : Option Nat × Obj} (h : HS w0 F0 w F (e0 :: e1 :: e :: L)) : HS w0 F0 w F (e0 :: e1 :: L) := h.drop 2
theorem HS.pk2 {e0 e1 : Option Nat × Obj} (h : HS w0 F0 w F (e0 :: e1 :: e :: L)) : HS w0 F0 w F (e :: e0 :: e1 :: L) := h.pick (k := 2) rfl
theorem HS.at2 {e0 e1 : Option Nat × Obj} {b : Nat} {o : Obj} (h : HS w0 F0 w F (e0 :: e1 :: (some b, o) :: L)) : w.heap[b]? = some o := h.ownAt (k := 2) rfl
theorem HS.dr3 {e0 e1 e2 : Option Nat × Obj} (h : HS w0 F0 w F (e0 :: e1 :: e2 :: e :: L)) : HS w0 F0 w F (e0 :: e1 :: e2 :: L) := h.drop 3
theorem HS.pk3 {e0 e1 e2 : Option Nat × Obj} (h : HS w0 F0 w F (e0 :: e1 :: e2 :: e :: L)) : HS w0 F0 w F (e :: e0 :: e1 :: e2 :: L) := h.pick (k := 3) rfl
theorem HS.at3 {e0 e1 e2 : Option Nat × Obj} {b : Nat} {o : Obj} (h : HS w0 F0 w F (e0 :: e1 :: e2 :: (some b, o) :: L)) : w.heap[b]? = some o := h.ownAt (k := 3) rfl
theorem HS.pk4 {e0 e1 e2 e3 : Option Nat × Obj} (h : HS w0 F0 w F (e0 :: e1 :: e2 :: e3 :: e :: L)) : HS w0 F0 w F (e :: e0 :: e1 :: e2 :: e3 :: L) := h.pick (k := 4) rfl
theorem HS.at4 {e0 e1 e2 e3 : Option Nat × Obj} {b : Nat} {o : Obj} (h : HS w0 F0 w F (e0 :: e1 :: e2 :: e3 :: (some b, o) :: L)) : w.heap[b]? = some o := h.ownAt (k := 4) rfl
theorem HS.pk5 {e0 e1 e2 e3 e4 : Option Nat × Obj} (h : HS w0 F0 w F (e0 :: e1 :: e2 :: e3 :: e4 :: e :: L)) : HS w0 F0 w F (e :: e0 :: e1 :: e2 :: e3 :: e4 :: L) := h.pick (k := 5) rfl
theorem HS.at5 {e0 e1 e2 e3 e4 : Option Nat × Obj} {b : Nat} {o : Obj} (h : HS w0 F0 w F (e0 :: e1 :: e2 :: e3 :: e4 :: (some b, o) :: L)) : w.heap[b]? = some o := h.ownAt (k := 5) rfl
theorem HS.pk6 {e0 e1 e2 e3 e4 e5 : Option Nat × Obj} (h : HS w0 F0 w F (e0 :: e1 :: e2 :: e3 :: e4 :: e5 :: e :: L)) : HS w0 F0 w F (e :: e0 :: e1 :: e2 :: e3 :: e4 :: e5 :: L) := h.pick (k := 6) rfl
theorem HS.pk7 {e0 e1 e2 e3 e4 e5 e6 : Option Nat × Obj} (h : HS w0 F0 w F (e0 :: e1 :: e2 :: e3 :: e4 :: e5 :: e6 :: e :: L)) : HS w0 F0 w F (e :: e0 :: e1 :: e2 :: e3 :: e4 :: e5 :: e6 :: L) := h.pick (k := 7) rfl
variable {P : Program} {ro : Option Nat} {n : Nat} {R : Array Oper} {Q : Exit -> Fr -> World -> Prop} {i : Nat} {rest : List Nat} {f : Fr} {α : Type} {T : Ty α} {E : TypeId} {a : SG} {cap : Nat} {l m : List α}
def apX : Op -> Operand | .call c => c.args[0]?.getD (.tmp 0) | _ => .tmp 0
def apY : Op -> Operand | .call c => c.args[1]?.getD (.tmp 0) | _ => .tmp 0
def apK (P : Program) (E : TypeId) (sz : Nat) : Op -> Bool
 | .call c => (match c.callee with
  | .builtin .append => (match c.args.toList, c.argTypes.toList with
   | [_, _], [t, t2] => (match A4 P t, Bv P E with
    | some (E', s, by_), some z => Nat.beq E E' && (Nat.beq s sz && (decide (by_ <= 1024) && (Ng P t2 && Nat.beq z.cells.size sz)))
    | _, _ => false)
   | _, _ => false)
  | _ => false)
 | _ => false
theorem I9 {op : Op} {sz : Nat} (h : apK P E sz op = true) : ∃ t t2 by_ z, op = .call { callee := .builtin .append, args := #[apX op, apY op], argTypes := #[t, t2] } /\ A4 P t = some (E, sz, by_) /\ decide (by_ <= 1024) = true /\ Ng P t2 = true /\ Bv P E = some z /\ z.cells.size = sz := by
 unfold apK at h
 split at h
 ·rename_i c
  obtain ⟨callee, aos, ats⟩ := c
  simp only at h
  split at h
  ·split at h
   ·rename_i x y t t2 h1 h2
    split at h
    ·rename_i E' s by_ z he hz
     simp only [Bool.and_eq_true] at h
     obtain ⟨e1, e2, e3, e4, e5⟩ := h
     have e1 := Nat.eq_of_beq_eq_true e1
     have e2 := Nat.eq_of_beq_eq_true e2
     subst e1; subst e2
     have ha : aos = #[x, y] := by cases aos; simpa using h1
     have hb : ats = #[t, t2] := by cases ats; simpa using h2
     subst ha; subst hb
     exact ⟨t, t2, by_, z, rfl, he, e3, e4, hz, Nat.eq_of_beq_eq_true e5⟩
    ·cases h
   ·cases h
  ·cases h
 ·cases h
theorem St0 {b : Nat} {C : Array Value} {E : TypeId} (C' : Array Value) (hs : HS w0 F0 w F ((some b, .cells C E (0, 0)) :: L)) (k : ∀ w', HS w0 F0 w' F ((some b, .cells C' E (0, 0)) :: L) -> RWP P ro n R Q rest f w')
  (hx : fev f (stX (An R i)) = .pointer (some ⟨b, pO (fev f (stX (An R i))), none⟩) := by kernel_rfl) (hC : Dc C (pO (fev f (stX (An R i)))) (fev f (stY (An R i))).cells.toList = C' := by kernel_rfl)
  (ho : (ung R i && (Js (An R i) && (DG P (stT (An R i)) (fev f (stY (An R i))) (pO (fev f (stX (An R i)))) C && (match Bf R i with | none => true | some _ => false)))) = true := by kernel_rfl) : RWP P ro n R Q (i :: rest) f w :=
 JJ (hs.ownAt (k := 0) rfl) (k _ (hs.put (k := 0) rfl _)) hx hC ho
theorem Ap0 {a2 : SG} (h1 : T.One) (hs : HS w0 F0 w F (e :: L)) (hr : Aw T E F a cap l e) (hm : Rd T F w a2 m) {r : List α} (hap : Gh l m = some r)
  (k : ∀ a' cap' e' w', HS w0 F0 w' F (e' :: L) -> Aw T E F a' cap' r e' -> RWP P ro n R Q rest (A1 f (Bf R i) (.slice a' r.length cap')) w')
  (hx : fev f (apX (An R i)) = .slice a l.length cap := by kernel_rfl) (hy : fev f (apY (An R i)) = .slice a2 m.length (sC (fev f (apY (An R i)))) := by kernel_rfl) (ho : (ung R i && apK P E T.sz (An R i)) = true := by kernel_rfl) : RWP P ro n R Q (i :: rest) f w := by
 simp only [Bool.and_eq_true] at ho
 obtain ⟨t, t2, by_, z, e1, he, hb, hni, hz, hzs⟩ := I9 ho.2
 have := Bm ho.1
 rw [e1] at this
 exact RWP.append this rfl hx hy he hb hni hz hzs h1 hs (k := 0) rfl hr hm hap k
theorem St1 {e0 : Option Nat × Obj} {b : Nat} {C : Array Value} {E : TypeId} (C' : Array Value) (hs : HS w0 F0 w F (e0 :: (some b, .cells C E (0, 0)) :: L)) (k : ∀ w', HS w0 F0 w' F (e0 :: (some b, .cells C' E (0, 0)) :: L) -> RWP P ro n R Q rest f w')
  (hx : fev f (stX (An R i)) = .pointer (some ⟨b, pO (fev f (stX (An R i))), none⟩) := by kernel_rfl) (hC : Dc C (pO (fev f (stX (An R i)))) (fev f (stY (An R i))).cells.toList = C' := by kernel_rfl)
  (ho : (ung R i && (Js (An R i) && (DG P (stT (An R i)) (fev f (stY (An R i))) (pO (fev f (stX (An R i)))) C && (match Bf R i with | none => true | some _ => false)))) = true := by kernel_rfl) : RWP P ro n R Q (i :: rest) f w :=
 JJ (hs.ownAt (k := 1) rfl) (k _ (hs.put (k := 1) rfl _)) hx hC ho
theorem St2 {e0 e1 : Option Nat × Obj} {b : Nat} {C : Array Value} {E : TypeId} (C' : Array Value) (hs : HS w0 F0 w F (e0 :: e1 :: (some b, .cells C E (0, 0)) :: L)) (k : ∀ w', HS w0 F0 w' F (e0 :: e1 :: (some b, .cells C' E (0, 0)) :: L) -> RWP P ro n R Q rest f w')
  (hx : fev f (stX (An R i)) = .pointer (some ⟨b, pO (fev f (stX (An R i))), none⟩) := by kernel_rfl) (hC : Dc C (pO (fev f (stX (An R i)))) (fev f (stY (An R i))).cells.toList = C' := by kernel_rfl)
  (ho : (ung R i && (Js (An R i) && (DG P (stT (An R i)) (fev f (stY (An R i))) (pO (fev f (stX (An R i)))) C && (match Bf R i with | none => true | some _ => false)))) = true := by kernel_rfl) : RWP P ro n R Q (i :: rest) f w :=
 JJ (hs.ownAt (k := 2) rfl) (k _ (hs.put (k := 2) rfl _)) hx hC ho
theorem St3 {e0 e1 e2 : Option Nat × Obj} {b : Nat} {C : Array Value} {E : TypeId} (C' : Array Value) (hs : HS w0 F0 w F (e0 :: e1 :: e2 :: (some b, .cells C E (0, 0)) :: L)) (k : ∀ w', HS w0 F0 w' F (e0 :: e1 :: e2 :: (some b, .cells C' E (0, 0)) :: L) -> RWP P ro n R Q rest f w')
  (hx : fev f (stX (An R i)) = .pointer (some ⟨b, pO (fev f (stX (An R i))), none⟩) := by kernel_rfl) (hC : Dc C (pO (fev f (stX (An R i)))) (fev f (stY (An R i))).cells.toList = C' := by kernel_rfl)
  (ho : (ung R i && (Js (An R i) && (DG P (stT (An R i)) (fev f (stY (An R i))) (pO (fev f (stX (An R i)))) C && (match Bf R i with | none => true | some _ => false)))) = true := by kernel_rfl) : RWP P ro n R Q (i :: rest) f w :=
 JJ (hs.ownAt (k := 3) rfl) (k _ (hs.put (k := 3) rfl _)) hx hC ho
theorem St4 {e0 e1 e2 e3 : Option Nat × Obj} {b : Nat} {C : Array Value} {E : TypeId} (C' : Array Value) (hs : HS w0 F0 w F (e0 :: e1 :: e2 :: e3 :: (some b, .cells C E (0, 0)) :: L)) (k : ∀ w', HS w0 F0 w' F (e0 :: e1 :: e2 :: e3 :: (some b, .cells C' E (0, 0)) :: L) -> RWP P ro n R Q rest f w')
  (hx : fev f (stX (An R i)) = .pointer (some ⟨b, pO (fev f (stX (An R i))), none⟩) := by kernel_rfl) (hC : Dc C (pO (fev f (stX (An R i)))) (fev f (stY (An R i))).cells.toList = C' := by kernel_rfl)
  (ho : (ung R i && (Js (An R i) && (DG P (stT (An R i)) (fev f (stY (An R i))) (pO (fev f (stX (An R i)))) C && (match Bf R i with | none => true | some _ => false)))) = true := by kernel_rfl) : RWP P ro n R Q (i :: rest) f w :=
 JJ (hs.ownAt (k := 4) rfl) (k _ (hs.put (k := 4) rfl _)) hx hC ho
theorem St6 {e0 e1 e2 e3 e4 e5 : Option Nat × Obj} {b : Nat} {C : Array Value} {E : TypeId} (C' : Array Value) (hs : HS w0 F0 w F (e0 :: e1 :: e2 :: e3 :: e4 :: e5 :: (some b, .cells C E (0, 0)) :: L)) (k : ∀ w', HS w0 F0 w' F (e0 :: e1 :: e2 :: e3 :: e4 :: e5 :: (some b, .cells C' E (0, 0)) :: L) -> RWP P ro n R Q rest f w')
  (hx : fev f (stX (An R i)) = .pointer (some ⟨b, pO (fev f (stX (An R i))), none⟩) := by kernel_rfl) (hC : Dc C (pO (fev f (stX (An R i)))) (fev f (stY (An R i))).cells.toList = C' := by kernel_rfl)
  (ho : (ung R i && (Js (An R i) && (DG P (stT (An R i)) (fev f (stY (An R i))) (pO (fev f (stX (An R i)))) C && (match Bf R i with | none => true | some _ => false)))) = true := by kernel_rfl) : RWP P ro n R Q (i :: rest) f w :=
 JJ (hs.ownAt (k := 6) rfl) (k _ (hs.put (k := 6) rfl _)) hx hC ho
end
section
variable {P : Program} {n : Nat} {R : Array Oper} {Q : Exit -> Fr -> World -> Prop} {PQ : List PanicEntry -> List Deferred -> World -> Prop} {Post : Fr -> World -> Prop} {z fuel : Nat} {Sw : Bool -> World -> Prop} {i : Nat} {f : Fr} {w w' w0 : World} {F0 F Fs : Mem} {l : List Bool} {L Lc Lz : List (Option Nat × Obj)} {e : Option Nat × Obj}
def rdy (R : Array Oper) (z i : Nat) (l : List Bool) : Bool := Region.free .any R l.toArray i && ((Region.ready .any R l.toArray).contains i && LP R z i)
def dvf (P : Program) (R : Array Oper) : List Nat -> Fr -> Fr
 | [], f => f
 | i :: is, f => dvf P R is (A1 f (Bf R i) ((pv P (fev f) (An R i)).getD undef))
def dvl : List Nat -> List Bool -> List Bool
 | [], l => l
 | i :: is, l => dvl is (l.set i true)
def PR (P : Program) (R : Array Oper) (z : Nat) : List Nat -> List Bool -> Fr -> Bool
 | [], _, _ => true
 | i :: is, l, f => ung R i && (isS (pv P (fev f) (An R i)) && (rdy R z i l && PR P R z is (l.set i true) (A1 f (Bf R i) ((pv P (fev f) (An R i)).getD undef))))
theorem P5 : ∀ (is : List Nat) {l : List Bool} {f : Fr} {fuel : Nat}, DWP P n R PQ Post z Sw fuel (dvl is l) (dvf P R is f) w -> PR P R z is l f = true -> DWP P n R PQ Post z Sw (fuel + is.length) l f w
 | [], _, _, _, k, _ => k
 | i :: is, l, f, fuel, k, h => by
  simp only [PR, rdy, Bool.and_eq_true] at h
  obtain ⟨h1, h2, ⟨h3, h4, h5⟩, h6⟩ := h
  exact Sv (Bm h1) h3 h4 h5 rfl rfl (fun _ _ => Mj (GK h2)) rfl (P5 is k h6)
theorem Dv (is : List Nat) {fu : Nat} (k : DWP P n R PQ Post z Sw (fu - is.length) (dvl is l) (dvf P R is f) w) (h : PR P R z is l f = true := by kernel_rfl) (hfu : Nat.beq fu ((fu - is.length) + is.length) = true := by kernel_rfl) : DWP P n R PQ Post z Sw fu l f w := by
 have := Nat.eq_of_beq_eq_true hfu; rw [this]
 exact P5 is k h
theorem Dvl (is : List Nat) (l' : List Bool) {fu : Nat} (k : DWP P n R PQ Post z Sw (fu - is.length) l' (dvf P R is f) w) (h : PR P R z is l f = true := by kernel_rfl) (hl : dvl is l = l' := by kernel_rfl) (hfu : Nat.beq fu ((fu - is.length) + is.length) = true := by kernel_rfl) : DWP P n R PQ Post z Sw fu l f w := by
 subst hl; exact Dv is k h hfu
theorem DWP.tk {v : Value} (i : Nat) {fu : Nat} (hy : ∀ w', Sw (l.toArray.getD z true) w' -> (Ak (fev f) (An R i) (FT R i)).run P w' = .ok (.value v) w') (k : DWP P n R PQ Post z Sw (fu - 1) (l.set i true) (A1 f (Bf R i) v) w) (ho : ung R i = true) (hr : rdy R z i l = true)
  (hfu : Nat.beq fu ((fu - 1) + 1) = true) : DWP P n R PQ Post z Sw fu l f w := by
 simp only [rdy, Bool.and_eq_true] at hr
 have := Nat.eq_of_beq_eq_true hfu; rw [this]
 exact Sv (Bm ho) hr.1 hr.2.1 hr.2.2 rfl rfl hy rfl k
theorem Dl (i : Nat) {fu : Nat} {b : Nat} {C : Array Value} {E : TypeId} {fz : Nat × Nat} (hp : ∀ w', Sw (l.toArray.getD z true) w' -> w'.heap[b]? = some (.cells C E fz)) (k : DWP P n R PQ Post z Sw (fu - 1) (l.set i true) (A1 f (Bf R i) (ldV P (ldT (An R i)) C (pO (fev f (ldX (An R i)))))) w)
  (hx : fev f (ldX (An R i)) = .pointer (some ⟨b, pO (fev f (ldX (An R i))), none⟩) := by kernel_rfl) (ho : (ung R i && (Nh (An R i) && ldK P (ldT (An R i)) C (pO (fev f (ldX (An R i)))))) = true := by kernel_rfl) (hr : rdy R z i l = true := by kernel_rfl)
  (hfu : Nat.beq fu ((fu - 1) + 1) = true := by kernel_rfl) : DWP P n R PQ Post z Sw fu l f w := by
 simp only [Bool.and_eq_true] at ho
 refine DWP.tk i (fun w' hw => ?_) k ho.1 hr hfu
 have := EE ho.2.1
 rw [this]; exact NL hx (hp w' hw) ho.2.2
theorem Dx (i j : Nat) {fu : Nat} {b o kk : Nat} {C : Array Value} {E : TypeId} {fz : Nat × Nat} {cs : List Value} (hp : ∀ w', Sw (l.toArray.getD z true) w' -> w'.heap[b]? = some (.cells C E fz)) (hc : Ax C o kk = cs) (k : DWP P n R PQ Post z Sw (fu - 1) (l.set i true) (A1 f (Bf R i) (lxV P (ldT (An R i)) cs j)) w)
  (hx : fev f (ldX (An R i)) = .pointer (some ⟨b, o + j, none⟩) := by kernel_rfl) (ho : (ung R i && (Nh (An R i) && lxK P (ldT (An R i)) cs j kk)) = true := by kernel_rfl) (hr : rdy R z i l = true := by kernel_rfl)
  (hfu : Nat.beq fu ((fu - 1) + 1) = true := by kernel_rfl) : DWP P n R PQ Post z Sw fu l f w := by
 simp only [Bool.and_eq_true] at ho
 refine DWP.tk i (fun w' hw => ?_) k ho.1 hr hfu
 have := EE ho.2.1
 rw [this]; exact NI hx (hp w' hw) hc ho.2.2
theorem Di (i : Nat) {fu m : Nat} {q : Int} (hi : 0 <= q /\ q < (m : Int)) (k : DWP P n R PQ Post z Sw (fu - 1) (l.set i true) (A1 f (Bf R i) (.pointer (some ⟨sB (fev f (ixX (An R i))), sO (fev f (ixX (An R i))) + q.toNat * elS P (ixT (An R i)), none⟩))) w)
  (hx : fev f (ixX (An R i)) = .slice (some ⟨sB (fev f (ixX (An R i))), sO (fev f (ixX (An R i))), none⟩) m (sC (fev f (ixX (An R i)))) := by kernel_rfl) (hy : fev f (ixY (An R i)) = .int (iK (fev f (ixY (An R i)))) q := by kernel_rfl)
  (ho : (ung R i && (N3 (An R i) && slQ P (ixT (An R i)))) = true := by kernel_rfl) (hr : rdy R z i l = true := by kernel_rfl) (hfu : Nat.beq fu ((fu - 1) + 1) = true := by kernel_rfl) : DWP P n R PQ Post z Sw fu l f w := by
 simp only [Bool.and_eq_true] at ho
 refine DWP.tk i (fun w' hw => ?_) k ho.1 hr hfu
 have e := FO ho.2.1
 have := Pq (P := P) (w := w') (ty := FT R i) hi hx hy ho.2.2
 rw [<- e] at this; exact this
theorem Dj (i : Nat) {fu m : Nat} {q : Int} (hi : 0 <= q /\ q < (m : Int)) (k : DWP P n R PQ Post z Sw (fu - 1) (l.set i true) (A1 f (Bf R i) (.pointer (some ⟨sB (fev f (ixX (An R i))), q.toNat * elS P (ixT (An R i)), none⟩))) w)
  (hx : fev f (ixX (An R i)) = .slice (some ⟨sB (fev f (ixX (An R i))), 0, none⟩) m (sC (fev f (ixX (An R i)))) := by kernel_rfl) (hy : fev f (ixY (An R i)) = .int (iK (fev f (ixY (An R i)))) q := by kernel_rfl)
  (ho : (ung R i && (N3 (An R i) && slQ P (ixT (An R i)))) = true := by kernel_rfl) (hr : rdy R z i l = true := by kernel_rfl) (hfu : Nat.beq fu ((fu - 1) + 1) = true := by kernel_rfl) : DWP P n R PQ Post z Sw fu l f w := by
 simp only [Bool.and_eq_true] at ho
 refine DWP.tk i (fun w' hw => ?_) k ho.1 hr hfu
 have e := FO ho.2.1
 have := Qn (P := P) (w := w') (ty := FT R i) hi hx hy ho.2.2
 rw [<- e] at this; exact this
theorem D1 (i : Nat) {fu : Nat} (h : AA P n R PQ Post z Sw (fu - 1) l i f w) (hr : Region.ready .any R l.toArray = [i] := by kernel_rfl) (hfu : Nat.beq fu ((fu - 1) + 1) = true := by kernel_rfl) : DWP P n R PQ Post z Sw fu l f w := by
 have := Nat.eq_of_beq_eq_true hfu; rw [this]
 exact Sx hr h
theorem zdT {zd : Bool} {A : Prop} (h : zd = true) : zd = false -> A := fun e => by rw [h] at e; cases e
theorem DCl {fid : FuncId} {args : List Value} {post : Mem -> Value -> Prop} (hok : Al P fid) (hs : HS w0 F0 w F L) (hc : Calls P fid args.toArray w (AJ w F post))
  (k : ∀ v F1 w1, HS w0 F0 w1 F1 L -> Sh F F1 -> post F1 v -> DWP P n R PQ Post z (DZ Fs Lc Lz) fuel (l.set i true) (A1 f (Bf R i) v) w1) (ha : clV f (An R i) = some (fid, args) := by kernel_rfl) (ho : ung R i = true := by kernel_rfl)
  (hz : ((l.set i true).toArray.getD z true == l.toArray.getD z true) = true := by kernel_rfl) : AA P n R PQ Post z (DZ Fs Lc Lz) fuel l i f w := by
 cases e : An R i with
 | call c =>
  obtain ⟨callee, aos, ats⟩ := c
  have ho' := Bm ho
  rw [e] at ha ho'
  unfold clV at ha
  simp only at ha
  split at ha
  ·split at ha
   ·rename_i hf
    simp only [Option.some.injEq, Prod.mk.injEq] at ha
    obtain ⟨rfl, rfl⟩ := ha
    exact AA.call rfl (by simpa using hz) rfl ho' rfl hf hok rfl hs hc k
   ·cases ha
  ·cases ha
 | _ => rw [e] at ha; simp [clV] at ha
theorem DBs (E : TypeId) (cs : List Value) (hs : HS w0 F0 w F L) (hle : Sh Fs F) (k : ∀ b w', HS w0 F0 w' F ((some b, .cells cs.toArray E (0, 0)) :: L) -> DWP P n R PQ Post z (DZ Fs Lc Lz) fuel (l.set i true) (A1 f (Bf R i) (.slice (some ⟨b, 0, none⟩) (bsL (An R i)) (bsL (An R i)))) w')
  (hb : bsV P f (An R i) = some (E, cs) := by kernel_rfl) (ho : ung R i = true := by kernel_rfl) (hL : ∀ p, p ∈ Lc -> p ∈ L := by simp) (hLz : (l.set i true).toArray.getD z true = false -> ∀ p, p ∈ Lz -> p ∈ L := by first | (intro _; simp; done) | exact zdT (by kernel_rfl)) : AA P n R PQ Post z (DZ Fs Lc Lz) fuel l i f w := by
 have := Bm ho
 cases e : An R i with
 | buildSlice t len parts =>
  rw [e] at hb this k
  exact AA.buildSlice rfl rfl this rfl rfl hb hs hle hL hLz k
 | _ => rw [e] at hb; simp [bsV] at hb
theorem DCB {fid : FuncId} {args : List Value} {wb : World} {Fb : Mem} {post : Mem -> Value -> Own -> Prop} (hok : Al P fid) (hc : Calls P fid args.toArray w (Ll wb Fb F post))
  (k : ∀ v F1 w1 L', HS wb Fb w1 F1 L' -> Sh F F1 -> post F1 v L' -> DZ Fs Lc Lz ((l.set i true).toArray.getD z true) w1 /\ DWP P n R PQ Post z (DZ Fs Lc Lz) fuel (l.set i true) (A1 f (Bf R i) v) w1) (ha : clV f (An R i) = some (fid, args) := by kernel_rfl) (ho : ung R i = true := by kernel_rfl) : AA P n R PQ Post z (DZ Fs Lc Lz) fuel l i f w := by
 cases e : An R i with
 | call c =>
  obtain ⟨callee, aos, ats⟩ := c
  have ho' := Bm ho
  rw [e] at ha ho'
  unfold clV at ha
  simp only at ha
  split at ha
  ·split at ha
   ·rename_i hf
    simp only [Option.some.injEq, Prod.mk.injEq] at ha
    obtain ⟨rfl, rfl⟩ := ha
    exact AA.callB rfl rfl ho' rfl hf hok rfl hc k
   ·cases ha
  ·cases ha
 | _ => rw [e] at ha; simp [clV] at ha
theorem DCP {fid : FuncId} {args : List Value} {wb : World} {Fb : Mem} {α β : Type} {Lf : Own} {res : β ⊕ α} {bv : β -> Value} {post : α -> Mem -> Value -> Own -> Prop} (hok : Al P fid) (hc : Calls P fid args.toArray w (BB wb Fb F Lf res bv post))
  (k : ∀ r v F1 w1 L', res = .inr r -> HS wb Fb w1 F1 L' -> Sh F F1 -> post r F1 v L' -> DZ Fs Lc Lz ((l.set i true).toArray.getD z true) w1 /\ DWP P n R PQ Post z (DZ Fs Lc Lz) fuel (l.set i true) (A1 f (Bf R i) v) w1)
  (kp : ∀ b F1 w1, res = .inl b -> HS wb Fb w1 F1 Lf -> Sh F F1 -> PQ [{ v := bv b, recovered := false }] f.d w1) (ha : clV f (An R i) = some (fid, args) := by kernel_rfl) (ho : ung R i = true := by kernel_rfl) : AA P n R PQ Post z (DZ Fs Lc Lz) fuel l i f w := by
 cases e : An R i with
 | call c =>
  obtain ⟨callee, aos, ats⟩ := c
  have ho' := Bm ho
  rw [e] at ha ho'
  unfold clV at ha
  simp only at ha
  split at ha
  ·split at ha
   ·rename_i hf
    simp only [Option.some.injEq, Prod.mk.injEq] at ha
    obtain ⟨rfl, rfl⟩ := ha
    exact AA.callBP rfl rfl ho' rfl hf hok rfl hc k kp
   ·cases ha
  ·cases ha
 | _ => rw [e] at ha; simp [clV] at ha
def fls : Nat -> List Bool
 | 0 => []
 | n + 1 => false :: fls n
variable {c : Code}
def Qx (R : Array Oper) : Bool := R.all fun o => !IM o.op
def QV (P : Program) (n m : Nat) (c : Code) : Bool := Nat.beq (kin c) 2 && (okR n (D4 c) && (Region.noSelect (D4 c) && (Qx (D4 c) && Nat.beq (D4 c).size m)))
theorem Q9 : ∀ n, Array.replicate n false = (fls n).toArray := fun n => by
 have : List.replicate n false = fls n := by induction n with
  | zero => rfl
  | succ n ih => rw [List.replicate_succ, ih]; rfl
 rw [<- this]; simp
theorem Qw {R : Array Oper} (hd : Qx R = true) (ro : Option Nat) {Q : Exit -> Act -> World -> Prop} {i : Nat} {K K' : Act -> World -> Prop} (hK : ∀ a w, K a w -> K' a w) {a : Act} {w : World} (h : wpOpIn (FW none) 0 P R Q i K a w) : wpOpIn (FW ro) 0 P R Q i K' a w := by
 have h := wpOpIn_mono hK h
 unfold wpOpIn at h ⊢
 cases ho : R[i]? with
 | none => simp only [ho] at h ⊢; exact h
 | some o =>
  simp only [ho] at h ⊢
  split
  ·rename_i hw
   simp only [hw, if_true] at h
   have hi : i < R.size := by
    rcases Nat.lt_or_ge i R.size with h' | h'
    ·exact h'
    ·simp [Array.getElem?_eq_none h'] at ho
   have hnd : IM o.op = false := by
    unfold Qx at hd
    rw [Array.all_eq_true] at hd
    have := hd i hi
    have e : R[i] = o := by simpa [Array.getElem?_eq_getElem hi] using ho
    rw [e] at this; simpa using this
   unfold Oper.wpIn at h ⊢
   refine ⟨fun _ _ => trivial, ?_⟩
   have e : ∀ r, Oper.semAt r a.eval o = execOp a.eval o := fun r => FF hnd r a.eval o rfl
   have h2 := h.2
   rw [e] at h2 ⊢
   exact h2
  ·rename_i hw
   simp only [hw, if_false] at h
   exact ⟨fun _ _ => trivial, h.2⟩
theorem PY {R : Array Oper} (hd : Qx R = true) (ro : Option Nat) {Q : Exit -> Act -> World -> Prop} : ∀ (fuel : Nat) (l : Array Bool) (a : Act) (w : World), wpAnyIn (FW none) 0 P .any R Q fuel l a w -> wpAnyIn (FW ro) 0 P .any R Q fuel l a w
 | 0, _, _, _, h => h
 | fuel + 1, _, _, _, h => ⟨h.1, fun i hi => Qw hd ro (fun a w => PY hd ro fuel _ a w) (h.2 i hi)⟩
variable {ro : Option Nat}
theorem RDP (z m : Nat) (Lc Lz : List (Option Nat × Obj)) (hs : HS w0 F0 w F L) (PQ : List PanicEntry -> List Deferred -> World -> Prop) (Post : Fr -> World -> Prop)
  (h : ∀ w', HS w0 F0 w' F L -> DWP P n (D4 c) PQ Post z (DZ F Lc Lz) m (fls m) f w') (k : ∀ f w, Post f w -> Q .normal f w) (kp : ∀ c f w, PQ c f.d w -> Q (.panic c) f w) (hm : P.follows .mixedOrders = true := by kernel_rfl) (ho : QV P n m c = true := by kernel_rfl) (hc : ∀ p, p ∈ Lc -> p ∈ L := by simp) (hz : ∀ p, p ∈ Lz -> p ∈ L := by simp) : CWP P ro n c Q f w := by
 simp only [QV, Bool.and_eq_true] at ho
 obtain ⟨hk, hok, hns, hnd, hfu⟩ := ho
 replace hk := Nat.eq_of_beq_eq_true hk
 replace hfu := Nat.eq_of_beq_eq_true hfu
 subst hfu
 cases c <;> simp [kin] at hk
 rename_i id ops d
 cases d <;> simp [kin] at hk
 intro a ha
 have hs' : HS w0 F0 { w with drawn := w.drawn + 1 } F L := hs.heap rfl
 refine wpIn_mono (wpIn_region_any hm (PY hnd ro _ _ _ _ (HR (z := z) (S := DZ F Lc Lz) _ _ _ _ ?_))) (Q := lq n (nq PQ Post)) ?_
 ·simp only [D4] at *
  rw [Q9]
  exact h _ hs' hok hns (Bu hs' (Si F) hc fun _ => hz) a ha
 ·rintro e a w ⟨f, hf, hP⟩
  cases e with
  | normal => exact ⟨f, hf, k _ _ hP⟩
  | panic c => exact ⟨f, hf, kp _ _ _ hP⟩
  | _ => exact hP.elim
theorem RD (z m : Nat) (Lc Lz : List (Option Nat × Obj)) (hs : HS w0 F0 w F L) (Post : Fr -> World -> Prop)
  (h : ∀ w', HS w0 F0 w' F L -> DWP P n (D4 c) (fun _ _ _ => False) Post z (DZ F Lc Lz) m (fls m) f w') (k : ∀ f w, Post f w -> Q .normal f w) (hm : P.follows .mixedOrders = true := by kernel_rfl) (ho : QV P n m c = true := by kernel_rfl) (hc : ∀ p, p ∈ Lc -> p ∈ L := by simp) (hz : ∀ p, p ∈ Lz -> p ∈ L := by simp) : CWP P ro n c Q f w :=
 RDP z m Lc Lz hs (fun _ _ _ => False) Post h k (fun _ _ _ h => h.elim) hm ho hc hz
variable {α : Type} {T : Ty α} {E : TypeId} {a : SG} {cap : Nat} {ls m : List α}
theorem R9 {e0 e1 : Option Nat × Obj} {b : Nat} {C : Array Value} {E : TypeId} (C' : Array Value) (hs : HS w0 F0 w F (e0 :: e1 :: (some b, .cells C E (0, 0)) :: L)) (hle : Sh Fs F) (k : ∀ w', HS w0 F0 w' F (e0 :: e1 :: (some b, .cells C' E (0, 0)) :: L) -> DWP P n R PQ Post z (DZ Fs Lc Lz) fuel (l.set i true) f w')
  (hx : fev f (stX (An R i)) = .pointer (some ⟨b, pO (fev f (stX (An R i))), none⟩) := by kernel_rfl) (hC : Dc C (pO (fev f (stX (An R i)))) (fev f (stY (An R i))).cells.toList = C' := by kernel_rfl)
  (ho : (ung R i && (Js (An R i) && (DG P (stT (An R i)) (fev f (stY (An R i))) (pO (fev f (stX (An R i)))) C && (match Bf R i with | none => true | some _ => false)))) = true := by kernel_rfl)
  (hL : ∀ p, p ∈ Lc -> p ∈ e0 :: e1 :: (some b, .cells C' E (0, 0)) :: L := by simp) (hLz : (l.set i true).toArray.getD z true = false -> ∀ p, p ∈ Lz -> p ∈ e0 :: e1 :: (some b, .cells C' E (0, 0)) :: L := by first | (intro _; simp; done) | exact zdT (by kernel_rfl)) : AA P n R PQ Post z (DZ Fs Lc Lz) fuel l i f w := by
 simp only [Bool.and_eq_true] at ho
 obtain ⟨h1, h2, h3, h4⟩ := ho
 have e := FN h2
 have := Bm h1
 cases hd : Bf R i with
 | some d => rw [hd] at h4; cases h4
 | none =>
  rw [hd] at this
  have hp := hs.put (k := 2) rfl (.cells C' E (0, 0))
  refine Sz rfl rfl this rfl ?_ (Bu hp hle hL hLz) (k _ hp)
  have hr := Kq (P := P) (ty := FT R i) (w := w) hx (hs.ownAt (k := 2) rfl) h3 hC
  rw [<- e] at hr; exact hr
theorem Sb {e0 e1 : Option Nat × Obj} {a2 : SG} (h1 : T.One) (hs : HS w0 F0 w F (e0 :: e1 :: e :: L)) (hr : Aw T E F a cap ls e) (hm : Rd T F w a2 m) {r : List α} (hap : Gh ls m = some r) (hle : Sh Fs F)
  (k : ∀ a' cap' e' w', HS w0 F0 w' F (e0 :: e1 :: e' :: L) -> Aw T E F a' cap' r e' -> DWP P n R PQ Post z (DZ Fs Lc Lz) fuel (l.set i true) (A1 f (Bf R i) (.slice a' r.length cap')) w')
  (hx : fev f (apX (An R i)) = .slice a ls.length cap := by kernel_rfl) (hy : fev f (apY (An R i)) = .slice a2 m.length (sC (fev f (apY (An R i)))) := by kernel_rfl) (ho : (ung R i && apK P E T.sz (An R i)) = true := by kernel_rfl)
  (hL : ∀ e' p, p ∈ Lc -> p ∈ e0 :: e1 :: e' :: L := by (intro _; simp)) (hLz : (l.set i true).toArray.getD z true = false -> ∀ e' p, p ∈ Lz -> p ∈ e0 :: e1 :: e' :: L := by first | (intro _ _; simp; done) | exact zdT (by kernel_rfl)) : AA P n R PQ Post z (DZ Fs Lc Lz) fuel l i f w := by
 simp only [Bool.and_eq_true] at ho
 obtain ⟨t, t2, by_, zz, e1, he, hb, hni, hz, hzs⟩ := I9 ho.2
 have := Bm ho.1
 rw [e1] at this
 exact AA.append rfl rfl this rfl hx hy he hb hni hz hzs h1 hs (k := 2) rfl hr hm hap hle hL hLz k
theorem Rn {e0 e1 e2 : Option Nat × Obj} {b : Nat} {C : Array Value} {E : TypeId} (C' : Array Value) (hs : HS w0 F0 w F (e0 :: e1 :: e2 :: (some b, .cells C E (0, 0)) :: L)) (hle : Sh Fs F) (k : ∀ w', HS w0 F0 w' F (e0 :: e1 :: e2 :: (some b, .cells C' E (0, 0)) :: L) -> DWP P n R PQ Post z (DZ Fs Lc Lz) fuel (l.set i true) f w')
  (hx : fev f (stX (An R i)) = .pointer (some ⟨b, pO (fev f (stX (An R i))), none⟩) := by kernel_rfl) (hC : Dc C (pO (fev f (stX (An R i)))) (fev f (stY (An R i))).cells.toList = C' := by kernel_rfl)
  (ho : (ung R i && (Js (An R i) && (DG P (stT (An R i)) (fev f (stY (An R i))) (pO (fev f (stX (An R i)))) C && (match Bf R i with | none => true | some _ => false)))) = true := by kernel_rfl)
  (hL : ∀ p, p ∈ Lc -> p ∈ e0 :: e1 :: e2 :: (some b, .cells C' E (0, 0)) :: L := by simp) (hLz : (l.set i true).toArray.getD z true = false -> ∀ p, p ∈ Lz -> p ∈ e0 :: e1 :: e2 :: (some b, .cells C' E (0, 0)) :: L := by first | (intro _; simp; done) | exact zdT (by kernel_rfl)) : AA P n R PQ Post z (DZ Fs Lc Lz) fuel l i f w := by
 simp only [Bool.and_eq_true] at ho
 obtain ⟨h1, h2, h3, h4⟩ := ho
 have e := FN h2
 have := Bm h1
 cases hd : Bf R i with
 | some d => rw [hd] at h4; cases h4
 | none =>
  rw [hd] at this
  have hp := hs.put (k := 3) rfl (.cells C' E (0, 0))
  refine Sz rfl rfl this rfl ?_ (Bu hp hle hL hLz) (k _ hp)
  have hr := Kq (P := P) (ty := FT R i) (w := w) hx (hs.ownAt (k := 3) rfl) h3 hC
  rw [<- e] at hr; exact hr
theorem R8 {e0 e1 e2 e3 : Option Nat × Obj} {b : Nat} {C : Array Value} {E : TypeId} (C' : Array Value) (hs : HS w0 F0 w F (e0 :: e1 :: e2 :: e3 :: (some b, .cells C E (0, 0)) :: L)) (hle : Sh Fs F) (k : ∀ w', HS w0 F0 w' F (e0 :: e1 :: e2 :: e3 :: (some b, .cells C' E (0, 0)) :: L) -> DWP P n R PQ Post z (DZ Fs Lc Lz) fuel (l.set i true) f w')
  (hx : fev f (stX (An R i)) = .pointer (some ⟨b, pO (fev f (stX (An R i))), none⟩) := by kernel_rfl) (hC : Dc C (pO (fev f (stX (An R i)))) (fev f (stY (An R i))).cells.toList = C' := by kernel_rfl)
  (ho : (ung R i && (Js (An R i) && (DG P (stT (An R i)) (fev f (stY (An R i))) (pO (fev f (stX (An R i)))) C && (match Bf R i with | none => true | some _ => false)))) = true := by kernel_rfl)
  (hL : ∀ p, p ∈ Lc -> p ∈ e0 :: e1 :: e2 :: e3 :: (some b, .cells C' E (0, 0)) :: L := by simp) (hLz : (l.set i true).toArray.getD z true = false -> ∀ p, p ∈ Lz -> p ∈ e0 :: e1 :: e2 :: e3 :: (some b, .cells C' E (0, 0)) :: L := by first | (intro _; simp; done) | exact zdT (by kernel_rfl)) : AA P n R PQ Post z (DZ Fs Lc Lz) fuel l i f w := by
 simp only [Bool.and_eq_true] at ho
 obtain ⟨h1, h2, h3, h4⟩ := ho
 have e := FN h2
 have := Bm h1
 cases hd : Bf R i with
 | some d => rw [hd] at h4; cases h4
 | none =>
  rw [hd] at this
  have hp := hs.put (k := 4) rfl (.cells C' E (0, 0))
  refine Sz rfl rfl this rfl ?_ (Bu hp hle hL hLz) (k _ hp)
  have hr := Kq (P := P) (ty := FT R i) (w := w) hx (hs.ownAt (k := 4) rfl) h3 hC
  rw [<- e] at hr; exact hr
theorem QI {e0 e1 e2 e3 e4 : Option Nat × Obj} {b : Nat} {C : Array Value} {E : TypeId} (C' : Array Value) (hs : HS w0 F0 w F (e0 :: e1 :: e2 :: e3 :: e4 :: (some b, .cells C E (0, 0)) :: L)) (hle : Sh Fs F) (k : ∀ w', HS w0 F0 w' F (e0 :: e1 :: e2 :: e3 :: e4 :: (some b, .cells C' E (0, 0)) :: L) -> DWP P n R PQ Post z (DZ Fs Lc Lz) fuel (l.set i true) f w')
  (hx : fev f (stX (An R i)) = .pointer (some ⟨b, pO (fev f (stX (An R i))), none⟩) := by kernel_rfl) (hC : Dc C (pO (fev f (stX (An R i)))) (fev f (stY (An R i))).cells.toList = C' := by kernel_rfl)
  (ho : (ung R i && (Js (An R i) && (DG P (stT (An R i)) (fev f (stY (An R i))) (pO (fev f (stX (An R i)))) C && (match Bf R i with | none => true | some _ => false)))) = true := by kernel_rfl)
  (hL : ∀ p, p ∈ Lc -> p ∈ e0 :: e1 :: e2 :: e3 :: e4 :: (some b, .cells C' E (0, 0)) :: L := by simp) (hLz : (l.set i true).toArray.getD z true = false -> ∀ p, p ∈ Lz -> p ∈ e0 :: e1 :: e2 :: e3 :: e4 :: (some b, .cells C' E (0, 0)) :: L := by first | (intro _; simp; done) | exact zdT (by kernel_rfl)) : AA P n R PQ Post z (DZ Fs Lc Lz) fuel l i f w := by
 simp only [Bool.and_eq_true] at ho
 obtain ⟨h1, h2, h3, h4⟩ := ho
 have e := FN h2
 have := Bm h1
 cases hd : Bf R i with
 | some d => rw [hd] at h4; cases h4
 | none =>
  rw [hd] at this
  have hp := hs.put (k := 5) rfl (.cells C' E (0, 0))
  refine Sz rfl rfl this rfl ?_ (Bu hp hle hL hLz) (k _ hp)
  have hr := Kq (P := P) (ty := FT R i) (w := w) hx (hs.ownAt (k := 5) rfl) h3 hC
  rw [<- e] at hr; exact hr
theorem Sa {e0 e1 e2 e3 e4 : Option Nat × Obj} {a2 : SG} (h1 : T.One) (hs : HS w0 F0 w F (e0 :: e1 :: e2 :: e3 :: e4 :: e :: L)) (hr : Aw T E F a cap ls e) (hm : Rd T F w a2 m) {r : List α} (hap : Gh ls m = some r) (hle : Sh Fs F)
  (k : ∀ a' cap' e' w', HS w0 F0 w' F (e0 :: e1 :: e2 :: e3 :: e4 :: e' :: L) -> Aw T E F a' cap' r e' -> DWP P n R PQ Post z (DZ Fs Lc Lz) fuel (l.set i true) (A1 f (Bf R i) (.slice a' r.length cap')) w')
  (hx : fev f (apX (An R i)) = .slice a ls.length cap := by kernel_rfl) (hy : fev f (apY (An R i)) = .slice a2 m.length (sC (fev f (apY (An R i)))) := by kernel_rfl) (ho : (ung R i && apK P E T.sz (An R i)) = true := by kernel_rfl)
  (hL : ∀ e' p, p ∈ Lc -> p ∈ e0 :: e1 :: e2 :: e3 :: e4 :: e' :: L := by (intro _; simp)) (hLz : (l.set i true).toArray.getD z true = false -> ∀ e' p, p ∈ Lz -> p ∈ e0 :: e1 :: e2 :: e3 :: e4 :: e' :: L := by first | (intro _ _; simp; done) | exact zdT (by kernel_rfl)) : AA P n R PQ Post z (DZ Fs Lc Lz) fuel l i f w := by
 simp only [Bool.and_eq_true] at ho
 obtain ⟨t, t2, by_, zz, e1, he, hb, hni, hz, hzs⟩ := I9 ho.2
 have := Bm ho.1
 rw [e1] at this
 exact AA.append rfl rfl this rfl hx hy he hb hni hz hzs h1 hs (k := 5) rfl hr hm hap hle hL hLz k
theorem RS {e0 e1 e2 e3 e4 e5 e6 : Option Nat × Obj} {a2 : SG} (h1 : T.One) (hs : HS w0 F0 w F (e0 :: e1 :: e2 :: e3 :: e4 :: e5 :: e6 :: e :: L)) (hr : Aw T E F a cap ls e) (hm : Rd T F w a2 m) {r : List α} (hap : Gh ls m = some r) (hle : Sh Fs F)
  (k : ∀ a' cap' e' w', HS w0 F0 w' F (e0 :: e1 :: e2 :: e3 :: e4 :: e5 :: e6 :: e' :: L) -> Aw T E F a' cap' r e' -> DWP P n R PQ Post z (DZ Fs Lc Lz) fuel (l.set i true) (A1 f (Bf R i) (.slice a' r.length cap')) w')
  (hx : fev f (apX (An R i)) = .slice a ls.length cap := by kernel_rfl) (hy : fev f (apY (An R i)) = .slice a2 m.length (sC (fev f (apY (An R i)))) := by kernel_rfl) (ho : (ung R i && apK P E T.sz (An R i)) = true := by kernel_rfl)
  (hL : ∀ e' p, p ∈ Lc -> p ∈ e0 :: e1 :: e2 :: e3 :: e4 :: e5 :: e6 :: e' :: L := by (intro _; simp)) (hLz : (l.set i true).toArray.getD z true = false -> ∀ e' p, p ∈ Lz -> p ∈ e0 :: e1 :: e2 :: e3 :: e4 :: e5 :: e6 :: e' :: L := by first | (intro _ _; simp; done) | exact zdT (by kernel_rfl)) : AA P n R PQ Post z (DZ Fs Lc Lz) fuel l i f w := by
 simp only [Bool.and_eq_true] at ho
 obtain ⟨t, t2, by_, zz, e1, he, hb, hni, hz, hzs⟩ := I9 ho.2
 have := Bm ho.1
 rw [e1] at this
 exact AA.append rfl rfl this rfl hx hy he hb hni hz hzs h1 hs (k := 7) rfl hr hm hap hle hL hLz k
end
theorem YP.mono {P : Program} {l : Nat} {args : List Value} {w : World} {S S' : Ending -> World -> Prop} (h : YP P l args w S) (hi : ∀ e w', S e w' -> S' e w') : YP P l args w S' :=
 let ⟨fn, t, a, b, h1, h2⟩ := h; ⟨fn, t, a, b, h1, h2.mono hi⟩
structure Expr where
 Op : Int
 Value : Int
 Kids : (List Expr)
structure Clause where
 When : Expr
 Then : Expr
structure Be where
 Points : (List Clause)
 Multipliers : (List Clause)
 Penalties : (List Clause)
 Repeats : (List Expr)
structure QG where
 Lo : Int
 Hi : Int
 deriving DecidableEq
structure Ow where
 I : Int
 K : Int
 deriving DecidableEq
structure Ar where
 kind_ : Int
 at_ : Int
 text_ : SF
 deriving DecidableEq
structure Ab where
 l_ : (List Ar)
 open_ : Int
 deriving DecidableEq
structure BD where
 Kind : Int
 At : Int
 Text : SF
 deriving DecidableEq
structure Cr where
 L : (List BD)
 At : Int
 Open : Int
 Bad : Int
 Where : Int
 deriving DecidableEq
structure Bl where
 Expr : Expr
 at_ : Int
structure Key where
 Clause : Int
 Value : Int
 deriving DecidableEq
structure Ah where
 e_ : Int
 at_ : Int
 deriving DecidableEq
structure BT where
 text_ : SF
 rank_ : Int
 left_ : Int
 right_ : Int
 deriving DecidableEq
structure BG where
 most_ : Int
 own_ : Int
 kids_ : (List Int)
 deriving DecidableEq
structure BZ where
 word_ : SF
 l_ : (List Clause)
inductive Jb (F : Mem) : List Value -> Expr -> Prop
 | leaf (op value : Int) (a : SG) (c : Nat) (hc : LC 0 c) : Jb F [.int .i64 op, .int .i64 value, .slice a 0 c] ⟨op, value, []⟩
 | node (op value : Int) (b ob : Nat) (C : Array Value) (E : Nat) (fz : Nat × Nat) (c : Nat) (k : List Expr) (hc : LC k.length c) (hF : F b = some (.cells C E fz))
   (hk : ∀ i x, k[i]? = some x -> Jb F (Ax C (ob + i * 3) 3) x) : Jb F [.int .i64 op, .int .i64 value, .slice (some ⟨b, ob, none⟩) k.length c] ⟨op, value, k⟩
theorem Jb.len {F : Mem} {cs : List Value} {x : Expr} (h : Jb F cs x) : cs.length = 3 := by cases h <;> rfl
theorem Jb.mono {F F' : Mem} (hl : Sh F F') {cs : List Value} {x : Expr} (h : Jb F cs x) : Jb F' cs x := by
 induction h with
 | leaf op value a c hc => exact .leaf op value a c hc
 | node op value b ob C E fz c k hc hF hk ih => exact .node op value b ob C E fz c k hc (hl _ _ hF) ih
def Ao : Ty Expr := ⟨3, true, Jb, fun h => h.len, fun hl h => h.mono hl, rfl⟩
theorem Az {F : Mem} {cs : List Value} {x : Expr} (h : Ao.R F cs x) : ∃ (a : SG) (c : Nat), cs = [.int .i64 x.Op, .int .i64 x.Value, .slice a x.Kids.length c] /\ LC x.Kids.length c /\ SlA Ao F a x.Kids := by
 cases h with
 | leaf op value a c hc => exact ⟨a, c, rfl, hc, .inl rfl⟩
 | node op value b ob C E fz c k hc hF hk => exact ⟨_, c, rfl, hc, .inr ⟨b, ob, C, E, fz, rfl, hF, hk⟩⟩
theorem Bb {F : Mem} {cs : List Value} {x : Expr} (h : ∃ (a : SG) (c : Nat), cs = [.int .i64 x.Op, .int .i64 x.Value, .slice a x.Kids.length c] /\ LC x.Kids.length c /\ SlA Ao F a x.Kids) : Ao.R F cs x := by
 obtain ⟨a, c, rfl, hc, hs⟩ := h
 obtain ⟨op, value, k⟩ := x
 rcases hs with rfl | ⟨b, o, C, E, fz, rfl, hF, hx⟩
 ·exact .leaf op value a c hc
 ·exact .node op value b o C E fz c k hc hF hx
theorem PA : Ao.One := fun h => by obtain ⟨a, c, rfl, _⟩ := Az h; rfl
def As : Ty Clause := ⟨6, true, fun F cs x => ∃ (a_2 : SG) (n_2 : Nat) (a_5 : SG) (n_5 : Nat), cs = [(.int .i64 x.When.Op), (.int .i64 x.When.Value), (.slice a_2 x.When.Kids.length n_2), (.int .i64 x.Then.Op), (.int .i64 x.Then.Value), (.slice a_5 x.Then.Kids.length n_5)] /\ LC x.When.Kids.length n_2 /\ SlA Ao F a_2 x.When.Kids /\ LC x.Then.Kids.length n_5 /\ SlA Ao F a_5 x.Then.Kids,
 fun h => by obtain ⟨a_2, n_2, a_5, n_5, rfl, _, _, _, _⟩ := h; rfl,
 fun hl h => by obtain ⟨a_2, n_2, a_5, n_5, hc, hb_2, hs_2, hb_5, hs_5⟩ := h; exact ⟨a_2, n_2, a_5, n_5, hc, hb_2, hs_2.mono hl, hb_5, hs_5.mono hl⟩, rfl⟩
theorem Oy : As.One := fun h => by first | (subst h; rfl) | (obtain ⟨a_2, n_2, a_5, n_5, rfl, _, _, _, _⟩ := h; rfl)
def Rq : Ty Be := ⟨4, true, fun F cs x => ∃ (a_0 : SG) (n_0 : Nat) (a_1 : SG) (n_1 : Nat) (a_2 : SG) (n_2 : Nat) (a_3 : SG) (n_3 : Nat), cs = [(.slice a_0 x.Points.length n_0), (.slice a_1 x.Multipliers.length n_1), (.slice a_2 x.Penalties.length n_2), (.slice a_3 x.Repeats.length n_3)] /\ LC x.Points.length n_0 /\ SlA As F a_0 x.Points /\ LC x.Multipliers.length n_1 /\ SlA As F a_1 x.Multipliers /\ LC x.Penalties.length n_2 /\ SlA As F a_2 x.Penalties /\ LC x.Repeats.length n_3 /\ SlA Ao F a_3 x.Repeats,
 fun h => by obtain ⟨a_0, n_0, a_1, n_1, a_2, n_2, a_3, n_3, rfl, _, _, _, _, _, _, _, _⟩ := h; rfl,
 fun hl h => by obtain ⟨a_0, n_0, a_1, n_1, a_2, n_2, a_3, n_3, hc, hb_0, hs_0, hb_1, hs_1, hb_2, hs_2, hb_3, hs_3⟩ := h; exact ⟨a_0, n_0, a_1, n_1, a_2, n_2, a_3, n_3, hc, hb_0, hs_0.mono hl, hb_1, hs_1.mono hl, hb_2, hs_2.mono hl, hb_3, hs_3.mono hl⟩, rfl⟩
def Af : Ty Ar := ⟨3, true, fun _ cs x => cs = [(.int .i64 x.kind_), (.int .i64 x.at_), (.string ⟨(x.text_).toArray⟩)],
 fun h => by subst h; rfl,
 fun _ h => h, rfl⟩
theorem Mm : Af.One := fun h => by first | (subst h; rfl) | (obtain rfl := h; rfl)
def Rp : Ty BZ := ⟨2, true, fun F cs x => ∃ (a_1 : SG) (n_1 : Nat), cs = [(.string ⟨(x.word_).toArray⟩), (.slice a_1 x.l_.length n_1)] /\ LC x.l_.length n_1 /\ SlA As F a_1 x.l_,
 fun h => by obtain ⟨a_1, n_1, rfl, _, _⟩ := h; rfl,
 fun hl h => by obtain ⟨a_1, n_1, hc, hb_1, hs_1⟩ := h; exact ⟨a_1, n_1, hc, hb_1, hs_1.mono hl⟩, rfl⟩
def Nv (F : Mem) (gq : FuncId) (fq kq : List Value) (q : Int -> Option Bool) : Prop := ∀ (w' : World) (F' : Mem) (y0 : Int) (r : Bool), Sh F F' -> (∀ b o, F' b = some o -> w'.heap[b]? = some o) -> q y0 = some r -> Calls Tryz.prog gq ((fq : List Value) ++ (([(.int .i64 y0)] : List Value) ++ kq)).toArray w' (AJ w' F' fun F'' v => v = (.bool r))
theorem Nv.mono {F F1 : Mem} {gq : FuncId} {fq kq : List Value} {q : Int -> Option Bool} (h : Nv F gq fq kq q) (hl : Sh F F1) : Nv F1 gq fq kq q := fun w1 F2 y0 r le1 pe1 hr1 => h w1 F2 y0 r (hl.trans le1) pe1 hr1
def OJ (F : Mem) (gq : FuncId) (fq kq : List Value) (q : Clause -> Option Bool) : Prop := ∀ (w' : World) (F' : Mem) (y0 : Clause) (ay0_2 : SG) (ny0_2 : Nat) (hby0_2 : LC y0.When.Kids.length ny0_2) (hsy0_2 : SlA Ao F' ay0_2 y0.When.Kids) (ay0_5 : SG) (ny0_5 : Nat) (hby0_5 : LC y0.Then.Kids.length ny0_5) (hsy0_5 : SlA Ao F' ay0_5 y0.Then.Kids) (r : Bool), Sh F F' -> (∀ b o, F' b = some o -> w'.heap[b]? = some o) -> q y0 = some r -> Calls Tryz.prog gq ((fq : List Value) ++ (([(.agg #[(.int .i64 y0.When.Op), (.int .i64 y0.When.Value), (.slice ay0_2 y0.When.Kids.length ny0_2), (.int .i64 y0.Then.Op), (.int .i64 y0.Then.Value), (.slice ay0_5 y0.Then.Kids.length ny0_5)])] : List Value) ++ kq)).toArray w' (AJ w' F' fun F'' v => v = (.bool r))
theorem OJ.mono {F F1 : Mem} {gq : FuncId} {fq kq : List Value} {q : Clause -> Option Bool} (h : OJ F gq fq kq q) (hl : Sh F F1) : OJ F1 gq fq kq q := fun w1 F2 y0 ay0_2 ny0_2 hby0_2 hsy0_2 ay0_5 ny0_5 hby0_5 hsy0_5 r le1 pe1 hr1 => h w1 F2 y0 ay0_2 ny0_2 hby0_2 hsy0_2 ay0_5 ny0_5 hby0_5 hsy0_5 r (hl.trans le1) pe1 hr1
def QH (F : Mem) (gq : FuncId) (fq kq : List Value) (q : Expr -> Expr -> Option Bool) : Prop := ∀ (w' : World) (F' : Mem) (y0 : Expr) (ay0_2 : SG) (ny0_2 : Nat) (hby0_2 : LC y0.Kids.length ny0_2) (hsy0_2 : SlA Ao F' ay0_2 y0.Kids) (y1 : Expr) (ay1_2 : SG) (ny1_2 : Nat) (hby1_2 : LC y1.Kids.length ny1_2) (hsy1_2 : SlA Ao F' ay1_2 y1.Kids) (r : Bool), Sh F F' -> (∀ b o, F' b = some o -> w'.heap[b]? = some o) -> q y0 y1 = some r -> Calls Tryz.prog gq ((fq : List Value) ++ (([(.agg #[(.int .i64 y0.Op), (.int .i64 y0.Value), (.slice ay0_2 y0.Kids.length ny0_2)]), (.agg #[(.int .i64 y1.Op), (.int .i64 y1.Value), (.slice ay1_2 y1.Kids.length ny1_2)])] : List Value) ++ kq)).toArray w' (AJ w' F' fun F'' v => v = (.bool r))
theorem QH.mono {F F1 : Mem} {gq : FuncId} {fq kq : List Value} {q : Expr -> Expr -> Option Bool} (h : QH F gq fq kq q) (hl : Sh F F1) : QH F1 gq fq kq q := fun w1 F2 y0 ay0_2 ny0_2 hby0_2 hsy0_2 y1 ay1_2 ny1_2 hby1_2 hsy1_2 r le1 pe1 hr1 => h w1 F2 y0 ay0_2 ny0_2 hby0_2 hsy0_2 y1 ay1_2 ny1_2 hby1_2 hsy1_2 r (hl.trans le1) pe1 hr1
def OI (F : Mem) (gq : FuncId) (fq kq : List Value) (q : Int -> Int -> Int -> Option SF) : Prop := ∀ (w' : World) (F' : Mem) (y0 : Int) (y1 : Int) (y2 : Int) (r : SF), Sh F F' -> (∀ b o, F' b = some o -> w'.heap[b]? = some o) -> q y0 y1 y2 = some r -> Calls Tryz.prog gq ((fq : List Value) ++ (([(.int .i64 y0), (.int .u8 y1), (.int .u8 y2)] : List Value) ++ kq)).toArray w' (AJ w' F' fun F'' v => v = (.string ⟨(r).toArray⟩))
theorem OI.mono {F F1 : Mem} {gq : FuncId} {fq kq : List Value} {q : Int -> Int -> Int -> Option SF} (h : OI F gq fq kq q) (hl : Sh F F1) : OI F1 gq fq kq q := fun w1 F2 y0 y1 y2 r le1 pe1 hr1 => h w1 F2 y0 y1 y2 r (hl.trans le1) pe1 hr1
def P3 (F : Mem) (gq : FuncId) (fq kq : List Value) (q : (List Int) -> Option Bool) : Prop := ∀ (w' : World) (F' : Mem) (y0 : (List Int)) (ay0_0 : SG) (ny0_0 : Nat) (hby0_0 : LC y0.length ny0_0) (hsy0_0 : SlA Ck F' ay0_0 y0) (r : Bool), Sh F F' -> (∀ b o, F' b = some o -> w'.heap[b]? = some o) -> q y0 = some r -> Calls Tryz.prog gq ((fq : List Value) ++ (([(.slice ay0_0 y0.length ny0_0)] : List Value) ++ kq)).toArray w' (AJ w' F' fun F'' v => v = (.bool r))
theorem P3.mono {F F1 : Mem} {gq : FuncId} {fq kq : List Value} {q : (List Int) -> Option Bool} (h : P3 F gq fq kq q) (hl : Sh F F1) : P3 F1 gq fq kq q := fun w1 F2 y0 ay0_0 ny0_0 hby0_0 hsy0_0 r le1 pe1 hr1 => h w1 F2 y0 ay0_0 ny0_0 hby0_0 hsy0_0 r (hl.trans le1) pe1 hr1
def Rm (bp : Nat) (gq : FuncId) (fq kq : List Value) (q : Ab -> Option (Ah ⊕ (Ab × Expr))) : Prop := ∀ {wb w0 : World} {Fb F0 : Mem} {Lf : Own} (hG : B0 F0) (y : Ab) (ay_0 : SG) (ny_0 : Nat) (hby_0 : LC y.l_.length ny_0) (hsy_0 : SlA Af F0 ay_0 y.l_) (hs0 : HS wb Fb w0 F0 ((some bp, (.cells #[(.slice ay_0 y.l_.length ny_0), (.int .i64 y.open_)] 100 (0, 0))) :: Lf)) (r : (Ah ⊕ (Ab × Expr))), q y = some r -> Calls Tryz.prog gq ((fq : List Value) ++ (([] : List Value) ++ kq)).toArray w0 (BB wb Fb F0 Lf r (fun b => (.iface 158 (.agg #[(.int .i64 b.e_), (.int .i64 b.at_)]))) fun a F' v L' => ∃ (aq0_0 : SG) (nq0_0 : Nat) (aq1_2 : SG) (nq1_2 : Nat), v = (.agg #[(.int .i64 a.2.Op), (.int .i64 a.2.Value), (.slice aq1_2 a.2.Kids.length nq1_2)]) /\ L' = (some bp, (.cells #[(.slice aq0_0 a.1.l_.length nq0_0), (.int .i64 a.1.open_)] 100 (0, 0))) :: Lf /\ LC a.1.l_.length nq0_0 /\ SlA Af F' aq0_0 a.1.l_ /\ LC a.2.Kids.length nq1_2 /\ SlA Ao F' aq1_2 a.2.Kids)
abbrev Ag (x : Expr) (a2 : SG) (n2 : Nat) : Array Value := #[.int .i64 x.Op, .int .i64 x.Value, .slice a2 x.Kids.length n2]
abbrev Dq (x : Clause) (a2 : SG) (n2 : Nat) (a5 : SG) (n5 : Nat) : Array Value := #[.int .i64 x.When.Op, .int .i64 x.When.Value, .slice a2 x.When.Kids.length n2, .int .i64 x.Then.Op, .int .i64 x.Then.Value, .slice a5 x.Then.Kids.length n5]
abbrev AU (x : Be) (a0 : SG) (n0 : Nat) (a1 : SG) (n1 : Nat) (a2 : SG) (n2 : Nat) (a3 : SG) (n3 : Nat) : Array Value := #[.slice a0 x.Points.length n0, .slice a1 x.Multipliers.length n1, .slice a2 x.Penalties.length n2, .slice a3 x.Repeats.length n3]
abbrev Bd (x : Ar) : Array Value := #[.int .i64 x.kind_, .int .i64 x.at_, .string ⟨(x.text_).toArray⟩]
abbrev Ad (x : Ab) (a0 : SG) (n0 : Nat) : Array Value := #[.slice a0 x.l_.length n0, .int .i64 x.open_]
abbrev Ay (x : Bl) (a2 : SG) (n2 : Nat) : Array Value := #[.int .i64 x.Expr.Op, .int .i64 x.Expr.Value, .slice a2 x.Expr.Kids.length n2, .int .i64 x.at_]
abbrev AL (x : Ah) : Array Value := #[.int .i64 x.e_, .int .i64 x.at_]
abbrev D3 (x : BT) : Array Value := #[.string ⟨(x.text_).toArray⟩, .int .i64 x.rank_, .int .i64 x.left_, .int .i64 x.right_]
abbrev CN (x : BG) (a2 : SG) (n2 : Nat) : Array Value := #[.int .i64 x.most_, .int .i64 x.own_, .slice a2 x.kids_.length n2]
abbrev L2 (x : BZ) (a1 : SG) (n1 : Nat) : Array Value := #[.string ⟨(x.word_).toArray⟩, .slice a1 x.l_.length n1]
abbrev Mv (x : Ar) : List Value := [(.agg #[(.int .i64 x.kind_), (.int .i64 x.at_), (.string ⟨(x.text_).toArray⟩)])]
abbrev Ox (_ : Mem) (_ : Ar) : Prop := True
abbrev Ov (x : Ar) : Ar := x
theorem kl9 : KL Tryz.prog 9 EF := KL.ofString (by kernel_rfl)
def Ev (N : Nat) (x0 : Int) : Option (BG × Bool) :=
 (bif (x0 == 1) then some (({ most_ := 1000000, own_ := 1, kids_ := ([] : List Int) } : BG), true) else (bif (x0 == 2) then some (({ most_ := 13, own_ := 1, kids_ := ([] : List Int) } : BG), true) else (bif (x0 == 3) then some (({ most_ := 0, own_ := 2, kids_ := [2] } : BG), true) else (bif (bif (x0 == 4) then (x0 == 4) else (x0 == 5)) then some (({ most_ := 0, own_ := 2, kids_ := [2, 2] } : BG), true) else (bif (bif (x0 == 6) then (x0 == 6) else (x0 == 7)) then some (({ most_ := 0, own_ := 2, kids_ := [1, 1] } : BG), true) else (bif (bif (x0 == 8) then (x0 == 8) else (bif (x0 == 9) then (x0 == 9) else (x0 == 10))) then some (({ most_ := 0, own_ := 1, kids_ := [1, 1] } : BG), true) else (bif (x0 == 11) then some (({ most_ := 0, own_ := 1, kids_ := [2, 1, 1] } : BG), true) else some (({ most_ := 0, own_ := 0, kids_ := ([] : List Int) } : BG), false))))))))
theorem J0 : Al Tryz.prog 168 := fun _ _ => by kernel_rfl
theorem K5 (N : Nat) (w0 : World) (F0 : Mem) (hF : SH w0 F0) (x0 : Int) (r : (BG × Bool)) (h : Ev N x0 = some r) :
  Calls Tryz.prog 168 ([(vi x0)] : List Value).toArray w0 (AJ w0 F0 fun F' v => ∃ (aq0_2 : SG) (nq0_2 : Nat), v = (.tuple #[(.agg (CN r.1 aq0_2 nq0_2)), (.bool r.2)]) /\ LC r.1.kids_.length nq0_2 /\ SlA Ck F' aq0_2 r.1.kids_) := by
 have hs0 := Sj hF
 refine Go 36 Tryz.func168 ?_
 refine Sq (Rg [0, 1] ?_)
 refine Al' 186 #[(vi 0), (vi 0), (.slice none ([] : List Int).length 0)] hs0 (fun b21 w22 hs23 => ?_)
 refine Vs 1 ?_
 refine Nss ?_
 refine Sq (Rg [0] ?_)
 refine Vs 1 ?_
 refine Nt ?_
 refine Bk ?_
 refine Sq (Rg [0, 1] ?_)
 refine Vs 2 ?_
 refine Nt ?_
 refine Cd h (fun hb24 h25 => ?_) (fun hb24 h26 => ?_)
 ·refine Sq (Rg [0, 1, 2] ?_)
  refine Vs 1 ?_
  refine St0 #[(vi 1000000), (vi 1), (.slice none ([] : List Int).length 0)] hs23 (fun w27 hs28 => ?_)
  refine Vs 1 ?_
  refine Nt ?_
  refine Rt ?_
  refine Ai ?_
  refine Ae ?_
  obtain rfl := Aa h25
  exact ⟨rfl, (.tuple #[(.agg #[(vi 1000000), (vi 1), (.slice none ([] : List Int).length 0)]), (.bool true)]), AC (l := [.cell 2 186, .tmp 3]) (by kernel_rfl) (vs := [(.agg #[(vi 1000000), (vi 1), (.slice none ([] : List Int).length 0)]), (.bool true)]) ⟨b21, 0, rfl, Aj (t := 186) (g := true) (s := 3) (by kernel_rfl) hs28.at0 rfl (by decide), ⟨rfl, trivial⟩⟩, (.tuple #[(.agg #[(vi 1000000), (vi 1), (.slice none ([] : List Int).length 0)]), (.bool true)]), F0, rfl, hs28.clear, ⟨none, 0, rfl, Sl, (.inl rfl)⟩⟩
 ·refine Sq (Rg [0, 1] ?_)
  refine Vs 2 ?_
  refine Nt ?_
  refine Cd h26 (fun hb29 h30 => ?_) (fun hb29 h31 => ?_)
  ·refine Sq (Rg [0, 1, 2] ?_)
   refine Vs 1 ?_
   refine St0 #[(vi 13), (vi 1), (.slice none ([] : List Int).length 0)] hs23 (fun w32 hs33 => ?_)
   refine Vs 1 ?_
   refine Nt ?_
   refine Rt ?_
   refine Ai ?_
   refine Ae ?_
   obtain rfl := Aa h30
   exact ⟨rfl, (.tuple #[(.agg #[(vi 13), (vi 1), (.slice none ([] : List Int).length 0)]), (.bool true)]), AC (l := [.cell 2 186, .tmp 3]) (by kernel_rfl) (vs := [(.agg #[(vi 13), (vi 1), (.slice none ([] : List Int).length 0)]), (.bool true)]) ⟨b21, 0, rfl, Aj (t := 186) (g := true) (s := 3) (by kernel_rfl) hs33.at0 rfl (by decide), ⟨rfl, trivial⟩⟩, (.tuple #[(.agg #[(vi 13), (vi 1), (.slice none ([] : List Int).length 0)]), (.bool true)]), F0, rfl, hs33.clear, ⟨none, 0, rfl, Sl, (.inl rfl)⟩⟩
  ·refine Sq (Rg [0, 1] ?_)
   refine Vs 2 ?_
   refine Nt ?_
   refine Cd h31 (fun hb34 h35 => ?_) (fun hb34 h36 => ?_)
   ·refine Sq (Rg [0, 1, 2, 3] ?_)
    refine Bs 3 [(vi 2)] hs23 (fun b37 w38 hs39 => ?_)
    have hr41 : Aw Ck 3 F0 (some ⟨b37, 0, none⟩) 1 [2] (some b37, .cells ([(vi 2)] : List Value).toArray 3 (0, 0)) := SC ⟨rfl, rfl⟩ (by simp)
    refine Vs 1 ?_
    refine St1 #[(vi 0), (vi 2), (.slice (some ⟨b37, 0, none⟩) [2].length 1)] hs39 (fun w42 hs43 => ?_)
    refine Vs 1 ?_
    refine Nt ?_
    refine Rt ?_
    refine Ai ?_
    refine Ae ?_
    have hb47 := SB hr41
    obtain ⟨F1, hs44, le45, hs46⟩ := hs43.fr0 hr41
    obtain rfl := Aa h35
    exact ⟨rfl, (.tuple #[(.agg #[(vi 0), (vi 2), (.slice (some ⟨b37, 0, none⟩) [2].length 1)]), (.bool true)]), AC (l := [.cell 2 186, .tmp 3]) (by kernel_rfl) (vs := [(.agg #[(vi 0), (vi 2), (.slice (some ⟨b37, 0, none⟩) [2].length 1)]), (.bool true)]) ⟨b21, 0, rfl, Aj (t := 186) (g := true) (s := 3) (by kernel_rfl) hs44.at0 rfl (by decide), ⟨rfl, trivial⟩⟩, (.tuple #[(.agg #[(vi 0), (vi 2), (.slice (some ⟨b37, 0, none⟩) [2].length 1)]), (.bool true)]), F1, rfl, hs44.clear, ⟨(some ⟨b37, 0, none⟩), 1, rfl, hb47, hs46⟩⟩
   ·refine Sq ?_
    refine Sq (Rg [0, 1] ?_)
    refine Vs 2 ?_
    refine Nt ?_
    refine So (fun f w => ∃ (F2 : Mem), HS w0 F0 w F2 [(sb b21 #[(vi 0), (vi 0), (.slice none ([] : List Int).length 0)] 186)] /\ Sh F0 F2 /\ FI f [] [(2, (pt b21 0)), (4, (vi x0)), (15, (.bool (bif (x0 == 4) then (x0 == 4) else (x0 == 5))))]) ?_ ?_
    ·refine Cp (x0 == 4) (fun hb55 => ?_) (fun hb55 => ?_)
     ·refine Sc ?_
      exact .inl ⟨rfl, F0, hs23, (Si _), (fJ ⟨rfl, rfl, (congrArg Value.bool (Er hb55 rfl)), trivial⟩)⟩
     ·refine Rg [0, 1] ?_
      refine Vs 2 ?_
      refine Sd ?_
      exact .inl ⟨rfl, F0, hs23, (Si _), (fJ ⟨rfl, rfl, (congrArg Value.bool (Es hb55 rfl)), trivial⟩)⟩
    ·rintro f w48 ⟨F2, hs49, le50, ⟨_, rfl⟩⟩
     refine Ac ?_
     refine Cd h36 (fun hb56 h57 => ?_) (fun hb56 h58 => ?_)
     ·refine Sq (Rg [0, 1, 2, 3] ?_)
      refine Bs 3 [(vi 2), (vi 2)] hs49 (fun b59 w60 hs61 => ?_)
      have hr63 : Aw Ck 3 F2 (some ⟨b59, 0, none⟩) 2 [2, 2] (some b59, .cells ([(vi 2), (vi 2)] : List Value).toArray 3 (0, 0)) := SC ⟨rfl, ⟨rfl, rfl⟩⟩ (by simp)
      refine Vs 1 ?_
      refine St1 #[(vi 0), (vi 2), (.slice (some ⟨b59, 0, none⟩) [2, 2].length 2)] hs61 (fun w64 hs65 => ?_)
      refine Vs 1 ?_
      refine Nt ?_
      refine Rt ?_
      refine Ai ?_
      refine Ae ?_
      have hb69 := SB hr63
      obtain ⟨F3, hs66, le67, hs68⟩ := hs65.fr0 hr63
      obtain rfl := Aa h57
      exact ⟨rfl, (.tuple #[(.agg #[(vi 0), (vi 2), (.slice (some ⟨b59, 0, none⟩) [2, 2].length 2)]), (.bool true)]), AC (l := [.cell 2 186, .tmp 3]) (by kernel_rfl) (vs := [(.agg #[(vi 0), (vi 2), (.slice (some ⟨b59, 0, none⟩) [2, 2].length 2)]), (.bool true)]) ⟨b21, 0, rfl, Aj (t := 186) (g := true) (s := 3) (by kernel_rfl) hs66.at0 rfl (by decide), ⟨rfl, trivial⟩⟩, (.tuple #[(.agg #[(vi 0), (vi 2), (.slice (some ⟨b59, 0, none⟩) [2, 2].length 2)]), (.bool true)]), F3, rfl, hs66.clear, ⟨(some ⟨b59, 0, none⟩), 2, rfl, hb69, hs68⟩⟩
     ·refine Sq ?_
      refine Sq (Rg [0, 1] ?_)
      refine Vs 2 ?_
      refine Nt ?_
      refine So (fun f w => ∃ (F4 : Mem), HS w0 F0 w F4 [(sb b21 #[(vi 0), (vi 0), (.slice none ([] : List Int).length 0)] 186)] /\ Sh F2 F4 /\ FI f [] [(2, (pt b21 0)), (4, (vi x0)), (20, (.bool (bif (x0 == 6) then (x0 == 6) else (x0 == 7))))]) ?_ ?_
      ·refine Cp (x0 == 6) (fun hb77 => ?_) (fun hb77 => ?_)
       ·refine Sc ?_
        exact .inl ⟨rfl, F2, hs49, (Si _), (fJ ⟨rfl, rfl, (congrArg Value.bool (Er hb77 rfl)), trivial⟩)⟩
       ·refine Rg [0, 1] ?_
        refine Vs 2 ?_
        refine Sd ?_
        exact .inl ⟨rfl, F2, hs49, (Si _), (fJ ⟨rfl, rfl, (congrArg Value.bool (Es hb77 rfl)), trivial⟩)⟩
      ·rintro f w70 ⟨F4, hs71, le72, ⟨_, rfl⟩⟩
       refine Ac ?_
       refine Cd h58 (fun hb78 h79 => ?_) (fun hb78 h80 => ?_)
       ·refine Sq (Rg [0, 1, 2, 3] ?_)
        refine Bs 3 [(vi 1), (vi 1)] hs71 (fun b81 w82 hs83 => ?_)
        have hr85 : Aw Ck 3 F4 (some ⟨b81, 0, none⟩) 2 [1, 1] (some b81, .cells ([(vi 1), (vi 1)] : List Value).toArray 3 (0, 0)) := SC ⟨rfl, ⟨rfl, rfl⟩⟩ (by simp)
        refine Vs 1 ?_
        refine St1 #[(vi 0), (vi 2), (.slice (some ⟨b81, 0, none⟩) [1, 1].length 2)] hs83 (fun w86 hs87 => ?_)
        refine Vs 1 ?_
        refine Nt ?_
        refine Rt ?_
        refine Ai ?_
        refine Ae ?_
        have hb91 := SB hr85
        obtain ⟨F5, hs88, le89, hs90⟩ := hs87.fr0 hr85
        obtain rfl := Aa h79
        exact ⟨rfl, (.tuple #[(.agg #[(vi 0), (vi 2), (.slice (some ⟨b81, 0, none⟩) [1, 1].length 2)]), (.bool true)]), AC (l := [.cell 2 186, .tmp 3]) (by kernel_rfl) (vs := [(.agg #[(vi 0), (vi 2), (.slice (some ⟨b81, 0, none⟩) [1, 1].length 2)]), (.bool true)]) ⟨b21, 0, rfl, Aj (t := 186) (g := true) (s := 3) (by kernel_rfl) hs88.at0 rfl (by decide), ⟨rfl, trivial⟩⟩, (.tuple #[(.agg #[(vi 0), (vi 2), (.slice (some ⟨b81, 0, none⟩) [1, 1].length 2)]), (.bool true)]), F5, rfl, hs88.clear, ⟨(some ⟨b81, 0, none⟩), 2, rfl, hb91, hs90⟩⟩
       ·refine Sq ?_
        refine Sq (Rg [0, 1] ?_)
        refine Vs 2 ?_
        refine Nt ?_
        refine So (fun f w => ∃ (F6 : Mem), HS w0 F0 w F6 [(sb b21 #[(vi 0), (vi 0), (.slice none ([] : List Int).length 0)] 186)] /\ Sh F4 F6 /\ FI f [] [(2, (pt b21 0)), (4, (vi x0)), (25, (.bool (bif (x0 == 8) then (x0 == 8) else (bif (x0 == 9) then (x0 == 9) else (x0 == 10)))))]) ?_ ?_
        ·refine Cp (x0 == 8) (fun hb99 => ?_) (fun hb99 => ?_)
         ·refine Sc ?_
          exact .inl ⟨rfl, F4, hs71, (Si _), (fJ ⟨rfl, rfl, (congrArg Value.bool (Er hb99 rfl)), trivial⟩)⟩
         ·refine Sq (Rg [0, 1] ?_)
          refine Vs 2 ?_
          refine Nt ?_
          refine So (fun f w => ∃ (F7 : Mem), HS w0 F0 w F7 [(sb b21 #[(vi 0), (vi 0), (.slice none ([] : List Int).length 0)] 186)] /\ Sh F4 F7 /\ FI f [] [(2, (pt b21 0)), (4, (vi x0)), (25, (.bool (bif (x0 == 9) then (x0 == 9) else (x0 == 10))))]) ?_ ?_
          ·refine Cp (x0 == 9) (fun hb107 => ?_) (fun hb107 => ?_)
           ·refine Sc ?_
            exact .inl ⟨rfl, F4, hs71, (Si _), (fJ ⟨rfl, rfl, (congrArg Value.bool (Er hb107 rfl)), trivial⟩)⟩
           ·refine Rg [0, 1] ?_
            refine Vs 2 ?_
            refine Sd ?_
            exact .inl ⟨rfl, F4, hs71, (Si _), (fJ ⟨rfl, rfl, (congrArg Value.bool (Es hb107 rfl)), trivial⟩)⟩
          ·rintro f w100 ⟨F7, hs101, le102, ⟨_, rfl⟩⟩
           exact .inl ⟨rfl, F7, hs101, le102, (fJ ⟨rfl, rfl, (congrArg Value.bool (Es hb99 rfl)), trivial⟩)⟩
        ·rintro f w92 ⟨F6, hs93, le94, ⟨_, rfl⟩⟩
         refine Ac ?_
         refine Cd h80 (fun hb108 h109 => ?_) (fun hb108 h110 => ?_)
         ·refine Sq (Rg [0, 1, 2, 3] ?_)
          refine Bs 3 [(vi 1), (vi 1)] hs93 (fun b111 w112 hs113 => ?_)
          have hr115 : Aw Ck 3 F6 (some ⟨b111, 0, none⟩) 2 [1, 1] (some b111, .cells ([(vi 1), (vi 1)] : List Value).toArray 3 (0, 0)) := SC ⟨rfl, ⟨rfl, rfl⟩⟩ (by simp)
          refine Vs 1 ?_
          refine St1 #[(vi 0), (vi 1), (.slice (some ⟨b111, 0, none⟩) [1, 1].length 2)] hs113 (fun w116 hs117 => ?_)
          refine Vs 1 ?_
          refine Nt ?_
          refine Rt ?_
          refine Ai ?_
          refine Ae ?_
          have hb121 := SB hr115
          obtain ⟨F8, hs118, le119, hs120⟩ := hs117.fr0 hr115
          obtain rfl := Aa h109
          exact ⟨rfl, (.tuple #[(.agg #[(vi 0), (vi 1), (.slice (some ⟨b111, 0, none⟩) [1, 1].length 2)]), (.bool true)]), AC (l := [.cell 2 186, .tmp 3]) (by kernel_rfl) (vs := [(.agg #[(vi 0), (vi 1), (.slice (some ⟨b111, 0, none⟩) [1, 1].length 2)]), (.bool true)]) ⟨b21, 0, rfl, Aj (t := 186) (g := true) (s := 3) (by kernel_rfl) hs118.at0 rfl (by decide), ⟨rfl, trivial⟩⟩, (.tuple #[(.agg #[(vi 0), (vi 1), (.slice (some ⟨b111, 0, none⟩) [1, 1].length 2)]), (.bool true)]), F8, rfl, hs118.clear, ⟨(some ⟨b111, 0, none⟩), 2, rfl, hb121, hs120⟩⟩
         ·refine Sq (Rg [0, 1] ?_)
          refine Vs 2 ?_
          refine Nt ?_
          refine Cd h110 (fun hb122 h123 => ?_) (fun hb122 h124 => ?_)
          ·refine Sq (Rg [0, 1, 2, 3] ?_)
           refine Bs 3 [(vi 2), (vi 1), (vi 1)] hs93 (fun b125 w126 hs127 => ?_)
           have hr129 : Aw Ck 3 F6 (some ⟨b125, 0, none⟩) 3 [2, 1, 1] (some b125, .cells ([(vi 2), (vi 1), (vi 1)] : List Value).toArray 3 (0, 0)) := SC ⟨rfl, ⟨rfl, ⟨rfl, rfl⟩⟩⟩ (by simp)
           refine Vs 1 ?_
           refine St1 #[(vi 0), (vi 1), (.slice (some ⟨b125, 0, none⟩) [2, 1, 1].length 3)] hs127 (fun w130 hs131 => ?_)
           refine Vs 1 ?_
           refine Nt ?_
           refine Rt ?_
           refine Ai ?_
           refine Ae ?_
           have hb135 := SB hr129
           obtain ⟨F9, hs132, le133, hs134⟩ := hs131.fr0 hr129
           obtain rfl := Aa h123
           exact ⟨rfl, (.tuple #[(.agg #[(vi 0), (vi 1), (.slice (some ⟨b125, 0, none⟩) [2, 1, 1].length 3)]), (.bool true)]), AC (l := [.cell 2 186, .tmp 3]) (by kernel_rfl) (vs := [(.agg #[(vi 0), (vi 1), (.slice (some ⟨b125, 0, none⟩) [2, 1, 1].length 3)]), (.bool true)]) ⟨b21, 0, rfl, Aj (t := 186) (g := true) (s := 3) (by kernel_rfl) hs132.at0 rfl (by decide), ⟨rfl, trivial⟩⟩, (.tuple #[(.agg #[(vi 0), (vi 1), (.slice (some ⟨b125, 0, none⟩) [2, 1, 1].length 3)]), (.bool true)]), F9, rfl, hs132.clear, ⟨(some ⟨b125, 0, none⟩), 3, rfl, hb135, hs134⟩⟩
          ·refine Sc ?_
           refine Aq ?_
           refine Ac ?_
           refine Sq (Rg [0, 1, 2] ?_)
           refine Vs 1 ?_
           refine St0 #[(vi 0), (vi 0), (.slice none ([] : List Int).length 0)] hs93 (fun w136 hs137 => ?_)
           refine Vs 1 ?_
           refine Nt ?_
           refine Rt ?_
           obtain rfl := Aa h124
           exact ⟨rfl, (.tuple #[(.agg #[(vi 0), (vi 0), (.slice none ([] : List Int).length 0)]), (.bool false)]), AC (l := [.cell 2 186, .tmp 3]) (by kernel_rfl) (vs := [(.agg #[(vi 0), (vi 0), (.slice none ([] : List Int).length 0)]), (.bool false)]) ⟨b21, 0, rfl, Aj (t := 186) (g := true) (s := 3) (by kernel_rfl) hs137.at0 rfl (by decide), ⟨rfl, trivial⟩⟩, (.tuple #[(.agg #[(vi 0), (vi 0), (.slice none ([] : List Int).length 0)]), (.bool false)]), F6, rfl, hs137.clear, ⟨none, 0, rfl, Sl, (.inl rfl)⟩⟩
def MM (sR113 : Expr -> Option Int) : Prop := ∀ (w0 : World) (F0 : Mem) (hF : SH w0 F0) (x0 : Expr) (a0_2 : SG) (n0_2 : Nat) (hb0_2 : LC x0.Kids.length n0_2) (hs0_2 : SlA Ao F0 a0_2 x0.Kids) (r : Int), sR113 x0 = some r -> Calls Tryz.prog 113 ([(.agg #[(.int .i64 x0.Op), (.int .i64 x0.Value), (.slice a0_2 x0.Kids.length n0_2)])] : List Value).toArray w0 (AJ w0 F0 fun F' v => v = (.int .i64 r))
theorem C5 : Al Tryz.prog 113 := fun _ _ => by kernel_rfl
def Cs (N : Nat) (sR113 : Expr -> Option Int) (x0 : Expr) (r24 : (BG × Bool)) : Int -> Option (Bi Int Int) := fun s53 =>
 (bif (decide (s53 < (x0.Kids.length : Int))) then ((idx x0.Kids s53).bind fun x77 => (((idx r24.1.kids_ s53).bind fun x110 => ((sR113 x77).bind fun r124 => some (r124 != x110))).bind fun j101 => (bif j101 then some (.ret 0) else some (.next (W64 (s53 + 1)))))) else some (.done s53))
def Df (N : Nat) (sR113 : Expr -> Option Int) (x0 : Expr) : Option Int :=
 ((Ev N x0.Op).bind fun r24 => (bif ((!r24.2) || ((decide (x0.Value < 0)) || ((decide (x0.Value > r24.1.most_)) || ((x0.Kids.length : Int) != (r24.1.kids_.length : Int))))) then some 0 else ((A0 (Cs N sR113 x0 r24) N 0).bind fun o => o.k (fun r => some r) (fun s62 => some r24.1.own_))))
theorem Ka (N : Nat) (sR113 : Expr -> Option Int) (hsR113 : MM sR113) (w0 : World) (F0 : Mem) (hF : SH w0 F0) (x0 : Expr) (a0_2 : SG) (n0_2 : Nat) (hb0_2 : LC x0.Kids.length n0_2) (hs0_2 : SlA Ao F0 a0_2 x0.Kids) (r : Int) (h : Df N sR113 x0 = some r) :
  Calls Tryz.prog 113 ([(.agg (Ag x0 a0_2 n0_2))] : List Value).toArray w0 (AJ w0 F0 fun F' v => v = (vi r)) := by
 have hs0 := Sj hF
 refine Go 55 Tryz.func113 ?_
 refine Sq (Rg [0, 1] ?_)
 refine Bx' 33 (Ag x0 a0_2 n0_2) hs0 (fun b21 w22 hs23 => ?_)
 refine Vs 1 ?_
 refine Nss (Rg [0, 1, 2, 3, 4, 5, 6, 7, 8] ?_)
 refine Vs 1 ?_
 refine Ld hs23.at0 ?_
 obtain ⟨r24, hr25, h26⟩ := bind_some h
 refine Cl' J0 hs23 (K5 N w22 F0 hs23.pers x0.Op _ hr25) ?_
 rintro _ F1 w28 hs29 le30 ⟨ar24_0_2, nr24_0_2, rfl, hbr24_0_2, hsr24_0_2⟩
 refine Vs 3 ?_
 refine Al' 186 #[(vi 0), (vi 0), (.slice none ([] : List Int).length 0)] hs29 (fun b32 w33 hs34 => ?_)
 refine St0 (CN r24.1 ar24_0_2 nr24_0_2) hs34 (fun w35 hs36 => ?_)
 refine Vs 1 ?_
 refine Nss ?_
 refine Sq (Rg [0, 1, 2, 3, 4, 5, 6, 7, 8, 9, 10, 11, 12, 13, 14, 15, 16, 17, 18, 19, 20, 21, 22] ?_)
 refine Sn (fun f w => ∃ (F2 : Mem), HS w0 F0 w F2 [(sb b32 (CN r24.1 ar24_0_2 nr24_0_2) 186), (sb b21 (Ag x0 a0_2 n0_2) 33)] /\ Sh F1 F2 /\ FI f [] [(1, (pt b21 0)), (3, (pt b32 0)), (35, (.bool ((!r24.2) || ((decide (x0.Value < 0)) || ((decide (x0.Value > r24.1.most_)) || ((x0.Kids.length : Int) != (r24.1.kids_.length : Int)))))))]) ?_ ?_
 ·refine Vs 3 ?_
  refine Sm (!r24.2) (fun hb44 => ?_) (fun hb44 => ?_)
  ·refine Ss hb44 3 ?_
   refine Pk1 hb44 ?_
   refine Vs 1 ?_
   refine Ss (rfl : true = true) 5 ?_
   refine Pk1 (rfl : true = true) ?_
   refine Vs 1 ?_
   refine Ss (rfl : true = true) 7 ?_
   refine Pk1 (rfl : true = true) ?_
   exact Sd ⟨rfl, F1, hs36, (Si _), (fJ ⟨rfl, rfl, (congrArg Value.bool (FL hb44 rfl)), trivial⟩)⟩
  ·refine Vgs hb44 1 ?_
   refine Lg hb44 hs36.at1 ?_
   refine Vgs hb44 1 ?_
   refine Pk0 hb44 ?_
   refine Vs 1 ?_
   refine Sm (decide (x0.Value < 0)) (fun hb45 => ?_) (fun hb45 => ?_)
   ·refine Ss hb45 5 ?_
    refine Pk1 hb45 ?_
    refine Vs 1 ?_
    refine Ss (rfl : true = true) 7 ?_
    refine Pk1 (rfl : true = true) ?_
    exact Sd ⟨rfl, F1, hs36, (Si _), (fJ ⟨rfl, rfl, (congrArg Value.bool (BQ hb44 (FL hb45 rfl))), trivial⟩)⟩
   ·refine Vgs hb45 1 ?_
    refine Lg hb45 hs36.at1 ?_
    refine Vgs hb45 1 ?_
    refine Lg hb45 hs36.at0 ?_
    refine Vgs hb45 1 ?_
    refine Pk0 hb45 ?_
    refine Vs 1 ?_
    refine Sm (decide (x0.Value > r24.1.most_)) (fun hb46 => ?_) (fun hb46 => ?_)
    ·refine Ss hb46 7 ?_
     refine Pk1 hb46 ?_
     exact Sd ⟨rfl, F1, hs36, (Si _), (fJ ⟨rfl, rfl, (congrArg Value.bool (BQ hb44 (BQ hb45 (FL hb46 rfl)))), trivial⟩)⟩
    ·refine Vgs hb46 1 ?_
     refine Lg hb46 hs36.at1 ?_
     refine Vgs hb46 2 ?_
     refine Lg hb46 hs36.at0 ?_
     refine Vgs hb46 2 ?_
     refine Pk0 hb46 ?_
     exact Sd ⟨rfl, F1, hs36, (Si _), (fJ ⟨rfl, rfl, (congrArg Value.bool (BQ hb44 (BQ hb45 (BQ hb46 rfl)))), trivial⟩)⟩
 ·rintro f w37 ⟨F2, hs38, le39, ⟨_, rfl⟩⟩
  refine Ac ?_
  refine Cd h26 (fun hb47 h48 => ?_) (fun hb47 h49 => ?_)
  ·refine Sq (Rg [0] ?_)
   refine Vs 1 ?_
   refine Nt ?_
   refine Rt ?_
   refine Ae ?_
   obtain rfl := Aa h48
   exact Re [(vi 0)] hs38 rfl
  ·refine Sc ?_
   refine Ac ?_
   refine Sq ?_
   refine Sq (Rg [0, 1, 2, 3] ?_)
   refine Vs 1 ?_
   refine Ld hs38.at1 ?_
   refine Vs 2 ?_
   refine Nt ?_
   obtain ⟨o50, ho51, h52⟩ := bind_some h49
   refine So (fun f w => ∃ (s62 : Int) (F4 : Mem), o50 = .done s62 /\ HS w0 F0 w F4 [(sb b32 (CN r24.1 ar24_0_2 nr24_0_2) 186)] /\ Sh F2 F4 /\ FI f [] [(3, (pt b32 0))]) ?_ ?_
   ·refine Bk ?_
    refine Sg (by kernel_rfl) (fun m f w => ∃ (s53 : Int) (F3 : Mem), A0 (Cs N sR113 x0 r24) m s53 = some o50 /\ HS w0 F0 w F3 [(sb b32 (CN r24.1 ar24_0_2 nr24_0_2) 186)] /\ Sh F2 F3 /\ FI f [] [(3, (pt b32 0)), (37, (.slice a0_2 x0.Kids.length n0_2)), (38, (vi (x0.Kids.length : Int))), (39, (vi s53))]) N ⟨0, F2, ho51, hs38.dr1, (Si _), fI⟩ ?_
    rintro m68 f w54 ⟨s53, F3, hit69, hs55, le56, ⟨_, rfl⟩⟩
    obtain ⟨m70, fl71, rfl, hb72, hnx73⟩ := AQ hit69
    refine Sq (Rg [0] ?_)
    refine Vs 1 ?_
    refine Nss ?_
    refine Cd hb72 (fun hb74 h75 => ?_) (fun hb74 h76 => ?_)
    ·refine Sc ?_
     refine Ac ?_
     refine Sq ?_
     refine Bk ?_
     refine Sq (Rg [0, 1, 2, 3, 4, 5] ?_)
     refine Vs 1 ?_
     obtain ⟨x77, hx78, h80⟩ := bind_some h75
     obtain ⟨hi79, hx78'⟩ := Ap hx78
     obtain ⟨b81, o82, C83, E84, fz85, rfl, hF87, hE88⟩ := Su (Sk hs0_2 ((le30.trans le39).trans le56)) hx78'
     obtain ⟨ae89_2, ne89_2, hc90, hbe89_2, hse89_2⟩ := (Az (hE88 _ _ hx78'))
     refine Ix hi79 ?_
     refine Lx 0 (hs55.pers _ _ hF87) hc90 ?_
     refine Al' 33 #[(vi 0), (vi 0), (.slice none ([] : List Expr).length 0)] hs55 (fun b91 w92 hs93 => ?_)
     refine Vs 1 ?_
     refine St0 (Ag x77 ae89_2 ne89_2) hs93 (fun w94 hs95 => ?_)
     refine Nss ?_
     obtain ⟨j101, hj108, h109⟩ := bind_some h80
     refine RD 8 8 [(sb b91 (Ag x77 ae89_2 ne89_2) 33), (sb b32 (CN r24.1 ar24_0_2 nr24_0_2) 186)] [] hs95 (fun f w => ∃ (F5 : Mem), HS w0 F0 w F5 [(sb b32 (CN r24.1 ar24_0_2 nr24_0_2) 186)] /\ Sh F3 F5 /\ FI f [] [(3, (pt b32 0)), (37, (.slice (some ⟨b81, o82, none⟩) x0.Kids.length n0_2)), (38, (vi (x0.Kids.length : Int))), (39, (vi s53)), (51, (.bool j101))]) (fun wd96 hw97 => ?_) ?_
     ·refine Dl 0 (fun _ hq => (hq.1.2 0 _ _ rfl)) ?_
      refine Dv [2] ?_
      refine Dl 3 (fun _ hq => (hq.1.2 1 _ _ rfl)) ?_
      refine Dv [4] ?_
      obtain ⟨x110, hx111, h113⟩ := bind_some hj108
      obtain ⟨hi112, hx111'⟩ := Ap hx111
      obtain ⟨b114, o115, C116, E117, fz118, rfl, hF120, hE121⟩ := Su (Sk hsr24_0_2 (le39.trans le56)) hx111'
      have hc123 := hE121 _ _ hx111'
      refine Di 5 hi112 ?_
      refine Dx 6 0 (fun _ hq => hq.1.1 _ _ hF120) hc123 ?_
      refine D1 1 ?_
      obtain ⟨r124, hr125, h126⟩ := bind_some h113
      refine DCl C5 hw97 (hsR113 wd96 F3 hw97.pers x77 ae89_2 ne89_2 hbe89_2 hse89_2 _ hr125) ?_
      rintro _ F6 w128 hs129 le130 rfl
      refine Dv [7] ?_
      obtain rfl := Aa h126
      exact SA (by kernel_rfl) ⟨F6, hs129.dr0, le130, fI⟩
     ·rintro f w98 ⟨F5, hs99, le100, ⟨_, rfl⟩⟩
      refine Ac ?_
      refine Cd h109 (fun hb132 h133 => ?_) (fun hb132 h134 => ?_)
      ·refine Sq (Rg [0] ?_)
       refine Vs 1 ?_
       refine Nt ?_
       refine Rt ?_
       refine Ai ?_
       refine Ae ?_
       refine Ae ?_
       refine Ai ?_
       have hret := BJ h133 hnx73
       subst hret
       refine .inr ?_
       refine Ae ?_
       obtain rfl := Aa h52
       exact Re [(vi 0)] hs99 rfl
      ·refine Sc ?_
       refine Aq ?_
       refine Ac ?_
       refine Rg [0, 1] ?_
       refine Vs 2 ?_
       refine Sd ?_
       have hn135 := AM h134 hnx73
       exact ⟨m70, Nat.lt_succ_self _, (W64 (s53 + 1)), F5, hn135, hs99, (le56.trans le100), fI⟩
    ·refine Ex ?_
     refine Av ?_
     refine Av ?_
     refine AE rfl ?_
     have ho136 := AX h76 hnx73
     exact .inl ⟨rfl, s53, F3, ho136, hs55, le56, fI⟩
   ·rintro f w63 ⟨s62, F4, rfl, hs64, le65, ⟨_, rfl⟩⟩
    have h137 := Bo h52
    refine Ac ?_
    refine Sq (Rg [0, 1, 2] ?_)
    refine Vs 1 ?_
    refine Ld hs64.at0 ?_
    refine Vs 1 ?_
    refine Nt ?_
    refine Rt ?_
    obtain rfl := Aa h137
    exact Re [(vi r24.1.own_)] hs64 rfl
structure Rk where
 q113 : Expr -> Option Int
def HX (N : Nat) : Nat -> Rk
 | 0 => ⟨fun _ => none⟩
 | k + 1 => ⟨Df N (HX N k).q113⟩
theorem LY (N : Nat) : ∀ k, MM (HX N k).q113
 | 0 => (by unfold MM; intros; rename_i h; cases h)
 | k + 1 => by
  have ih := LY N k
  exact @Ka N (HX N k).q113 ih
def Dg (N : Nat) (x0 : Expr) : Option Int := (HX N N).q113 x0
theorem EV (N : Nat) (w0 : World) (F0 : Mem) (hF : SH w0 F0) (x0 : Expr) (a0_2 : SG) (n0_2 : Nat) (hb0_2 : LC x0.Kids.length n0_2) (hs0_2 : SlA Ao F0 a0_2 x0.Kids) (r : Int) (h : Dg N x0 = some r) :
  Calls Tryz.prog 113 ([(.agg #[(.int .i64 x0.Op), (.int .i64 x0.Value), (.slice a0_2 x0.Kids.length n0_2)])] : List Value).toArray w0 (AJ w0 F0 fun F' v => v = (.int .i64 r)) := (LY N N) w0 F0 hF x0 a0_2 n0_2 hb0_2 hs0_2 r h
def Ja (sR117 : Expr -> Option Int) : Prop := ∀ (w0 : World) (F0 : Mem) (hF : SH w0 F0) (x0 : Expr) (a0_2 : SG) (n0_2 : Nat) (hb0_2 : LC x0.Kids.length n0_2) (hs0_2 : SlA Ao F0 a0_2 x0.Kids) (r : Int), sR117 x0 = some r -> Calls Tryz.prog 117 ([(.agg #[(.int .i64 x0.Op), (.int .i64 x0.Value), (.slice a0_2 x0.Kids.length n0_2)])] : List Value).toArray w0 (AJ w0 F0 fun F' v => v = (.int .i64 r))
theorem B7 : Al Tryz.prog 117 := fun _ _ => by kernel_rfl
def MI (sR170 : Expr -> Int -> Option Bool) : Prop := ∀ (w0 : World) (F0 : Mem) (hF : SH w0 F0) (x0 : Expr) (a0_2 : SG) (n0_2 : Nat) (hb0_2 : LC x0.Kids.length n0_2) (hs0_2 : SlA Ao F0 a0_2 x0.Kids) (x1 : Int) (r : Bool), sR170 x0 x1 = some r -> Calls Tryz.prog 170 ([(.agg #[(.int .i64 x0.Op), (.int .i64 x0.Value), (.slice a0_2 x0.Kids.length n0_2)]), (.int .i64 x1)] : List Value).toArray w0 (AJ w0 F0 fun F' v => v = (.bool r))
theorem Gn : Al Tryz.prog 170 := fun _ _ => by kernel_rfl
def MH (sR171 : Expr -> Int -> Option Bool) : Prop := ∀ (w0 : World) (F0 : Mem) (hF : SH w0 F0) (x0 : Expr) (a0_2 : SG) (n0_2 : Nat) (hb0_2 : LC x0.Kids.length n0_2) (hs0_2 : SlA Ao F0 a0_2 x0.Kids) (x1 : Int) (r : Bool), sR171 x0 x1 = some r -> Calls Tryz.prog 171 ([(.agg #[(.int .i64 x0.Op), (.int .i64 x0.Value), (.slice a0_2 x0.Kids.length n0_2)]), (.int .i64 x1)] : List Value).toArray w0 (AJ w0 F0 fun F' v => v = (.bool r))
theorem FR : Al Tryz.prog 171 := fun _ _ => by kernel_rfl
def Ew (N : Nat) (sR117 : Expr -> Option Int) (sR170 : Expr -> Int -> Option Bool) (sR171 : Expr -> Int -> Option Bool) (x0 : Expr) : Option Int :=
 ((bif (x0.Op == 1) then some ((((x0.Kids.length : Int) == 0) && ((decide (x0.Value >= 0)) && (decide (x0.Value <= 1000000)))), false) else ((bif (x0.Op == 2) then some ((((x0.Kids.length : Int) == 0) && ((decide (x0.Value >= 0)) && (decide (x0.Value < 14)))), false) else ((bif (x0.Op == 3) then ((sR170 x0 1).bind fun r76 => some (false, r76)) else ((bif (bif (x0.Op == 4) then (x0.Op == 4) else (x0.Op == 5)) then ((sR170 x0 2).bind fun r106 => some (false, r106)) else ((bif (bif (x0.Op == 6) then (x0.Op == 6) else (x0.Op == 7)) then ((sR171 x0 2).bind fun r136 => some (false, r136)) else ((bif (bif (x0.Op == 8) then (x0.Op == 8) else (bif (x0.Op == 9) then (x0.Op == 9) else (x0.Op == 10))) then ((sR171 x0 2).bind fun r176 => some r176) else ((bif (x0.Op == 11) then ((bif (x0.Value == 0) then (bif ((x0.Kids.length : Int) == 3) then ((idx x0.Kids 0).bind fun x211 => ((sR117 x211).bind fun r225 => (bif (r225 == 2) then ((idx x0.Kids 1).bind fun x236 => ((sR117 x236).bind fun r242 => (bif (r242 == 1) then ((idx x0.Kids 2).bind fun x253 => ((sR117 x253).bind fun r259 => some (r259 == 1))) else some false))) else some false))) else some false) else some false).bind fun j199 => some j199) else some false).bind fun j187 => some j187)).bind fun j167 => some (j167, false))).bind fun j127 => some (j127.1, j127.2))).bind fun j97 => some (j97.1, j97.2))).bind fun j67 => some (j67.1, j67.2))).bind fun j47 => some (j47.1, j47.2))).bind fun j27 => (bif j27.1 then some 1 else (bif j27.2 then some 2 else some 0)))
theorem LN (N : Nat) (sR117 : Expr -> Option Int) (hsR117 : Ja sR117) (sR170 : Expr -> Int -> Option Bool) (hsR170 : MI sR170) (sR171 : Expr -> Int -> Option Bool) (hsR171 : MH sR171) (w0 : World) (F0 : Mem) (hF : SH w0 F0) (x0 : Expr) (a0_2 : SG) (n0_2 : Nat) (hb0_2 : LC x0.Kids.length n0_2) (hs0_2 : SlA Ao F0 a0_2 x0.Kids) (r : Int) (h : Ew N sR117 sR170 sR171 x0 = some r) :
  Calls Tryz.prog 117 ([(.agg (Ag x0 a0_2 n0_2))] : List Value).toArray w0 (AJ w0 F0 fun F' v => v = (vi r)) := by
 have hs0 := Sj hF
 refine Go 96 Tryz.func117 ?_
 refine Sq (Rg [0, 1] ?_)
 refine Bx' 33 (Ag x0 a0_2 n0_2) hs0 (fun b21 w22 hs23 => ?_)
 refine Vs 1 ?_
 refine Nss (Rg [0] ?_)
 refine Vs 1 ?_
 refine Nss (Rg [0] ?_)
 refine Vs 1 ?_
 refine Nss ?_
 refine Sq (Rg [0, 1] ?_)
 refine Vs 1 ?_
 refine Ld hs23.at0 ?_
 refine Nt ?_
 refine Bk ?_
 refine Sq (Rg [0, 1] ?_)
 refine Vs 2 ?_
 refine Nt ?_
 obtain ⟨j27, hj31, h32⟩ := bind_some h
 refine So (fun f w => ∃ (F1 : Mem), HS w0 F0 w F1 [] /\ Sh F0 F1 /\ FI f [] [(3, (.bool j27.1)), (4, (.bool j27.2))]) ?_ ?_
 ·refine Cd hj31 (fun hb33 h34 => ?_) (fun hb33 h35 => ?_)
  ·refine Rg [0, 1, 2, 3, 4, 5, 6, 7, 8, 9, 10, 11, 12, 13, 14] ?_
   refine Sn (fun f w => ∃ (F2 : Mem), HS w0 F0 w F2 [] /\ Sh F0 F2 /\ FI f [] [(3, (.bool (((x0.Kids.length : Int) == 0) && ((decide (x0.Value >= 0)) && (decide (x0.Value <= 1000000)))))), (4, (.bool false))]) ?_ ?_
   ·refine Vs 1 ?_
    refine Ld hs23.at0 ?_
    refine Vs 3 ?_
    refine Sm ((x0.Kids.length : Int) == 0) (fun hb42 => ?_) (fun hb42 => ?_)
    ·refine Vgs hb42 1 ?_
     refine Lg hb42 hs23.at0 ?_
     refine Vgs hb42 1 ?_
     refine Pk1 hb42 ?_
     refine Vs 1 ?_
     refine Sm (decide (x0.Value >= 0)) (fun hb43 => ?_) (fun hb43 => ?_)
     ·refine Vgs hb43 1 ?_
      refine Lg hb43 hs23.at0 ?_
      refine Vgs hb43 1 ?_
      refine Pk1 hb43 ?_
      refine Vs 1 ?_
      exact Sd ⟨rfl, F0, hs23.dr0, (Si _), (fJ ⟨(congrArg Value.bool (BL hb42 (BL hb43 rfl))), rfl, trivial⟩)⟩
     ·refine Ss hb43 3 ?_
      refine Pk0 hb43 ?_
      refine Vs 1 ?_
      exact Sd ⟨rfl, F0, hs23.dr0, (Si _), (fJ ⟨(congrArg Value.bool (BL hb42 (Dz hb43 rfl))), rfl, trivial⟩)⟩
    ·refine Ss hb42 3 ?_
     refine Pk0 hb42 ?_
     refine Vs 1 ?_
     refine Ss (rfl : false = false) 3 ?_
     refine Pk0 (rfl : false = false) ?_
     refine Vs 1 ?_
     exact Sd ⟨rfl, F0, hs23.dr0, (Si _), (fJ ⟨(congrArg Value.bool (Dz hb42 rfl)), rfl, trivial⟩)⟩
   ·rintro f w36 ⟨F2, hs37, le38, ⟨_, rfl⟩⟩
    obtain rfl := Aa h34
    exact .inl ⟨rfl, F2, hs37, le38, fI⟩
  ·refine Sq (Rg [0, 1] ?_)
   refine Vs 2 ?_
   refine Nt ?_
   obtain ⟨j47, hj51, h52⟩ := bind_some h35
   refine So (fun f w => ∃ (F3 : Mem), HS w0 F0 w F3 [] /\ Sh F0 F3 /\ FI f [] [(3, (.bool j47.1)), (4, (.bool j47.2))]) ?_ ?_
   ·refine Cd hj51 (fun hb53 h54 => ?_) (fun hb53 h55 => ?_)
    ·refine Rg [0, 1, 2, 3, 4, 5, 6, 7, 8, 9, 10, 11, 12, 13, 14] ?_
     refine Sn (fun f w => ∃ (F4 : Mem), HS w0 F0 w F4 [] /\ Sh F0 F4 /\ FI f [] [(3, (.bool (((x0.Kids.length : Int) == 0) && ((decide (x0.Value >= 0)) && (decide (x0.Value < 14)))))), (4, (.bool false))]) ?_ ?_
     ·refine Vs 1 ?_
      refine Ld hs23.at0 ?_
      refine Vs 3 ?_
      refine Sm ((x0.Kids.length : Int) == 0) (fun hb62 => ?_) (fun hb62 => ?_)
      ·refine Vgs hb62 1 ?_
       refine Lg hb62 hs23.at0 ?_
       refine Vgs hb62 1 ?_
       refine Pk1 hb62 ?_
       refine Vs 1 ?_
       refine Sm (decide (x0.Value >= 0)) (fun hb63 => ?_) (fun hb63 => ?_)
       ·refine Vgs hb63 1 ?_
        refine Lg hb63 hs23.at0 ?_
        refine Vgs hb63 1 ?_
        refine Pk1 hb63 ?_
        refine Vs 1 ?_
        exact Sd ⟨rfl, F0, hs23.dr0, (Si _), (fJ ⟨(congrArg Value.bool (BL hb62 (BL hb63 rfl))), rfl, trivial⟩)⟩
       ·refine Ss hb63 3 ?_
        refine Pk0 hb63 ?_
        refine Vs 1 ?_
        exact Sd ⟨rfl, F0, hs23.dr0, (Si _), (fJ ⟨(congrArg Value.bool (BL hb62 (Dz hb63 rfl))), rfl, trivial⟩)⟩
      ·refine Ss hb62 3 ?_
       refine Pk0 hb62 ?_
       refine Vs 1 ?_
       refine Ss (rfl : false = false) 3 ?_
       refine Pk0 (rfl : false = false) ?_
       refine Vs 1 ?_
       exact Sd ⟨rfl, F0, hs23.dr0, (Si _), (fJ ⟨(congrArg Value.bool (Dz hb62 rfl)), rfl, trivial⟩)⟩
     ·rintro f w56 ⟨F4, hs57, le58, ⟨_, rfl⟩⟩
      obtain rfl := Aa h54
      exact .inl ⟨rfl, F4, hs57, le58, fI⟩
    ·refine Sq (Rg [0, 1] ?_)
     refine Vs 2 ?_
     refine Nt ?_
     obtain ⟨j67, hj71, h72⟩ := bind_some h55
     refine So (fun f w => ∃ (F5 : Mem), HS w0 F0 w F5 [] /\ Sh F0 F5 /\ FI f [] [(3, (.bool j67.1)), (4, (.bool j67.2))]) ?_ ?_
     ·refine Cd hj71 (fun hb73 h74 => ?_) (fun hb73 h75 => ?_)
      ·refine Rg [0, 1, 2] ?_
       refine Ld hs23.at0 ?_
       obtain ⟨r76, hr77, h78⟩ := bind_some h74
       refine Cl' Gn hs23 (hsR170 w22 F0 hs23.pers x0 a0_2 n0_2 hb0_2 hs0_2 1 _ hr77) ?_
       rintro _ F6 w80 hs81 le82 rfl
       refine Vs 1 ?_
       refine Sd ?_
       obtain rfl := Aa h78
       exact .inl ⟨rfl, F6, hs81.dr0, le82, fI⟩
      ·refine Sq ?_
       refine Sq (Rg [0, 1] ?_)
       refine Vs 2 ?_
       refine Nt ?_
       refine So (fun f w => ∃ (F7 : Mem), HS w0 F0 w F7 [(sb b21 (Ag x0 a0_2 n0_2) 33)] /\ Sh F0 F7 /\ FI f [] [(1, (pt b21 0)), (3, (.bool false)), (4, (.bool false)), (6, (vi x0.Op)), (43, (.bool (bif (x0.Op == 4) then (x0.Op == 4) else (x0.Op == 5))))]) ?_ ?_
       ·refine Cp (x0.Op == 4) (fun hb93 => ?_) (fun hb93 => ?_)
        ·refine Sc ?_
         exact .inl ⟨rfl, F0, hs23, (Si _), (fJ ⟨rfl, rfl, rfl, rfl, (congrArg Value.bool (Er hb93 rfl)), trivial⟩)⟩
        ·refine Rg [0, 1] ?_
         refine Vs 2 ?_
         refine Sd ?_
         exact .inl ⟨rfl, F0, hs23, (Si _), (fJ ⟨rfl, rfl, rfl, rfl, (congrArg Value.bool (Es hb93 rfl)), trivial⟩)⟩
       ·rintro f w84 ⟨F7, hs85, le86, ⟨_, rfl⟩⟩
        refine Ac ?_
        obtain ⟨j97, hj101, h102⟩ := bind_some h75
        refine So (fun f w => ∃ (F8 : Mem), HS w0 F0 w F8 [] /\ Sh F7 F8 /\ FI f [] [(3, (.bool j97.1)), (4, (.bool j97.2))]) ?_ ?_
        ·refine Cd hj101 (fun hb103 h104 => ?_) (fun hb103 h105 => ?_)
         ·refine Rg [0, 1, 2] ?_
          refine Ld hs85.at0 ?_
          obtain ⟨r106, hr107, h108⟩ := bind_some h104
          refine Cl' Gn hs85 (hsR170 w84 F7 hs85.pers x0 a0_2 n0_2 hb0_2 (Sk hs0_2 le86) 2 _ hr107) ?_
          rintro _ F9 w110 hs111 le112 rfl
          refine Vs 1 ?_
          refine Sd ?_
          obtain rfl := Aa h108
          exact .inl ⟨rfl, F9, hs111.dr0, le112, fI⟩
         ·refine Sq ?_
          refine Sq (Rg [0, 1] ?_)
          refine Vs 2 ?_
          refine Nt ?_
          refine So (fun f w => ∃ (F10 : Mem), HS w0 F0 w F10 [(sb b21 (Ag x0 a0_2 n0_2) 33)] /\ Sh F7 F10 /\ FI f [] [(1, (pt b21 0)), (3, (.bool false)), (4, (.bool false)), (6, (vi x0.Op)), (48, (.bool (bif (x0.Op == 6) then (x0.Op == 6) else (x0.Op == 7))))]) ?_ ?_
          ·refine Cp (x0.Op == 6) (fun hb123 => ?_) (fun hb123 => ?_)
           ·refine Sc ?_
            exact .inl ⟨rfl, F7, hs85, (Si _), (fJ ⟨rfl, rfl, rfl, rfl, (congrArg Value.bool (Er hb123 rfl)), trivial⟩)⟩
           ·refine Rg [0, 1] ?_
            refine Vs 2 ?_
            refine Sd ?_
            exact .inl ⟨rfl, F7, hs85, (Si _), (fJ ⟨rfl, rfl, rfl, rfl, (congrArg Value.bool (Es hb123 rfl)), trivial⟩)⟩
          ·rintro f w114 ⟨F10, hs115, le116, ⟨_, rfl⟩⟩
           refine Ac ?_
           obtain ⟨j127, hj131, h132⟩ := bind_some h105
           refine So (fun f w => ∃ (F11 : Mem), HS w0 F0 w F11 [] /\ Sh F10 F11 /\ FI f [] [(3, (.bool j127.1)), (4, (.bool j127.2))]) ?_ ?_
           ·refine Cd hj131 (fun hb133 h134 => ?_) (fun hb133 h135 => ?_)
            ·refine Rg [0, 1, 2] ?_
             refine Ld hs115.at0 ?_
             obtain ⟨r136, hr137, h138⟩ := bind_some h134
             refine Cl' FR hs115 (hsR171 w114 F10 hs115.pers x0 a0_2 n0_2 hb0_2 (Sk hs0_2 (le86.trans le116)) 2 _ hr137) ?_
             rintro _ F12 w140 hs141 le142 rfl
             refine Vs 1 ?_
             refine Sd ?_
             obtain rfl := Aa h138
             exact .inl ⟨rfl, F12, hs141.dr0, le142, fI⟩
            ·refine Sq ?_
             refine Sq (Rg [0, 1] ?_)
             refine Vs 2 ?_
             refine Nt ?_
             refine So (fun f w => ∃ (F13 : Mem), HS w0 F0 w F13 [(sb b21 (Ag x0 a0_2 n0_2) 33)] /\ Sh F10 F13 /\ FI f [] [(1, (pt b21 0)), (3, (.bool false)), (4, (.bool false)), (6, (vi x0.Op)), (53, (.bool (bif (x0.Op == 8) then (x0.Op == 8) else (bif (x0.Op == 9) then (x0.Op == 9) else (x0.Op == 10)))))]) ?_ ?_
             ·refine Cp (x0.Op == 8) (fun hb153 => ?_) (fun hb153 => ?_)
              ·refine Sc ?_
               exact .inl ⟨rfl, F10, hs115, (Si _), (fJ ⟨rfl, rfl, rfl, rfl, (congrArg Value.bool (Er hb153 rfl)), trivial⟩)⟩
              ·refine Sq (Rg [0, 1] ?_)
               refine Vs 2 ?_
               refine Nt ?_
               refine So (fun f w => ∃ (F14 : Mem), HS w0 F0 w F14 [(sb b21 (Ag x0 a0_2 n0_2) 33)] /\ Sh F10 F14 /\ FI f [] [(1, (pt b21 0)), (3, (.bool false)), (4, (.bool false)), (6, (vi x0.Op)), (53, (.bool (bif (x0.Op == 9) then (x0.Op == 9) else (x0.Op == 10))))]) ?_ ?_
               ·refine Cp (x0.Op == 9) (fun hb163 => ?_) (fun hb163 => ?_)
                ·refine Sc ?_
                 exact .inl ⟨rfl, F10, hs115, (Si _), (fJ ⟨rfl, rfl, rfl, rfl, (congrArg Value.bool (Er hb163 rfl)), trivial⟩)⟩
                ·refine Rg [0, 1] ?_
                 refine Vs 2 ?_
                 refine Sd ?_
                 exact .inl ⟨rfl, F10, hs115, (Si _), (fJ ⟨rfl, rfl, rfl, rfl, (congrArg Value.bool (Es hb163 rfl)), trivial⟩)⟩
               ·rintro f w154 ⟨F14, hs155, le156, ⟨_, rfl⟩⟩
                exact .inl ⟨rfl, F14, hs155, le156, (fJ ⟨rfl, rfl, rfl, rfl, (congrArg Value.bool (Es hb153 rfl)), trivial⟩)⟩
             ·rintro f w144 ⟨F13, hs145, le146, ⟨_, rfl⟩⟩
              refine Ac ?_
              obtain ⟨j167, hj171, h172⟩ := bind_some h135
              refine So (fun f w => ∃ (F15 : Mem), HS w0 F0 w F15 [] /\ Sh F13 F15 /\ FI f [] [(3, (.bool j167)), (4, (.bool false))]) ?_ ?_
              ·refine Cd hj171 (fun hb173 h174 => ?_) (fun hb173 h175 => ?_)
               ·refine Rg [0, 1, 2] ?_
                refine Ld hs145.at0 ?_
                obtain ⟨r176, hr177, h178⟩ := bind_some h174
                refine Cl' FR hs145 (hsR171 w144 F13 hs145.pers x0 a0_2 n0_2 hb0_2 (Sk hs0_2 ((le86.trans le116).trans le146)) 2 _ hr177) ?_
                rintro _ F16 w180 hs181 le182 rfl
                refine Vs 1 ?_
                refine Sd ?_
                obtain rfl := Aa h178
                exact .inl ⟨rfl, F16, hs181.dr0, le182, fI⟩
               ·refine Sq (Rg [0, 1] ?_)
                refine Vs 2 ?_
                refine Nt ?_
                obtain ⟨j187, hj191, h192⟩ := bind_some h175
                refine So (fun f w => ∃ (F17 : Mem), HS w0 F0 w F17 [] /\ Sh F13 F17 /\ FI f [] [(3, (.bool j187)), (4, (.bool false))]) ?_ ?_
                ·refine Cd hj191 (fun hb193 h194 => ?_) (fun hb193 h195 => ?_)
                 ·refine Rg [0, 1, 2, 3, 4, 5, 6, 7, 8, 9, 10, 11, 12, 13, 14, 15, 16, 17, 18, 19, 20, 21, 22, 23, 24, 25, 26, 27, 28, 29, 30, 31, 32, 33] ?_
                  obtain ⟨j199, hj203, h204⟩ := bind_some h194
                  refine Sn (fun f w => ∃ (F18 : Mem), HS w0 F0 w F18 [] /\ Sh F13 F18 /\ FI f [] [(3, (.bool j199)), (4, (.bool false))]) ?_ ?_
                  ·refine Vs 1 ?_
                   refine Ld hs145.at0 ?_
                   refine Vs 2 ?_
                   refine Sp hj203 (fun hb205 h206 => ?_) (fun hb205 h207 => ?_)
                   ·refine Vgs hb205 1 ?_
                    refine Lg hb205 hs145.at0 ?_
                    refine Vgs hb205 2 ?_
                    refine Pk1 hb205 ?_
                    refine Vs 1 ?_
                    refine Sp h206 (fun hb208 h209 => ?_) (fun hb208 h210 => ?_)
                    ·refine Vgs hb208 1 ?_
                     refine Lg hb208 hs145.at0 ?_
                     obtain ⟨x211, hx212, h214⟩ := bind_some h209
                     obtain ⟨hi213, hx212'⟩ := Ap hx212
                     obtain ⟨b215, o216, C217, E218, fz219, rfl, hF221, hE222⟩ := Su (Sk hs0_2 ((le86.trans le116).trans le146)) hx212'
                     obtain ⟨ae223_2, ne223_2, hc224, hbe223_2, hse223_2⟩ := (Az (hE222 _ _ hx212'))
                     refine Ixg hb208 hi213 ?_
                     refine Lxg hb208 0 (hs145.pers _ _ hF221) hc224 ?_
                     obtain ⟨r225, hr226, h227⟩ := bind_some h214
                     refine Cg hb208 B7 hs145 (hsR117 w144 F13 hs145.pers x211 ae223_2 ne223_2 hbe223_2 hse223_2 _ hr226) ?_
                     rintro _ F19 w229 hs230 le231 rfl
                     refine Vgs hb208 1 ?_
                     refine Pk1 hb208 ?_
                     refine Vs 1 ?_
                     refine Sp h227 (fun hb233 h234 => ?_) (fun hb233 h235 => ?_)
                     ·refine Vgs hb233 1 ?_
                      refine Lg hb233 hs230.at0 ?_
                      obtain ⟨x236, hx237, h239⟩ := bind_some h234
                      obtain ⟨hi238, hx237'⟩ := Ap hx237
                      obtain ⟨ae240_2, ne240_2, hc241, hbe240_2, hse240_2⟩ := (Az (hE222 _ _ hx237'))
                      refine Ixg hb233 hi238 ?_
                      refine Lxg hb233 0 (hs230.pers _ _ (le231 _ _ hF221)) hc241 ?_
                      obtain ⟨r242, hr243, h244⟩ := bind_some h239
                      refine Cg hb233 B7 hs230 (hsR117 w229 F19 hs230.pers x236 ae240_2 ne240_2 hbe240_2 (Sk hse240_2 le231) _ hr243) ?_
                      rintro _ F20 w246 hs247 le248 rfl
                      refine Vgs hb233 1 ?_
                      refine Pk1 hb233 ?_
                      refine Vs 1 ?_
                      refine Sp h244 (fun hb250 h251 => ?_) (fun hb250 h252 => ?_)
                      ·refine Vgs hb250 1 ?_
                       refine Lg hb250 hs247.at0 ?_
                       obtain ⟨x253, hx254, h256⟩ := bind_some h251
                       obtain ⟨hi255, hx254'⟩ := Ap hx254
                       obtain ⟨ae257_2, ne257_2, hc258, hbe257_2, hse257_2⟩ := (Az (hE222 _ _ hx254'))
                       refine Ixg hb250 hi255 ?_
                       refine Lxg hb250 0 (hs247.pers _ _ ((le231.trans le248) _ _ hF221)) hc258 ?_
                       obtain ⟨r259, hr260, h261⟩ := bind_some h256
                       refine Cg hb250 B7 hs247 (hsR117 w246 F20 hs247.pers x253 ae257_2 ne257_2 hbe257_2 (Sk hse257_2 (le231.trans le248)) _ hr260) ?_
                       rintro _ F21 w263 hs264 le265 rfl
                       refine Vgs hb250 1 ?_
                       refine Pk1 hb250 ?_
                       refine Vs 1 ?_
                       obtain rfl := Aa h261
                       exact Sd ⟨rfl, F21, hs264.dr0, ((le231.trans le248).trans le265), fI⟩
                      ·refine Ss hb250 6 ?_
                       refine Pk0 hb250 ?_
                       refine Vs 1 ?_
                       obtain rfl := Aa h252
                       exact Sd ⟨rfl, F20, hs247.dr0, (le231.trans le248), fI⟩
                     ·refine Ss hb233 6 ?_
                      refine Pk0 hb233 ?_
                      refine Vs 1 ?_
                      refine Ss (rfl : false = false) 6 ?_
                      refine Pk0 (rfl : false = false) ?_
                      refine Vs 1 ?_
                      obtain rfl := Aa h235
                      exact Sd ⟨rfl, F19, hs230.dr0, le231, fI⟩
                    ·refine Ss hb208 6 ?_
                     refine Pk0 hb208 ?_
                     refine Vs 1 ?_
                     refine Ss (rfl : false = false) 6 ?_
                     refine Pk0 (rfl : false = false) ?_
                     refine Vs 1 ?_
                     refine Ss (rfl : false = false) 6 ?_
                     refine Pk0 (rfl : false = false) ?_
                     refine Vs 1 ?_
                     obtain rfl := Aa h210
                     exact Sd ⟨rfl, F13, hs145.dr0, (Si _), fI⟩
                   ·refine Ss hb205 4 ?_
                    refine Pk0 hb205 ?_
                    refine Vs 1 ?_
                    refine Ss (rfl : false = false) 6 ?_
                    refine Pk0 (rfl : false = false) ?_
                    refine Vs 1 ?_
                    refine Ss (rfl : false = false) 6 ?_
                    refine Pk0 (rfl : false = false) ?_
                    refine Vs 1 ?_
                    refine Ss (rfl : false = false) 6 ?_
                    refine Pk0 (rfl : false = false) ?_
                    refine Vs 1 ?_
                    obtain rfl := Aa h207
                    exact Sd ⟨rfl, F13, hs145.dr0, (Si _), fI⟩
                  ·rintro f w196 ⟨F18, hs197, le198, ⟨_, rfl⟩⟩
                   obtain rfl := Aa h204
                   exact .inl ⟨rfl, F18, hs197, le198, fI⟩
                 ·refine Sc ?_
                  obtain rfl := Aa h195
                  exact .inl ⟨rfl, F13, hs145.dr0, (Si _), fI⟩
                ·rintro f w184 ⟨F17, hs185, le186, ⟨_, rfl⟩⟩
                 obtain rfl := Aa h192
                 exact .inl ⟨rfl, F17, hs185, le186, fI⟩
              ·rintro f w164 ⟨F15, hs165, le166, ⟨_, rfl⟩⟩
               obtain rfl := Aa h172
               exact .inl ⟨rfl, F15, hs165, (le146.trans le166), fI⟩
           ·rintro f w124 ⟨F11, hs125, le126, ⟨_, rfl⟩⟩
            obtain rfl := Aa h132
            exact .inl ⟨rfl, F11, hs125, (le116.trans le126), fI⟩
        ·rintro f w94 ⟨F8, hs95, le96, ⟨_, rfl⟩⟩
         obtain rfl := Aa h102
         exact .inl ⟨rfl, F8, hs95, (le86.trans le96), fI⟩
     ·rintro f w64 ⟨F5, hs65, le66, ⟨_, rfl⟩⟩
      obtain rfl := Aa h72
      exact .inl ⟨rfl, F5, hs65, le66, fI⟩
   ·rintro f w44 ⟨F3, hs45, le46, ⟨_, rfl⟩⟩
    obtain rfl := Aa h52
    exact .inl ⟨rfl, F3, hs45, le46, fI⟩
 ·rintro f w24 ⟨F1, hs25, le26, ⟨_, rfl⟩⟩
  refine Aq ?_
  refine Ac ?_
  refine Sq ?_
  refine Sq (Rg [0] ?_)
  refine Vs 1 ?_
  refine Nt ?_
  refine Cd h32 (fun hb267 h268 => ?_) (fun hb267 h269 => ?_)
  ·refine Sq (Rg [0] ?_)
   refine Vs 1 ?_
   refine Nt ?_
   refine Rt ?_
   refine Ae ?_
   obtain rfl := Aa h268
   exact Re [(vi 1)] hs25 rfl
  ·refine Sc ?_
   refine Ac ?_
   refine Sq ?_
   refine Sq (Rg [0] ?_)
   refine Vs 1 ?_
   refine Nt ?_
   refine Cd h269 (fun hb270 h271 => ?_) (fun hb270 h272 => ?_)
   ·refine Sq (Rg [0] ?_)
    refine Vs 1 ?_
    refine Nt ?_
    refine Rt ?_
    refine Ae ?_
    obtain rfl := Aa h271
    exact Re [(vi 2)] hs25 rfl
   ·refine Sc ?_
    refine Ac ?_
    refine Sq (Rg [0] ?_)
    refine Vs 1 ?_
    refine Nt ?_
    refine Rt ?_
    obtain rfl := Aa h272
    exact Re [(vi 0)] hs25 rfl
def Eb (N : Nat) (sR117 : Expr -> Option Int) (x0 : Expr) (x1 : Int) : Int -> Option (Bi Bool Int) := fun s38 =>
 (bif (decide (s38 < x1)) then ((idx x0.Kids s38).bind fun x60 => ((sR117 x60).bind fun r74 => (bif (r74 != 2) then some (.ret false) else some (.next (W64 (s38 + 1)))))) else some (.done s38))
def Dk (N : Nat) (sR117 : Expr -> Option Int) (x0 : Expr) (x1 : Int) : Option Bool :=
 (bif (((x0.Kids.length : Int) != x1) || (x0.Value != 0)) then some false else ((A0 (Eb N sR117 x0 x1) N 0).bind fun o => o.k (fun r => some r) (fun s46 => some true)))
theorem Kb (N : Nat) (sR117 : Expr -> Option Int) (hsR117 : Ja sR117) (w0 : World) (F0 : Mem) (hF : SH w0 F0) (x0 : Expr) (a0_2 : SG) (n0_2 : Nat) (hb0_2 : LC x0.Kids.length n0_2) (hs0_2 : SlA Ao F0 a0_2 x0.Kids) (x1 : Int) (r : Bool) (h : Dk N sR117 x0 x1 = some r) :
  Calls Tryz.prog 170 ([(.agg (Ag x0 a0_2 n0_2)), (vi x1)] : List Value).toArray w0 (AJ w0 F0 fun F' v => v = (.bool r)) := by
 have hs0 := Sj hF
 refine Go 28 Tryz.func170 ?_
 refine Sq (Rg [0, 1] ?_)
 refine Bx' 33 (Ag x0 a0_2 n0_2) hs0 (fun b21 w22 hs23 => ?_)
 refine Vs 1 ?_
 refine Nss ?_
 refine Sq (Rg [0, 1, 2, 3, 4, 5, 6, 7, 8, 9] ?_)
 refine Sn (fun f w => ∃ (F1 : Mem), HS w0 F0 w F1 [(sb b21 (Ag x0 a0_2 n0_2) 33)] /\ Sh F0 F1 /\ FI f [] [(1, (vi x1)), (2, (pt b21 0)), (15, (.bool (((x0.Kids.length : Int) != x1) || (x0.Value != 0))))]) ?_ ?_
 ·refine Vs 1 ?_
  refine Ld hs23.at0 ?_
  refine Vs 4 ?_
  refine Sm ((x0.Kids.length : Int) != x1) (fun hb31 => ?_) (fun hb31 => ?_)
  ·refine Ss hb31 3 ?_
   refine Pk1 hb31 ?_
   exact Sd ⟨rfl, F0, hs23, (Si _), (fJ ⟨rfl, rfl, (congrArg Value.bool (FL hb31 rfl)), trivial⟩)⟩
  ·refine Vgs hb31 1 ?_
   refine Lg hb31 hs23.at0 ?_
   refine Vgs hb31 1 ?_
   refine Pk0 hb31 ?_
   exact Sd ⟨rfl, F0, hs23, (Si _), (fJ ⟨rfl, rfl, (congrArg Value.bool (BQ hb31 rfl)), trivial⟩)⟩
 ·rintro f w24 ⟨F1, hs25, le26, ⟨_, rfl⟩⟩
  refine Ac ?_
  refine Cd h (fun hb32 h33 => ?_) (fun hb32 h34 => ?_)
  ·refine Sq (Rg [0] ?_)
   refine Vs 1 ?_
   refine Nt ?_
   refine Rt ?_
   refine Ae ?_
   obtain rfl := Aa h33
   exact Re [(.bool false)] hs25 rfl
  ·refine Sc ?_
   refine Ac ?_
   refine Sq ?_
   refine Sq (Rg [0] ?_)
   refine Vs 1 ?_
   refine Nt ?_
   obtain ⟨o35, ho36, h37⟩ := bind_some h34
   refine So (fun f w => ∃ (s46 : Int) (F3 : Mem), o35 = .done s46 /\ HS w0 F0 w F3 [] /\ Sh F1 F3 /\ FI f [] []) ?_ ?_
   ·refine Bk ?_
    refine Sg (by kernel_rfl) (fun m f w => ∃ (s38 : Int) (F2 : Mem), A0 (Eb N sR117 x0 x1) m s38 = some o35 /\ HS w0 F0 w F2 [(sb b21 (Ag x0 a0_2 n0_2) 33)] /\ Sh F1 F2 /\ FI f [] [(1, (vi x1)), (2, (pt b21 0)), (5, (vi s38))]) N ⟨0, F1, ho36, hs25, (Si _), fI⟩ ?_
    rintro m51 f w39 ⟨s38, F2, hit52, hs40, le41, ⟨_, rfl⟩⟩
    obtain ⟨m53, fl54, rfl, hb55, hnx56⟩ := AQ hit52
    refine Sq ?_
    refine Sq (Rg [0, 1, 2] ?_)
    refine Vs 3 ?_
    refine Nt ?_
    refine Cd hb55 (fun hb57 h58 => ?_) (fun hb57 h59 => ?_)
    ·refine Sc ?_
     refine Ac ?_
     refine Sq ?_
     refine Bk ?_
     refine Sq (Rg [0, 1, 2, 3, 4, 5, 6] ?_)
     refine Vs 1 ?_
     refine Ld hs40.at0 ?_
     refine Vs 1 ?_
     obtain ⟨x60, hx61, h63⟩ := bind_some h58
     obtain ⟨hi62, hx61'⟩ := Ap hx61
     obtain ⟨b64, o65, C66, E67, fz68, rfl, hF70, hE71⟩ := Su (Sk hs0_2 (le26.trans le41)) hx61'
     obtain ⟨ae72_2, ne72_2, hc73, hbe72_2, hse72_2⟩ := (Az (hE71 _ _ hx61'))
     refine Ix hi62 ?_
     refine Lx 0 (hs40.pers _ _ hF70) hc73 ?_
     obtain ⟨r74, hr75, h76⟩ := bind_some h63
     refine Cl' B7 hs40 (hsR117 w39 F2 hs40.pers x60 ae72_2 ne72_2 hbe72_2 hse72_2 _ hr75) ?_
     rintro _ F4 w78 hs79 le80 rfl
     refine Vs 1 ?_
     refine Nt ?_
     refine Cd h76 (fun hb82 h83 => ?_) (fun hb82 h84 => ?_)
     ·refine Sq (Rg [0] ?_)
      refine Vs 1 ?_
      refine Nt ?_
      refine Rt ?_
      refine Ai ?_
      refine Ae ?_
      refine Ae ?_
      refine Ai ?_
      have hret := BJ h83 hnx56
      subst hret
      refine .inr ?_
      refine Ae ?_
      obtain rfl := Aa h37
      exact Re [(.bool false)] hs79 rfl
     ·refine Sc ?_
      refine Aq ?_
      refine Ac ?_
      refine Rg [0, 1, 2] ?_
      refine Vs 3 ?_
      refine Sd ?_
      have hn85 := AM h84 hnx56
      exact ⟨m53, Nat.lt_succ_self _, (W64 (s38 + 1)), F4, hn85, hs79, (le41.trans le80), fI⟩
    ·refine Ex ?_
     refine Av ?_
     refine Av ?_
     refine AE rfl ?_
     have ho86 := AX h59 hnx56
     exact .inl ⟨rfl, s38, F2, ho86, hs40.dr0, le41, fI⟩
   ·rintro f w47 ⟨s46, F3, rfl, hs48, le49, ⟨_, rfl⟩⟩
    have h87 := Bo h37
    refine Ac ?_
    refine Sq (Rg [0] ?_)
    refine Vs 1 ?_
    refine Nt ?_
    refine Rt ?_
    obtain rfl := Aa h87
    exact Re [(.bool true)] hs48 rfl
def DL (N : Nat) (sR117 : Expr -> Option Int) (x0 : Expr) (x1 : Int) : Int -> Option (Bi Bool Int) := fun s38 =>
 (bif (decide (s38 < x1)) then ((idx x0.Kids s38).bind fun x60 => ((sR117 x60).bind fun r74 => (bif (r74 != 1) then some (.ret false) else some (.next (W64 (s38 + 1)))))) else some (.done s38))
def C3 (N : Nat) (sR117 : Expr -> Option Int) (x0 : Expr) (x1 : Int) : Option Bool :=
 (bif (((x0.Kids.length : Int) != x1) || (x0.Value != 0)) then some false else ((A0 (DL N sR117 x0 x1) N 0).bind fun o => o.k (fun r => some r) (fun s46 => some true)))
theorem JG (N : Nat) (sR117 : Expr -> Option Int) (hsR117 : Ja sR117) (w0 : World) (F0 : Mem) (hF : SH w0 F0) (x0 : Expr) (a0_2 : SG) (n0_2 : Nat) (hb0_2 : LC x0.Kids.length n0_2) (hs0_2 : SlA Ao F0 a0_2 x0.Kids) (x1 : Int) (r : Bool) (h : C3 N sR117 x0 x1 = some r) :
  Calls Tryz.prog 171 ([(.agg (Ag x0 a0_2 n0_2)), (vi x1)] : List Value).toArray w0 (AJ w0 F0 fun F' v => v = (.bool r)) := by
 have hs0 := Sj hF
 refine Go 28 Tryz.func171 ?_
 refine Sq (Rg [0, 1] ?_)
 refine Bx' 33 (Ag x0 a0_2 n0_2) hs0 (fun b21 w22 hs23 => ?_)
 refine Vs 1 ?_
 refine Nss ?_
 refine Sq (Rg [0, 1, 2, 3, 4, 5, 6, 7, 8, 9] ?_)
 refine Sn (fun f w => ∃ (F1 : Mem), HS w0 F0 w F1 [(sb b21 (Ag x0 a0_2 n0_2) 33)] /\ Sh F0 F1 /\ FI f [] [(1, (vi x1)), (2, (pt b21 0)), (15, (.bool (((x0.Kids.length : Int) != x1) || (x0.Value != 0))))]) ?_ ?_
 ·refine Vs 1 ?_
  refine Ld hs23.at0 ?_
  refine Vs 4 ?_
  refine Sm ((x0.Kids.length : Int) != x1) (fun hb31 => ?_) (fun hb31 => ?_)
  ·refine Ss hb31 3 ?_
   refine Pk1 hb31 ?_
   exact Sd ⟨rfl, F0, hs23, (Si _), (fJ ⟨rfl, rfl, (congrArg Value.bool (FL hb31 rfl)), trivial⟩)⟩
  ·refine Vgs hb31 1 ?_
   refine Lg hb31 hs23.at0 ?_
   refine Vgs hb31 1 ?_
   refine Pk0 hb31 ?_
   exact Sd ⟨rfl, F0, hs23, (Si _), (fJ ⟨rfl, rfl, (congrArg Value.bool (BQ hb31 rfl)), trivial⟩)⟩
 ·rintro f w24 ⟨F1, hs25, le26, ⟨_, rfl⟩⟩
  refine Ac ?_
  refine Cd h (fun hb32 h33 => ?_) (fun hb32 h34 => ?_)
  ·refine Sq (Rg [0] ?_)
   refine Vs 1 ?_
   refine Nt ?_
   refine Rt ?_
   refine Ae ?_
   obtain rfl := Aa h33
   exact Re [(.bool false)] hs25 rfl
  ·refine Sc ?_
   refine Ac ?_
   refine Sq ?_
   refine Sq (Rg [0] ?_)
   refine Vs 1 ?_
   refine Nt ?_
   obtain ⟨o35, ho36, h37⟩ := bind_some h34
   refine So (fun f w => ∃ (s46 : Int) (F3 : Mem), o35 = .done s46 /\ HS w0 F0 w F3 [] /\ Sh F1 F3 /\ FI f [] []) ?_ ?_
   ·refine Bk ?_
    refine Sg (by kernel_rfl) (fun m f w => ∃ (s38 : Int) (F2 : Mem), A0 (DL N sR117 x0 x1) m s38 = some o35 /\ HS w0 F0 w F2 [(sb b21 (Ag x0 a0_2 n0_2) 33)] /\ Sh F1 F2 /\ FI f [] [(1, (vi x1)), (2, (pt b21 0)), (5, (vi s38))]) N ⟨0, F1, ho36, hs25, (Si _), fI⟩ ?_
    rintro m51 f w39 ⟨s38, F2, hit52, hs40, le41, ⟨_, rfl⟩⟩
    obtain ⟨m53, fl54, rfl, hb55, hnx56⟩ := AQ hit52
    refine Sq ?_
    refine Sq (Rg [0, 1, 2] ?_)
    refine Vs 3 ?_
    refine Nt ?_
    refine Cd hb55 (fun hb57 h58 => ?_) (fun hb57 h59 => ?_)
    ·refine Sc ?_
     refine Ac ?_
     refine Sq ?_
     refine Bk ?_
     refine Sq (Rg [0, 1, 2, 3, 4, 5, 6] ?_)
     refine Vs 1 ?_
     refine Ld hs40.at0 ?_
     refine Vs 1 ?_
     obtain ⟨x60, hx61, h63⟩ := bind_some h58
     obtain ⟨hi62, hx61'⟩ := Ap hx61
     obtain ⟨b64, o65, C66, E67, fz68, rfl, hF70, hE71⟩ := Su (Sk hs0_2 (le26.trans le41)) hx61'
     obtain ⟨ae72_2, ne72_2, hc73, hbe72_2, hse72_2⟩ := (Az (hE71 _ _ hx61'))
     refine Ix hi62 ?_
     refine Lx 0 (hs40.pers _ _ hF70) hc73 ?_
     obtain ⟨r74, hr75, h76⟩ := bind_some h63
     refine Cl' B7 hs40 (hsR117 w39 F2 hs40.pers x60 ae72_2 ne72_2 hbe72_2 hse72_2 _ hr75) ?_
     rintro _ F4 w78 hs79 le80 rfl
     refine Vs 1 ?_
     refine Nt ?_
     refine Cd h76 (fun hb82 h83 => ?_) (fun hb82 h84 => ?_)
     ·refine Sq (Rg [0] ?_)
      refine Vs 1 ?_
      refine Nt ?_
      refine Rt ?_
      refine Ai ?_
      refine Ae ?_
      refine Ae ?_
      refine Ai ?_
      have hret := BJ h83 hnx56
      subst hret
      refine .inr ?_
      refine Ae ?_
      obtain rfl := Aa h37
      exact Re [(.bool false)] hs79 rfl
     ·refine Sc ?_
      refine Aq ?_
      refine Ac ?_
      refine Rg [0, 1, 2] ?_
      refine Vs 3 ?_
      refine Sd ?_
      have hn85 := AM h84 hnx56
      exact ⟨m53, Nat.lt_succ_self _, (W64 (s38 + 1)), F4, hn85, hs79, (le41.trans le80), fI⟩
    ·refine Ex ?_
     refine Av ?_
     refine Av ?_
     refine AE rfl ?_
     have ho86 := AX h59 hnx56
     exact .inl ⟨rfl, s38, F2, ho86, hs40.dr0, le41, fI⟩
   ·rintro f w47 ⟨s46, F3, rfl, hs48, le49, ⟨_, rfl⟩⟩
    have h87 := Bo h37
    refine Ac ?_
    refine Sq (Rg [0] ?_)
    refine Vs 1 ?_
    refine Nt ?_
    refine Rt ?_
    obtain rfl := Aa h87
    exact Re [(.bool true)] hs48 rfl
structure Rj where
 q117 : Expr -> Option Int
 q170 : Expr -> Int -> Option Bool
 q171 : Expr -> Int -> Option Bool
def BO (N : Nat) : Nat -> Rj
 | 0 => ⟨fun _ => none, fun _ _ => none, fun _ _ => none⟩
 | k + 1 => ⟨Ew N (BO N k).q117 (BO N k).q170 (BO N k).q171, Dk N (BO N k).q117, C3 N (BO N k).q117⟩
theorem LX (N : Nat) : ∀ k, Ja (BO N k).q117 /\ MI (BO N k).q170 /\ MH (BO N k).q171
 | 0 => ⟨(by unfold Ja; intros; rename_i h; cases h), (by unfold MI; intros; rename_i h; cases h), (by unfold MH; intros; rename_i h; cases h)⟩
 | k + 1 => by
  have ih := LX N k
  exact ⟨@LN N (BO N k).q117 ih.1 (BO N k).q170 ih.2.1 (BO N k).q171 ih.2.2, @Kb N (BO N k).q117 ih.1, @JG N (BO N k).q117 ih.1⟩
def Ga (N : Nat) (x0 : Expr) : Option Int := (BO N N).q117 x0
theorem I6 (N : Nat) (w0 : World) (F0 : Mem) (hF : SH w0 F0) (x0 : Expr) (a0_2 : SG) (n0_2 : Nat) (hb0_2 : LC x0.Kids.length n0_2) (hs0_2 : SlA Ao F0 a0_2 x0.Kids) (r : Int) (h : Ga N x0 = some r) :
  Calls Tryz.prog 117 ([(.agg #[(.int .i64 x0.Op), (.int .i64 x0.Value), (.slice a0_2 x0.Kids.length n0_2)])] : List Value).toArray w0 (AJ w0 F0 fun F' v => v = (.int .i64 r)) := (LX N N).1 w0 F0 hF x0 a0_2 n0_2 hb0_2 hs0_2 r h
def Oh (sR32 : Expr -> Option Int) : Prop := ∀ (w0 : World) (F0 : Mem) (hF : SH w0 F0) (x0 : Expr) (a0_2 : SG) (n0_2 : Nat) (hb0_2 : LC x0.Kids.length n0_2) (hs0_2 : SlA Ao F0 a0_2 x0.Kids) (r : Int), sR32 x0 = some r -> Calls Tryz.prog 32 ([(.agg #[(.int .i64 x0.Op), (.int .i64 x0.Value), (.slice a0_2 x0.Kids.length n0_2)])] : List Value).toArray w0 (AJ w0 F0 fun F' v => v = (.int .i64 r))
theorem EP : Al Tryz.prog 32 := fun _ _ => by kernel_rfl
def GB (N : Nat) (sR32 : Expr -> Option Int) (x0 : Expr) : (Int × Int) -> Option (Bi Int (Int × Int)) := fun s27 =>
 (bif (decide (s27.2 < (x0.Kids.length : Int))) then ((idx x0.Kids s27.2).bind fun x51 => ((sR32 x51).bind fun r70 => some (.next ((max s27.1 r70), (W64 (s27.2 + 1)))))) else some (.done (s27.1, s27.2)))
def DR (N : Nat) (sR32 : Expr -> Option Int) (x0 : Expr) : Option Int :=
 ((A0 (GB N sR32 x0) N (0, 0)).bind fun o => o.k (fun r => some r) (fun s36 => some (W64 (s36.1 + 1))))
theorem Lb (N : Nat) (sR32 : Expr -> Option Int) (hsR32 : Oh sR32) (w0 : World) (F0 : Mem) (hF : SH w0 F0) (x0 : Expr) (a0_2 : SG) (n0_2 : Nat) (hb0_2 : LC x0.Kids.length n0_2) (hs0_2 : SlA Ao F0 a0_2 x0.Kids) (r : Int) (h : DR N sR32 x0 = some r) :
  Calls Tryz.prog 32 ([(.agg (Ag x0 a0_2 n0_2))] : List Value).toArray w0 (AJ w0 F0 fun F' v => v = (vi r)) := by
 have hs0 := Sj hF
 refine Go 20 Tryz.func32 ?_
 refine Sq (Rg [0, 1] ?_)
 refine Bx' 33 (Ag x0 a0_2 n0_2) hs0 (fun b21 w22 hs23 => ?_)
 refine Vs 1 ?_
 refine Nss (Rg [0] ?_)
 refine Vs 1 ?_
 refine Nss ?_
 refine Sq (Rg [0, 1, 2, 3] ?_)
 refine Vs 1 ?_
 refine Ld hs23.at0 ?_
 refine Vs 2 ?_
 refine Nt ?_
 obtain ⟨o24, ho25, h26⟩ := bind_some h
 refine So (fun f w => ∃ (s36 : (Int × Int)) (F2 : Mem), o24 = .done s36 /\ HS w0 F0 w F2 [] /\ Sh F0 F2 /\ FI f [] [(3, (vi s36.1))]) ?_ ?_
 ·refine Bk ?_
  refine Sg (by kernel_rfl) (fun m f w => ∃ (s27 : (Int × Int)) (F1 : Mem), A0 (GB N sR32 x0) m s27 = some o24 /\ HS w0 F0 w F1 [] /\ Sh F0 F1 /\ FI f [] [(3, (vi s27.1)), (7, (.slice a0_2 x0.Kids.length n0_2)), (8, (vi (x0.Kids.length : Int))), (9, (vi s27.2))]) N ⟨(0, 0), F0, ho25, hs23.dr0, (Si _), fI⟩ ?_
  rintro m42 f w28 ⟨s27, F1, hit43, hs29, le30, ⟨_, rfl⟩⟩
  obtain ⟨m44, fl45, rfl, hb46, hnx47⟩ := AQ hit43
  refine Sq (Rg [0] ?_)
  refine Vs 1 ?_
  refine Nss ?_
  refine Cd hb46 (fun hb48 h49 => ?_) (fun hb48 h50 => ?_)
  ·refine Sc ?_
   refine Ac ?_
   refine Sq ?_
   refine Bk ?_
   refine Sq (Rg [0, 1, 2, 3] ?_)
   obtain ⟨x51, hx52, h54⟩ := bind_some h49
   obtain ⟨hi53, hx52'⟩ := Ap hx52
   obtain ⟨b55, o56, C57, E58, fz59, rfl, hF61, hE62⟩ := Su (Sk hs0_2 le30) hx52'
   obtain ⟨ae63_2, ne63_2, hc64, hbe63_2, hse63_2⟩ := (Az (hE62 _ _ hx52'))
   refine Ix hi53 ?_
   refine Lx 0 (hs29.pers _ _ hF61) hc64 ?_
   refine Al' 33 #[(vi 0), (vi 0), (.slice none ([] : List Expr).length 0)] hs29 (fun b65 w66 hs67 => ?_)
   refine St0 (Ag x51 ae63_2 ne63_2) hs67 (fun w68 hs69 => ?_)
   refine Nt ?_
   refine Rg [0, 1, 2, 3, 4] ?_
   refine Vs 1 ?_
   refine Ld hs69.at0 ?_
   obtain ⟨r70, hr71, h72⟩ := bind_some h54
   refine Cl' EP hs69 (hsR32 w68 F1 hs69.pers x51 ae63_2 ne63_2 hbe63_2 hse63_2 _ hr71) ?_
   rintro _ F3 w74 hs75 le76 rfl
   refine Vs 2 ?_
   refine Sd ?_
   refine Aq ?_
   refine Ac ?_
   refine Rg [0, 1] ?_
   refine Vs 2 ?_
   refine Sd ?_
   have hn78 := AM h72 hnx47
   exact ⟨m44, Nat.lt_succ_self _, ((max s27.1 r70), (W64 (s27.2 + 1))), F3, hn78, hs75.dr0, (le30.trans le76), fI⟩
  ·refine Ex ?_
   refine Av ?_
   refine Av ?_
   refine AE rfl ?_
   have ho79 := AX h50 hnx47
   exact .inl ⟨rfl, (s27.1, s27.2), F1, ho79, hs29, le30, fI⟩
 ·rintro f w37 ⟨s36, F2, rfl, hs38, le39, ⟨_, rfl⟩⟩
  have h80 := Bo h26
  refine Ac ?_
  refine Sq (Rg [0, 1, 2] ?_)
  refine Vs 3 ?_
  refine Nt ?_
  refine Rt ?_
  obtain rfl := Aa h80
  exact Re [(vi (W64 (s36.1 + 1)))] hs38 rfl
structure RO where
 q32 : Expr -> Option Int
def KC (N : Nat) : Nat -> RO
 | 0 => ⟨fun _ => none⟩
 | k + 1 => ⟨DR N (KC N k).q32⟩
theorem M7 (N : Nat) : ∀ k, Oh (KC N k).q32
 | 0 => (by unfold Oh; intros; rename_i h; cases h)
 | k + 1 => by
  have ih := M7 N k
  exact @Lb N (KC N k).q32 ih
def E9 (N : Nat) (x0 : Expr) : Option Int := (KC N N).q32 x0
theorem HP (N : Nat) (w0 : World) (F0 : Mem) (hF : SH w0 F0) (x0 : Expr) (a0_2 : SG) (n0_2 : Nat) (hb0_2 : LC x0.Kids.length n0_2) (hs0_2 : SlA Ao F0 a0_2 x0.Kids) (r : Int) (h : E9 N x0 = some r) :
  Calls Tryz.prog 32 ([(.agg #[(.int .i64 x0.Op), (.int .i64 x0.Value), (.slice a0_2 x0.Kids.length n0_2)])] : List Value).toArray w0 (AJ w0 F0 fun F' v => v = (.int .i64 r)) := (M7 N N) w0 F0 hF x0 a0_2 n0_2 hb0_2 hs0_2 r h
def Og (sR77 : Expr -> Option Int) : Prop := ∀ (w0 : World) (F0 : Mem) (hF : SH w0 F0) (x0 : Expr) (a0_2 : SG) (n0_2 : Nat) (hb0_2 : LC x0.Kids.length n0_2) (hs0_2 : SlA Ao F0 a0_2 x0.Kids) (r : Int), sR77 x0 = some r -> Calls Tryz.prog 77 ([(.agg #[(.int .i64 x0.Op), (.int .i64 x0.Value), (.slice a0_2 x0.Kids.length n0_2)])] : List Value).toArray w0 (AJ w0 F0 fun F' v => v = (.int .i64 r))
theorem ER : Al Tryz.prog 77 := fun _ _ => by kernel_rfl
def GF (N : Nat) (sR77 : Expr -> Option Int) (x0 : Expr) : (Int × Int) -> Option (Bi Int (Int × Int)) := fun s27 =>
 (bif (decide (s27.2 < (x0.Kids.length : Int))) then ((idx x0.Kids s27.2).bind fun x50 => ((sR77 x50).bind fun r64 => some (.next ((max s27.1 r64), (W64 (s27.2 + 1)))))) else some (.done (s27.1, s27.2)))
def DV (N : Nat) (sR77 : Expr -> Option Int) (x0 : Expr) : Option Int :=
 ((A0 (GF N sR77 x0) N (0, 0)).bind fun o => o.k (fun r => some r) (fun s35 => some (W64 (s35.1 + 1))))
theorem Li (N : Nat) (sR77 : Expr -> Option Int) (hsR77 : Og sR77) (w0 : World) (F0 : Mem) (hF : SH w0 F0) (x0 : Expr) (a0_2 : SG) (n0_2 : Nat) (hb0_2 : LC x0.Kids.length n0_2) (hs0_2 : SlA Ao F0 a0_2 x0.Kids) (r : Int) (h : DV N sR77 x0 = some r) :
  Calls Tryz.prog 77 ([(.agg (Ag x0 a0_2 n0_2))] : List Value).toArray w0 (AJ w0 F0 fun F' v => v = (vi r)) := by
 have hs0 := Sj hF
 refine Go 22 Tryz.func77 ?_
 refine Sq (Rg [0, 1] ?_)
 refine Bx' 33 (Ag x0 a0_2 n0_2) hs0 (fun b21 w22 hs23 => ?_)
 refine Vs 1 ?_
 refine Nss (Rg [0] ?_)
 refine Vs 1 ?_
 refine Nss ?_
 refine Sq (Rg [0] ?_)
 refine Vs 1 ?_
 refine Nt ?_
 obtain ⟨o24, ho25, h26⟩ := bind_some h
 refine So (fun f w => ∃ (s35 : (Int × Int)) (F2 : Mem), o24 = .done s35 /\ HS w0 F0 w F2 [] /\ Sh F0 F2 /\ FI f [] [(3, (vi s35.1))]) ?_ ?_
 ·refine Bk ?_
  refine Sg (by kernel_rfl) (fun m f w => ∃ (s27 : (Int × Int)) (F1 : Mem), A0 (GF N sR77 x0) m s27 = some o24 /\ HS w0 F0 w F1 [(sb b21 (Ag x0 a0_2 n0_2) 33)] /\ Sh F0 F1 /\ FI f [] [(1, (pt b21 0)), (3, (vi s27.1)), (4, (vi s27.2))]) N ⟨(0, 0), F0, ho25, hs23, (Si _), fI⟩ ?_
  rintro m41 f w28 ⟨s27, F1, hit42, hs29, le30, ⟨_, rfl⟩⟩
  obtain ⟨m43, fl44, rfl, hb45, hnx46⟩ := AQ hit42
  refine Sq ?_
  refine Sq (Rg [0, 1, 2, 3, 4] ?_)
  refine Vs 2 ?_
  refine Ld hs29.at0 ?_
  refine Vs 2 ?_
  refine Nt ?_
  refine Cd hb45 (fun hb47 h48 => ?_) (fun hb47 h49 => ?_)
  ·refine Sc ?_
   refine Ac ?_
   refine Sq ?_
   refine Bk ?_
   refine Rg [0, 1, 2, 3, 4, 5, 6, 7, 8] ?_
   refine Vs 2 ?_
   refine Ld hs29.at0 ?_
   refine Vs 1 ?_
   obtain ⟨x50, hx51, h53⟩ := bind_some h48
   obtain ⟨hi52, hx51'⟩ := Ap hx51
   obtain ⟨b54, o55, C56, E57, fz58, rfl, hF60, hE61⟩ := Su (Sk hs0_2 le30) hx51'
   obtain ⟨ae62_2, ne62_2, hc63, hbe62_2, hse62_2⟩ := (Az (hE61 _ _ hx51'))
   refine Ix hi52 ?_
   refine Lx 0 (hs29.pers _ _ hF60) hc63 ?_
   obtain ⟨r64, hr65, h66⟩ := bind_some h53
   refine Cl' ER hs29 (hsR77 w28 F1 hs29.pers x50 ae62_2 ne62_2 hbe62_2 hse62_2 _ hr65) ?_
   rintro _ F3 w68 hs69 le70 rfl
   refine Vs 2 ?_
   refine Sd ?_
   refine Aq ?_
   refine Ac ?_
   refine Rg [0, 1, 2] ?_
   refine Vs 3 ?_
   refine Sd ?_
   have hn72 := AM h66 hnx46
   exact ⟨m43, Nat.lt_succ_self _, ((max s27.1 r64), (W64 (s27.2 + 1))), F3, hn72, hs69, (le30.trans le70), fI⟩
  ·refine Ex ?_
   refine Av ?_
   refine Av ?_
   refine AE rfl ?_
   have ho73 := AX h49 hnx46
   exact .inl ⟨rfl, (s27.1, s27.2), F1, ho73, hs29.dr0, le30, fI⟩
 ·rintro f w36 ⟨s35, F2, rfl, hs37, le38, ⟨_, rfl⟩⟩
  have h74 := Bo h26
  refine Ac ?_
  refine Sq (Rg [0, 1, 2] ?_)
  refine Vs 3 ?_
  refine Nt ?_
  refine Rt ?_
  obtain rfl := Aa h74
  exact Re [(vi (W64 (s35.1 + 1)))] hs37 rfl
structure RN where
 q77 : Expr -> Option Int
def KB (N : Nat) : Nat -> RN
 | 0 => ⟨fun _ => none⟩
 | k + 1 => ⟨DV N (KB N k).q77⟩
theorem M6 (N : Nat) : ∀ k, Og (KB N k).q77
 | 0 => (by unfold Og; intros; rename_i h; cases h)
 | k + 1 => by
  have ih := M6 N k
  exact @Li N (KB N k).q77 ih
def Ff (N : Nat) (x0 : Expr) : Option Int := (KB N N).q77 x0
theorem HQ (N : Nat) (w0 : World) (F0 : Mem) (hF : SH w0 F0) (x0 : Expr) (a0_2 : SG) (n0_2 : Nat) (hb0_2 : LC x0.Kids.length n0_2) (hs0_2 : SlA Ao F0 a0_2 x0.Kids) (r : Int) (h : Ff N x0 = some r) :
  Calls Tryz.prog 77 ([(.agg #[(.int .i64 x0.Op), (.int .i64 x0.Value), (.slice a0_2 x0.Kids.length n0_2)])] : List Value).toArray w0 (AJ w0 F0 fun F' v => v = (.int .i64 r)) := (M6 N N) w0 F0 hF x0 a0_2 n0_2 hb0_2 hs0_2 r h
def Of (sR92 : Expr -> Option Int) : Prop := ∀ (w0 : World) (F0 : Mem) (hF : SH w0 F0) (x0 : Expr) (a0_2 : SG) (n0_2 : Nat) (hb0_2 : LC x0.Kids.length n0_2) (hs0_2 : SlA Ao F0 a0_2 x0.Kids) (r : Int), sR92 x0 = some r -> Calls Tryz.prog 92 ([(.agg #[(.int .i64 x0.Op), (.int .i64 x0.Value), (.slice a0_2 x0.Kids.length n0_2)])] : List Value).toArray w0 (AJ w0 F0 fun F' v => v = (.int .i64 r))
theorem G4 : Al Tryz.prog 92 := fun _ _ => by kernel_rfl
def GD (N : Nat) (sR92 : Expr -> Option Int) (x0 : Expr) : (Int × Int) -> Option (Bi Int (Int × Int)) := fun s27 =>
 (bif (decide (s27.2 < (x0.Kids.length : Int))) then ((idx x0.Kids s27.2).bind fun x50 => ((sR92 x50).bind fun r64 => some (.next ((W64 (s27.1 + r64)), (W64 (s27.2 + 1)))))) else some (.done (s27.1, s27.2)))
def DU (N : Nat) (sR92 : Expr -> Option Int) (x0 : Expr) : Option Int :=
 ((A0 (GD N sR92 x0) N (1, 0)).bind fun o => o.k (fun r => some r) (fun s35 => some s35.1))
theorem Lh (N : Nat) (sR92 : Expr -> Option Int) (hsR92 : Of sR92) (w0 : World) (F0 : Mem) (hF : SH w0 F0) (x0 : Expr) (a0_2 : SG) (n0_2 : Nat) (hb0_2 : LC x0.Kids.length n0_2) (hs0_2 : SlA Ao F0 a0_2 x0.Kids) (r : Int) (h : DU N sR92 x0 = some r) :
  Calls Tryz.prog 92 ([(.agg (Ag x0 a0_2 n0_2))] : List Value).toArray w0 (AJ w0 F0 fun F' v => v = (vi r)) := by
 have hs0 := Sj hF
 refine Go 21 Tryz.func92 ?_
 refine Sq (Rg [0, 1] ?_)
 refine Bx' 33 (Ag x0 a0_2 n0_2) hs0 (fun b21 w22 hs23 => ?_)
 refine Vs 1 ?_
 refine Nss (Rg [0] ?_)
 refine Vs 1 ?_
 refine Nss ?_
 refine Sq (Rg [0] ?_)
 refine Vs 1 ?_
 refine Nt ?_
 obtain ⟨o24, ho25, h26⟩ := bind_some h
 refine So (fun f w => ∃ (s35 : (Int × Int)) (F2 : Mem), o24 = .done s35 /\ HS w0 F0 w F2 [] /\ Sh F0 F2 /\ FI f [] [(3, (vi s35.1))]) ?_ ?_
 ·refine Bk ?_
  refine Sg (by kernel_rfl) (fun m f w => ∃ (s27 : (Int × Int)) (F1 : Mem), A0 (GD N sR92 x0) m s27 = some o24 /\ HS w0 F0 w F1 [(sb b21 (Ag x0 a0_2 n0_2) 33)] /\ Sh F0 F1 /\ FI f [] [(1, (pt b21 0)), (3, (vi s27.1)), (4, (vi s27.2))]) N ⟨(1, 0), F0, ho25, hs23, (Si _), fI⟩ ?_
  rintro m41 f w28 ⟨s27, F1, hit42, hs29, le30, ⟨_, rfl⟩⟩
  obtain ⟨m43, fl44, rfl, hb45, hnx46⟩ := AQ hit42
  refine Sq ?_
  refine Sq (Rg [0, 1, 2, 3, 4] ?_)
  refine Vs 2 ?_
  refine Ld hs29.at0 ?_
  refine Vs 2 ?_
  refine Nt ?_
  refine Cd hb45 (fun hb47 h48 => ?_) (fun hb47 h49 => ?_)
  ·refine Sc ?_
   refine Ac ?_
   refine Sq ?_
   refine Bk ?_
   refine Rg [0, 1, 2, 3, 4, 5, 6, 7, 8] ?_
   refine Vs 2 ?_
   refine Ld hs29.at0 ?_
   refine Vs 1 ?_
   obtain ⟨x50, hx51, h53⟩ := bind_some h48
   obtain ⟨hi52, hx51'⟩ := Ap hx51
   obtain ⟨b54, o55, C56, E57, fz58, rfl, hF60, hE61⟩ := Su (Sk hs0_2 le30) hx51'
   obtain ⟨ae62_2, ne62_2, hc63, hbe62_2, hse62_2⟩ := (Az (hE61 _ _ hx51'))
   refine Ix hi52 ?_
   refine Lx 0 (hs29.pers _ _ hF60) hc63 ?_
   obtain ⟨r64, hr65, h66⟩ := bind_some h53
   refine Cl' G4 hs29 (hsR92 w28 F1 hs29.pers x50 ae62_2 ne62_2 hbe62_2 hse62_2 _ hr65) ?_
   rintro _ F3 w68 hs69 le70 rfl
   refine Vs 2 ?_
   refine Sd ?_
   refine Aq ?_
   refine Ac ?_
   refine Rg [0, 1, 2] ?_
   refine Vs 3 ?_
   refine Sd ?_
   have hn72 := AM h66 hnx46
   exact ⟨m43, Nat.lt_succ_self _, ((W64 (s27.1 + r64)), (W64 (s27.2 + 1))), F3, hn72, hs69, (le30.trans le70), fI⟩
  ·refine Ex ?_
   refine Av ?_
   refine Av ?_
   refine AE rfl ?_
   have ho73 := AX h49 hnx46
   exact .inl ⟨rfl, (s27.1, s27.2), F1, ho73, hs29.dr0, le30, fI⟩
 ·rintro f w36 ⟨s35, F2, rfl, hs37, le38, ⟨_, rfl⟩⟩
  have h74 := Bo h26
  refine Ac ?_
  refine Sq (Rg [0, 1] ?_)
  refine Vs 2 ?_
  refine Nt ?_
  refine Rt ?_
  obtain rfl := Aa h74
  exact Re [(vi s35.1)] hs37 rfl
structure RM where
 q92 : Expr -> Option Int
def KA (N : Nat) : Nat -> RM
 | 0 => ⟨fun _ => none⟩
 | k + 1 => ⟨DU N (KA N k).q92⟩
theorem M5 (N : Nat) : ∀ k, Of (KA N k).q92
 | 0 => (by unfold Of; intros; rename_i h; cases h)
 | k + 1 => by
  have ih := M5 N k
  exact @Lh N (KA N k).q92 ih
def GE (N : Nat) (x0 : Expr) : Option Int := (KA N N).q92 x0
theorem LH (N : Nat) (w0 : World) (F0 : Mem) (hF : SH w0 F0) (x0 : Expr) (a0_2 : SG) (n0_2 : Nat) (hb0_2 : LC x0.Kids.length n0_2) (hs0_2 : SlA Ao F0 a0_2 x0.Kids) (r : Int) (h : GE N x0 = some r) :
  Calls Tryz.prog 92 ([(.agg #[(.int .i64 x0.Op), (.int .i64 x0.Value), (.slice a0_2 x0.Kids.length n0_2)])] : List Value).toArray w0 (AJ w0 F0 fun F' v => v = (.int .i64 r)) := (M5 N N) w0 F0 hF x0 a0_2 n0_2 hb0_2 hs0_2 r h






def Ht (M : Nat) : Nat -> Expr -> Prop
 | 0, _ => False
 | n + 1, e => e.Kids.length < M /\ e.Kids.length < 9223372036854775808 /\ ∀ x, x ∈ e.Kids -> Ht M n x
theorem Ht.succ {M : Nat} : ∀ {n : Nat} {e : Expr}, Ht M n e -> Ht M (n + 1) e
 | 0, _, h => h.elim
 | n + 1, e, ⟨h1, h2, h3⟩ => ⟨h1, h2, fun x hx => (h3 x hx).succ⟩
theorem Ht.le {M n m : Nat} {e : Expr} (h : Ht M n e) (hl : n <= m) : Ht M m e := by
 induction hl with
 | refl => exact h
 | step _ ih => exact ih.succ
theorem Ht.wide {M M' : Nat} (hM : M <= M') : ∀ {n : Nat} {e : Expr}, Ht M n e -> Ht M' n e
 | 0, _, h => h.elim
 | n + 1, e, ⟨h1, h2, h3⟩ => ⟨by omega, h2, fun x hx => (h3 x hx).wide hM⟩
section
variable {α β σ ρ : Type}
theorem FM (l : List α) (g : α -> Option β) (gs : α -> β) (f : σ -> β -> σ) {body : σ × Int -> Option (Bi ρ (σ × Int))} (hg : ∀ x, x ∈ l -> g x = some (gs x))
  (hb : ∀ s i, body (s, i) = bif decide (i < (l.length : Int)) then ((idx l i).bind fun x => (g x).bind fun r => some (.next (f s r, W64 (i + 1)))) else some (.done (s, i)))
  {N : Nat} (hN : l.length < N) (hL : l.length < 9223372036854775808) (s0 : σ) : A0 body N (s0, 0) = some (.done (l.foldl (fun s x => f s (gs x)) s0, (l.length : Int))) := by
 obtain ⟨o, ho, rfl⟩ := IL (body := body) l.length (fun i s => s = ((l.take i).foldl (fun s x => f s (gs x)) s0, (i : Int))) (fun o => o = .done (l.foldl (fun s x => f s (gs x)) s0, (l.length : Int))) (by
  rintro i s hi rfl
  by_cases h : i < l.length
  ·refine .inl ⟨(f ((l.take i).foldl (fun s x => f s (gs x)) s0) (gs l[i]), ((i + 1 : Nat) : Int)), ?_, ?_, h⟩
   ·rw [hb, H0 h, cond_true, CE h, Option.bind_some, hg _ (List.getElem_mem h), Option.bind_some, Ci (by omega)]
   ·rw [List.take_succ_eq_append_getElem h, List.foldl_append]; rfl
  ·have : i = l.length := by omega
   subst this
   refine .inr ⟨_, ?_, ?_, rfl⟩
   ·rw [hb, H1, cond_false, List.take_length]
   ·intro s' h; cases h) l.length N 0 (s0, 0) (by omega) (by simp) hN
 exact ho
theorem Gc (l : List α) (p : α -> Bool) (ret : Nat -> ρ) {body : Int -> Option (Bi ρ Int)}
  (hb : ∀ (i : Nat) (h : i < l.length), body (i : Int) = bif p l[i] then some (.ret (ret i)) else some (.next (W64 ((i : Int) + 1)))) (he : body (l.length : Int) = some (.done (l.length : Int)))
  {N : Nat} (hN : l.length < N) (hL : l.length < 9223372036854775808) :
  A0 body N 0 = some (bif l.any p then .ret (ret (l.findIdx p)) else .done (l.length : Int)) := by
 obtain ⟨o, ho, rfl⟩ := IL (body := body) l.length (fun i s => s = (i : Int) /\ ∀ k (h : k < l.length), k < i -> p l[k] = false) (fun o => o = bif l.any p then .ret (ret (l.findIdx p)) else .done (l.length : Int)) (by
  rintro i s hi ⟨rfl, hk⟩
  by_cases h : i < l.length
  ·cases e : p l[i] with
   | false =>
    refine .inl ⟨_, by rw [hb i h, e, cond_false, Ci (by omega)], ⟨rfl, fun k hk' hki => ?_⟩, h⟩
    by_cases hki' : k = i
    ·subst hki'; exact e
    ·exact hk k hk' (by omega)
   | true =>
    refine .inr ⟨_, by rw [hb i h, e, cond_true], fun _ h => (by cases h), ?_⟩
    have h1 : l.any p = true := List.any_eq_true.2 ⟨_, List.getElem_mem h, e⟩
    have h2 : l.findIdx p = i := by
     rw [List.findIdx_eq h]
     exact ⟨e, fun k hk' => hk k (by omega) hk'⟩
    rw [h1, cond_true, h2]
  ·have : i = l.length := by omega
   subst this
   refine .inr ⟨_, he, fun _ h => (by cases h), ?_⟩
   have h1 : l.any p = false := by
    rw [List.any_eq_false]
    intro x hx
    obtain ⟨k, hk', rfl⟩ := List.getElem_of_mem hx
    rw [hk k hk' hk']; simp
   rw [h1, cond_false]) l.length N 0 0 (by omega) ⟨rfl, fun k h hk => by omega⟩ hN
 exact ho
end
def nd (e : Expr) : Int := match e with
 | ⟨_, _, ks⟩ => ks.foldl (fun s x => W64 (s + nd x)) 1
def dp (e : Expr) : Int := match e with
 | ⟨_, _, ks⟩ => W64 (ks.foldl (fun s x => max s (dp x)) 0 + 1)
theorem Rw (e : Expr) : nd e = e.Kids.foldl (fun s x => W64 (s + nd x)) 1 := by
 cases e; rw [nd]
theorem QM (e : Expr) : dp e = W64 (e.Kids.foldl (fun s x => max s (dp x)) 0 + 1) := by
 cases e; rw [dp]
section
variable {M : Nat}
theorem OA : ∀ {n k : Nat} {e : Expr}, Ht M n e -> n <= k -> (KA M k).q92 e = some (nd e)
 | 0, _, _, h, _ => h.elim
 | n + 1, 0, _, _, h => absurd h (by omega)
 | n + 1, k + 1, e, ⟨h1, h2, h3⟩, hk => by
  show DU M (KA M k).q92 e = _
  unfold DU
  rw [FM e.Kids (KA M k).q92 nd (fun s r => W64 (s + r)) (fun x hx => OA (h3 x hx) (by omega)) (fun _ _ => rfl) h1 h2 1, Rw]
  rfl
theorem Nd : ∀ {n k : Nat} {e : Expr}, Ht M n e -> n <= k -> (KB M k).q77 e = some (dp e)
 | 0, _, _, h, _ => h.elim
 | n + 1, 0, _, _, h => absurd h (by omega)
 | n + 1, k + 1, e, ⟨h1, h2, h3⟩, hk => by
  show DV M (KB M k).q77 e = _
  unfold DV
  rw [FM e.Kids (KB M k).q77 dp (fun s r => max s r) (fun x hx => Nd (h3 x hx) (by omega)) (fun _ _ => rfl) h1 h2 0, QM]
  rfl
theorem OB : ∀ {n k : Nat} {e : Expr}, Ht M n e -> n <= k -> (KC M k).q32 e = some (dp e)
 | 0, _, _, h, _ => h.elim
 | n + 1, 0, _, _, h => absurd h (by omega)
 | n + 1, k + 1, e, ⟨h1, h2, h3⟩, hk => by
  show DR M (KC M k).q32 e = _
  unfold DR
  rw [FM e.Kids (KC M k).q32 dp (fun s r => max s r) (fun x hx => OB (h3 x hx) (by omega)) (fun _ _ => rfl) h1 h2 0, QM]
  rfl
end
def kf (op : Int) : Option (Int × Int × List Int) :=
 if op = 1 then some (1000000, 1, []) else if op = 2 then some (13, 1, []) else if op = 3 then some (0, 2, [2]) else if op = 4 \/ op = 5 then some (0, 2, [2, 2])
 else if op = 6 \/ op = 7 then some (0, 2, [1, 1]) else if op = 8 \/ op = 9 \/ op = 10 then some (0, 1, [1, 1]) else if op = 11 then some (0, 1, [2, 1, 1]) else none
def RY (op v : Int) (m : List Int) : Int := match kf op with
 | none => 0
 | some (most, own, l) => if 0 <= v /\ v <= most /\ m = l then own else 0
def kd (e : Expr) : Int := match e with
 | ⟨op, v, ks⟩ => RY op v (ks.map fun x => kd x)
theorem PG (e : Expr) : kd e = match kf e.Op with
  | none => 0
  | some (most, own, l) => if 0 <= e.Value /\ e.Value <= most /\ e.Kids.map kd = l then own else 0 := by
 cases e; rw [kd]; rfl
theorem PD (N : Nat) (op : Int) : Ev N op = some (match kf op with | none => ({ most_ := 0, own_ := 0, kids_ := [] }, false) | some (m, o, l) => ({ most_ := m, own_ := o, kids_ := l }, true)) := by
 unfold Ev kf
 by_cases h1 : op = 1
 ·subst h1; rfl
 by_cases h2 : op = 2
 ·subst h2; rfl
 by_cases h3 : op = 3
 ·subst h3; rfl
 by_cases h4 : op = 4
 ·subst h4; rfl
 by_cases h5 : op = 5
 ·subst h5; rfl
 by_cases h6 : op = 6
 ·subst h6; rfl
 by_cases h7 : op = 7
 ·subst h7; rfl
 by_cases h8 : op = 8
 ·subst h8; rfl
 by_cases h9 : op = 9
 ·subst h9; rfl
 by_cases h10 : op = 10
 ·subst h10; rfl
 by_cases h11 : op = 11
 ·subst h11; rfl
 have b : ∀ z : Int, op ≠ z -> (op == z) = false := fun z hz => by simpa using hz
 simp only [b _ h1, b _ h2, b _ h3, b _ h4, b _ h5, b _ h6, b _ h7, b _ h8, b _ h9, b _ h10, b _ h11, cond_false, if_neg h1, if_neg h2, if_neg h3, h4, h5, h6, h7, h8, h9, h10, h11, or_self, if_false]
theorem N0 {α : Type} {l : List α} {f : α -> Int} {m : List Int} (hl : l.length = m.length) : ((List.range l.length).any fun i => decide ((l.map f)[i]? ≠ m[i]?)) = decide (l.map f ≠ m) := by
 rw [Bool.eq_iff_iff]
 simp only [List.any_eq_true, List.mem_range, decide_eq_true_eq]
 constructor
 ·rintro ⟨i, _, h⟩ e; exact h (by rw [e])
 ·intro h
  apply Classical.byContradiction
  intro hn
  apply h
  apply List.ext_getElem?
  intro i
  by_cases hi : i < l.length
  ·exact Classical.byContradiction fun hne => hn ⟨i, hi, hne⟩
  ·rw [List.getElem?_eq_none (by simp; omega), List.getElem?_eq_none (by omega)]
section
variable {M : Nat}
theorem Nf : ∀ {n k : Nat} {e : Expr}, Ht M n e -> n <= k -> (HX M k).q113 e = some (kd e)
 | 0, _, _, h, _ => h.elim
 | n + 1, 0, _, _, h => absurd h (by omega)
 | n + 1, k + 1, e, ⟨h1, h2, h3⟩, hk => by
  show Df M (HX M k).q113 e = _
  unfold Df
  rw [PD, Option.bind_some, PG]
  cases hf : kf e.Op with
  | none => simp only [Bool.not_false, Bool.true_or, cond_true]
  | some x =>
   obtain ⟨m, o, l⟩ := x
   simp only [Bool.not_true, Bool.false_or]
   by_cases hv : 0 <= e.Value /\ e.Value <= m /\ e.Kids.length = l.length
   ·obtain ⟨v1, v2, v3⟩ := hv
    have e1 : (decide (e.Value < 0) || (decide (e.Value > m) || (((e.Kids.length : Int)) != ((l.length : Int))))) = false := by
     simp; exact ⟨by omega, by omega, by omega⟩
    rw [e1, cond_false]
    have hit := Gc (List.range e.Kids.length) (fun i => decide ((e.Kids.map kd)[i]? ≠ l[i]?)) (fun _ => (0 : Int)) (body := Cs M (HX M k).q113 e ({ most_ := m, own_ := o, kids_ := l }, true)) (N := M)
     (by
      intro i hi
      simp only [List.length_range] at hi
      unfold Cs
      rw [H0 hi, cond_true, CE hi, Option.bind_some]
      simp only
      rw [CE (show i < l.length by omega), Option.bind_some, Nf (h3 _ (List.getElem_mem hi)) (by omega)]
      simp only [Option.bind_some, List.getElem_range]
      congr 1
      rw [List.getElem?_map, List.getElem?_eq_getElem hi, List.getElem?_eq_getElem (show i < l.length by omega)]
      simp [bne, BEq.beq])
     (by
      unfold Cs
      rw [List.length_range, H1, cond_false]) (by rw [List.length_range]; exact h1) (by rw [List.length_range]; exact h2)
    rw [hit, N0 v3]
    by_cases hm : e.Kids.map kd = l
    ·simp [hm, v1, v2, Bi.k]
    ·simp [hm, Bi.k]
   ·have e1 : (decide (e.Value < 0) || (decide (e.Value > m) || (((e.Kids.length : Int)) != ((l.length : Int))))) = true := by
     simp; omega
    rw [e1, cond_true, if_neg]
    rintro ⟨a, b, c⟩
    exact hv ⟨a, b, by rw [<- c, List.length_map]⟩
end
def A6 (N : Nat) (x0 : (List Expr)) (x1 : (List Expr)) (x2 : (Expr -> Expr -> Option Bool)) : Int -> Option (Bi Bool Int) := fun s27 =>
 (bif (decide (s27 < (x0.length : Int))) then ((idx x0 s27).bind fun x51 => ((idx x1 s27).bind fun x70 => ((x2 x51 x70).bind fun r89 => (bif (!r89) then some (.ret false) else some (.next (W64 (s27 + 1))))))) else some (.done s27))
def Bc (N : Nat) (x0 : (List Expr)) (x1 : (List Expr)) (x2 : (Expr -> Expr -> Option Bool)) : Option Bool :=
 (bif ((x0.length : Int) != (x1.length : Int)) then some false else ((A0 (A6 N x0 x1 x2) N 0).bind fun o => o.k (fun r => some r) (fun s37 => some true)))
theorem BC : Al Tryz.prog 214 := fun _ _ => by kernel_rfl
theorem BH (N : Nat) (w0 : World) (F0 : Mem) (hF : SH w0 F0) (x0 : (List Expr)) (a0_0 : SG) (n0_0 : Nat) (hb0_0 : LC x0.length n0_0) (hs0_0 : SlA Ao F0 a0_0 x0) (x1 : (List Expr)) (a1_0 : SG) (n1_0 : Nat) (hb1_0 : LC x1.length n1_0) (hs1_0 : SlA Ao F0 a1_0 x1) (gx2 : FuncId) (fx2 kx2 : List Value) (x2 : Expr -> Expr -> Option Bool) (hox2 : Al Tryz.prog gx2) (hpx2 : QH F0 gx2 fx2 kx2 x2) (r : Bool) (h : Bc N x0 x1 x2 = some r) :
  Calls Tryz.prog 214 ([(.slice a0_0 x0.length n0_0), (.slice a1_0 x1.length n1_0), (.func (.func gx2) fx2.toArray kx2.toArray)] : List Value).toArray w0 (AJ w0 F0 fun F' v => v = (.bool r)) := by
 have hs0 := Sj hF
 refine Go 32 Tryz.func214 ?_
 refine Sq (Rg [0] ?_)
 refine Vs 1 ?_
 refine Nss ?_
 refine Sq (Rg [0, 1, 2, 3, 4] ?_)
 refine Vs 5 ?_
 refine Nt ?_
 refine Cd h (fun hb21 h22 => ?_) (fun hb21 h23 => ?_)
 ·refine Sq (Rg [0] ?_)
  refine Vs 1 ?_
  refine Nt ?_
  refine Rt ?_
  refine Ae ?_
  obtain rfl := Aa h22
  exact Re [(.bool false)] hs0 rfl
 ·refine Sc ?_
  refine Ac ?_
  refine Sq ?_
  refine Sq (Rg [0, 1, 2] ?_)
  refine Vs 3 ?_
  refine Nt ?_
  obtain ⟨o24, ho25, h26⟩ := bind_some h23
  refine So (fun f w => ∃ (s37 : Int) (F2 : Mem), o24 = .done s37 /\ HS w0 F0 w F2 [] /\ Sh F0 F2 /\ FI f [] []) ?_ ?_
  ·refine Bk ?_
   refine Sg (by kernel_rfl) (fun m f w => ∃ (s27 : Int) (F1 : Mem), A0 (A6 N x0 x1 x2) m s27 = some o24 /\ HS w0 F0 w F1 [] /\ Sh F0 F1 /\ FI f [] [(1, (.slice a1_0 x1.length n1_0)), (2, (.func (.func gx2) fx2.toArray kx2.toArray)), (15, (.slice a0_0 x0.length n0_0)), (16, (vi (x0.length : Int))), (17, (vi s27))]) N ⟨0, F0, ho25, hs0, (Si _), fI⟩ ?_
   rintro m42 f w28 ⟨s27, F1, hit43, hs29, le30, ⟨_, rfl⟩⟩
   obtain ⟨m44, fl45, rfl, hb46, hnx47⟩ := AQ hit43
   refine Sq (Rg [0] ?_)
   refine Vs 1 ?_
   refine Nss ?_
   refine Cd hb46 (fun hb48 h49 => ?_) (fun hb48 h50 => ?_)
   ·refine Sc ?_
    refine Ac ?_
    refine Sq ?_
    refine Bk ?_
    refine Sq (Rg [0, 1, 2, 3, 4, 5] ?_)
    refine Vs 1 ?_
    obtain ⟨x51, hx52, h54⟩ := bind_some h49
    obtain ⟨hi53, hx52'⟩ := Ap hx52
    obtain ⟨b55, o56, C57, E58, fz59, rfl, hF61, hE62⟩ := Su (Sk hs0_0 le30) hx52'
    obtain ⟨ae63_2, ne63_2, hc64, hbe63_2, hse63_2⟩ := (Az (hE62 _ _ hx52'))
    refine Ix hi53 ?_
    refine Lx 0 (hs29.pers _ _ hF61) hc64 ?_
    refine Al' 33 #[(vi 0), (vi 0), (.slice none ([] : List Expr).length 0)] hs29 (fun b65 w66 hs67 => ?_)
    refine Vs 1 ?_
    refine St0 (Ag x51 ae63_2 ne63_2) hs67 (fun w68 hs69 => ?_)
    refine Nss (Rg [0, 1, 2, 3, 4, 5] ?_)
    refine Vs 2 ?_
    obtain ⟨x70, hx71, h73⟩ := bind_some h54
    obtain ⟨hi72, hx71'⟩ := Ap hx71
    obtain ⟨b74, o75, C76, E77, fz78, rfl, hF80, hE81⟩ := Su (Sk hs1_0 le30) hx71'
    obtain ⟨ae82_2, ne82_2, hc83, hbe82_2, hse82_2⟩ := (Az (hE81 _ _ hx71'))
    refine Ix hi72 ?_
    refine Lx 0 (hs69.pers _ _ hF80) hc83 ?_
    refine Al' 33 #[(vi 0), (vi 0), (.slice none ([] : List Expr).length 0)] hs69 (fun b84 w85 hs86 => ?_)
    refine St0 (Ag x70 ae82_2 ne82_2) hs86 (fun w87 hs88 => ?_)
    refine Nss (Rg [0, 1, 2, 3, 4] ?_)
    refine Vs 1 ?_
    refine Ld hs88.at1 ?_
    refine Ld hs88.at0 ?_
    obtain ⟨r89, hr90, h91⟩ := bind_some h73
    refine Cq hox2 hs88 (hpx2 w87 F1 x51 ae63_2 ne63_2 hbe63_2 hse63_2 x70 ae82_2 ne82_2 hbe82_2 hse82_2 _ le30 hs88.pers hr90) ?_
    rintro _ F3 w93 hs94 le95 rfl
    refine Vs 1 ?_
    refine Nt ?_
    refine Cd h91 (fun hb97 h98 => ?_) (fun hb97 h99 => ?_)
    ·refine Sq (Rg [0] ?_)
     refine Vs 1 ?_
     refine Nt ?_
     refine Rt ?_
     refine Ai ?_
     refine Ae ?_
     refine Ae ?_
     refine Ai ?_
     have hret := BJ h98 hnx47
     subst hret
     refine .inr ?_
     refine Ae ?_
     obtain rfl := Aa h26
     exact Re [(.bool false)] hs94 rfl
    ·refine Sc ?_
     refine Aq ?_
     refine Ac ?_
     refine Rg [0, 1] ?_
     refine Vs 2 ?_
     refine Sd ?_
     have hn100 := AM h99 hnx47
     exact ⟨m44, Nat.lt_succ_self _, (W64 (s27 + 1)), F3, hn100, hs94.dr0.dr0, (le30.trans le95), fI⟩
   ·refine Ex ?_
    refine Av ?_
    refine Av ?_
    refine AE rfl ?_
    have ho101 := AX h50 hnx47
    exact .inl ⟨rfl, s27, F1, ho101, hs29, le30, fI⟩
  ·rintro f w38 ⟨s37, F2, rfl, hs39, le40, ⟨_, rfl⟩⟩
   have h102 := Bo h26
   refine Ac ?_
   refine Sq (Rg [0] ?_)
   refine Vs 1 ?_
   refine Nt ?_
   refine Rt ?_
   obtain rfl := Aa h102
   exact Re [(.bool true)] hs39 rfl
def MF (sR189 : Expr -> Expr -> Option Bool) : Prop := ∀ (w0 : World) (F0 : Mem) (hF : SH w0 F0) (x0 : Expr) (a0_2 : SG) (n0_2 : Nat) (hb0_2 : LC x0.Kids.length n0_2) (hs0_2 : SlA Ao F0 a0_2 x0.Kids) (x1 : Expr) (a1_2 : SG) (n1_2 : Nat) (hb1_2 : LC x1.Kids.length n1_2) (hs1_2 : SlA Ao F0 a1_2 x1.Kids) (r : Bool), sR189 x0 x1 = some r -> Calls Tryz.prog 189 ([(.agg #[(.int .i64 x0.Op), (.int .i64 x0.Value), (.slice a0_2 x0.Kids.length n0_2)]), (.agg #[(.int .i64 x1.Op), (.int .i64 x1.Value), (.slice a1_2 x1.Kids.length n1_2)])] : List Value).toArray w0 (AJ w0 F0 fun F' v => v = (.bool r))
theorem CY : Al Tryz.prog 189 := fun _ _ => by kernel_rfl
def Ie (N : Nat) (sR189 : Expr -> Expr -> Option Bool) (x0 : Expr) (x1 : Expr) : Option Bool :=
 ((bif (x0.Op == x1.Op) then (bif (x0.Value == x1.Value) then ((Bc N x0.Kids x1.Kids (fun y0 y1 => sR189 y0 y1)).bind fun r41 => some r41) else some false) else some false).bind fun j30 => some j30)
theorem LM (N : Nat) (sR189 : Expr -> Expr -> Option Bool) (hsR189 : MF sR189) (w0 : World) (F0 : Mem) (hF : SH w0 F0) (x0 : Expr) (a0_2 : SG) (n0_2 : Nat) (hb0_2 : LC x0.Kids.length n0_2) (hs0_2 : SlA Ao F0 a0_2 x0.Kids) (x1 : Expr) (a1_2 : SG) (n1_2 : Nat) (hb1_2 : LC x1.Kids.length n1_2) (hs1_2 : SlA Ao F0 a1_2 x1.Kids) (r : Bool) (h : Ie N sR189 x0 x1 = some r) :
  Calls Tryz.prog 189 ([(.agg (Ag x0 a0_2 n0_2)), (.agg (Ag x1 a1_2 n1_2))] : List Value).toArray w0 (AJ w0 F0 fun F' v => v = (.bool r)) := by
 have hs0 := Sj hF
 refine Go 24 Tryz.func189 ?_
 refine Sq (Rg [0, 1, 2] ?_)
 refine Bx' 33 (Ag x0 a0_2 n0_2) hs0 (fun b21 w22 hs23 => ?_)
 refine Bx' 33 (Ag x1 a1_2 n1_2) hs23 (fun b24 w25 hs26 => ?_)
 refine Vs 1 ?_
 refine Nss (Rg [0, 1, 2, 3, 4, 5, 6, 7, 8, 9, 10, 11, 12, 13, 14, 15, 16, 17, 18, 19] ?_)
 obtain ⟨j30, hj33, h34⟩ := bind_some h
 refine Sn (fun f w => ∃ (F1 : Mem), HS w0 F0 w F1 [] /\ Sh F0 F1 /\ FI f [] [(4, (.bool j30))]) ?_ ?_
 ·refine Vs 1 ?_
  refine Ld hs26.at1 ?_
  refine Vs 1 ?_
  refine Ld hs26.at0 ?_
  refine Vs 2 ?_
  refine Sp hj33 (fun hb35 h36 => ?_) (fun hb35 h37 => ?_)
  ·refine Vgs hb35 1 ?_
   refine Lg hb35 hs26.at1 ?_
   refine Vgs hb35 1 ?_
   refine Lg hb35 hs26.at0 ?_
   refine Vgs hb35 1 ?_
   refine Pk1 hb35 ?_
   refine Vs 1 ?_
   refine Sp h36 (fun hb38 h39 => ?_) (fun hb38 h40 => ?_)
   ·refine Vgs hb38 1 ?_
    refine Lg hb38 hs26.at1 ?_
    refine Vgs hb38 1 ?_
    refine Lg hb38 hs26.at0 ?_
    obtain ⟨r41, hr42, h43⟩ := bind_some h39
    refine Cg hb38 BC hs26 (BH N w25 F0 hs26.pers x0.Kids a0_2 n0_2 hb0_2 hs0_2 x1.Kids a1_2 n1_2 hb1_2 hs1_2 189 [] [] (fun y0 y1 => sR189 y0 y1) CY (fun w1 F1 y0 ay0_2 ny0_2 hby0_2 hsy0_2 y1 ay1_2 ny1_2 hby1_2 hsy1_2 r le1 pe1 hr1 => hsR189 w1 F1 pe1  y0 ay0_2 ny0_2 hby0_2 hsy0_2 y1 ay1_2 ny1_2 hby1_2 hsy1_2  r hr1) _ hr42) ?_
    rintro _ F2 w45 hs46 le47 rfl
    refine Pk1 hb38 ?_
    refine Vs 1 ?_
    obtain rfl := Aa h43
    exact Sd ⟨rfl, F2, hs46.dr0.dr0, le47, fI⟩
   ·refine Ss hb38 5 ?_
    refine Pk0 hb38 ?_
    refine Vs 1 ?_
    obtain rfl := Aa h40
    exact Sd ⟨rfl, F0, hs26.dr0.dr0, (Si _), fI⟩
  ·refine Ss hb35 5 ?_
   refine Pk0 hb35 ?_
   refine Vs 1 ?_
   refine Ss (rfl : false = false) 5 ?_
   refine Pk0 (rfl : false = false) ?_
   refine Vs 1 ?_
   obtain rfl := Aa h37
   exact Sd ⟨rfl, F0, hs26.dr0.dr0, (Si _), fI⟩
 ·rintro f w27 ⟨F1, hs28, le29, ⟨_, rfl⟩⟩
  refine Ac ?_
  refine Rt ?_
  obtain rfl := Aa h34
  exact Re [(.bool j30)] hs28 rfl
structure Rh where
 q189 : Expr -> Expr -> Option Bool
def Mi (N : Nat) : Nat -> Rh
 | 0 => ⟨fun _ _ => none⟩
 | k + 1 => ⟨Ie N (Mi N k).q189⟩
theorem LV (N : Nat) : ∀ k, MF (Mi N k).q189
 | 0 => (by unfold MF; intros; rename_i h; cases h)
 | k + 1 => by
  have ih := LV N k
  exact @LM N (Mi N k).q189 ih
def EJ (N : Nat) (x0 : Expr) (x1 : Expr) : Option Bool := (Mi N N).q189 x0 x1
theorem ED (N : Nat) (w0 : World) (F0 : Mem) (hF : SH w0 F0) (x0 : Expr) (a0_2 : SG) (n0_2 : Nat) (hb0_2 : LC x0.Kids.length n0_2) (hs0_2 : SlA Ao F0 a0_2 x0.Kids) (x1 : Expr) (a1_2 : SG) (n1_2 : Nat) (hb1_2 : LC x1.Kids.length n1_2) (hs1_2 : SlA Ao F0 a1_2 x1.Kids) (r : Bool) (h : EJ N x0 x1 = some r) :
  Calls Tryz.prog 189 ([(.agg #[(.int .i64 x0.Op), (.int .i64 x0.Value), (.slice a0_2 x0.Kids.length n0_2)]), (.agg #[(.int .i64 x1.Op), (.int .i64 x1.Value), (.slice a1_2 x1.Kids.length n1_2)])] : List Value).toArray w0 (AJ w0 F0 fun F' v => v = (.bool r)) := (LV N N) w0 F0 hF x0 a0_2 n0_2 hb0_2 hs0_2 x1 a1_2 n1_2 hb1_2 hs1_2 r h
def C9 (N : Nat) (x0 : Expr) : Option Bool :=
 (((Dg N x0).bind fun r32 => (bif (r32 != 0) then ((E9 N x0).bind fun r43 => some (decide (r43 <= 32))) else some false)).bind fun j27 => some j27)
theorem EM : Al Tryz.prog 93 := fun _ _ => by kernel_rfl
theorem FA (N : Nat) (w0 : World) (F0 : Mem) (hF : SH w0 F0) (x0 : Expr) (a0_2 : SG) (n0_2 : Nat) (hb0_2 : LC x0.Kids.length n0_2) (hs0_2 : SlA Ao F0 a0_2 x0.Kids) (r : Bool) (h : C9 N x0 = some r) :
  Calls Tryz.prog 93 ([(.agg (Ag x0 a0_2 n0_2))] : List Value).toArray w0 (AJ w0 F0 fun F' v => v = (.bool r)) := by
 have hs0 := Sj hF
 refine Go 11 Tryz.func93 ?_
 refine Sq (Rg [0, 1] ?_)
 refine Bx' 33 (Ag x0 a0_2 n0_2) hs0 (fun b21 w22 hs23 => ?_)
 refine Vs 1 ?_
 refine Nss (Rg [0, 1, 2, 3, 4, 5, 6, 7, 8] ?_)
 obtain ⟨j27, hj30, h31⟩ := bind_some h
 refine Sn (fun f w => ∃ (F1 : Mem), HS w0 F0 w F1 [] /\ Sh F0 F1 /\ FI f [] [(2, (.bool j27))]) ?_ ?_
 ·refine Ld hs23.at0 ?_
  obtain ⟨r32, hr33, h34⟩ := bind_some hj30
  refine Cl' C5 hs23 (EV N w22 F0 hs23.pers x0 a0_2 n0_2 hb0_2 hs0_2 _ hr33) ?_
  rintro _ F2 w36 hs37 le38 rfl
  refine Vs 2 ?_
  refine Sp h34 (fun hb40 h41 => ?_) (fun hb40 h42 => ?_)
  ·refine Lg hb40 hs37.at0 ?_
   obtain ⟨r43, hr44, h45⟩ := bind_some h41
   refine Cg hb40 EP hs37 (HP N w36 F2 hs37.pers x0 a0_2 n0_2 hb0_2 (Sk hs0_2 le38) _ hr44) ?_
   rintro _ F3 w47 hs48 le49 rfl
   refine Vgs hb40 1 ?_
   refine Pk1 hb40 ?_
   refine Vs 1 ?_
   obtain rfl := Aa h45
   exact Sd ⟨rfl, F3, hs48.dr0, (le38.trans le49), fI⟩
  ·refine Ss hb40 3 ?_
   refine Pk0 hb40 ?_
   refine Vs 1 ?_
   obtain rfl := Aa h42
   exact Sd ⟨rfl, F2, hs37.dr0, le38, fI⟩
 ·rintro f w24 ⟨F1, hs25, le26, ⟨_, rfl⟩⟩
  refine Ac ?_
  refine Rt ?_
  obtain rfl := Aa h31
  exact Re [(.bool j27)] hs25 rfl
def Dm (N : Nat) (x0 : Expr) : Option Bool :=
 (((Ff N x0).bind fun r32 => (bif (decide (r32 <= 32)) then ((Ga N x0).bind fun r43 => some (r43 != 0)) else some false)).bind fun j27 => some j27)
theorem I2 : Al Tryz.prog 95 := fun _ _ => by kernel_rfl
theorem JD (N : Nat) (w0 : World) (F0 : Mem) (hF : SH w0 F0) (x0 : Expr) (a0_2 : SG) (n0_2 : Nat) (hb0_2 : LC x0.Kids.length n0_2) (hs0_2 : SlA Ao F0 a0_2 x0.Kids) (r : Bool) (h : Dm N x0 = some r) :
  Calls Tryz.prog 95 ([(.agg (Ag x0 a0_2 n0_2))] : List Value).toArray w0 (AJ w0 F0 fun F' v => v = (.bool r)) := by
 have hs0 := Sj hF
 refine Go 11 Tryz.func95 ?_
 refine Sq (Rg [0, 1] ?_)
 refine Bx' 33 (Ag x0 a0_2 n0_2) hs0 (fun b21 w22 hs23 => ?_)
 refine Vs 1 ?_
 refine Nss (Rg [0, 1, 2, 3, 4, 5, 6, 7, 8] ?_)
 obtain ⟨j27, hj30, h31⟩ := bind_some h
 refine Sn (fun f w => ∃ (F1 : Mem), HS w0 F0 w F1 [] /\ Sh F0 F1 /\ FI f [] [(2, (.bool j27))]) ?_ ?_
 ·refine Ld hs23.at0 ?_
  obtain ⟨r32, hr33, h34⟩ := bind_some hj30
  refine Cl' ER hs23 (HQ N w22 F0 hs23.pers x0 a0_2 n0_2 hb0_2 hs0_2 _ hr33) ?_
  rintro _ F2 w36 hs37 le38 rfl
  refine Vs 2 ?_
  refine Sp h34 (fun hb40 h41 => ?_) (fun hb40 h42 => ?_)
  ·refine Lg hb40 hs37.at0 ?_
   obtain ⟨r43, hr44, h45⟩ := bind_some h41
   refine Cg hb40 B7 hs37 (I6 N w36 F2 hs37.pers x0 a0_2 n0_2 hb0_2 (Sk hs0_2 le38) _ hr44) ?_
   rintro _ F3 w47 hs48 le49 rfl
   refine Vgs hb40 1 ?_
   refine Pk1 hb40 ?_
   refine Vs 1 ?_
   obtain rfl := Aa h45
   exact Sd ⟨rfl, F3, hs48.dr0, (le38.trans le49), fI⟩
  ·refine Ss hb40 3 ?_
   refine Pk0 hb40 ?_
   refine Vs 1 ?_
   obtain rfl := Aa h42
   exact Sd ⟨rfl, F2, hs37.dr0, le38, fI⟩
 ·rintro f w24 ⟨F1, hs25, le26, ⟨_, rfl⟩⟩
  refine Ac ?_
  refine Rt ?_
  obtain rfl := Aa h31
  exact Re [(.bool j27)] hs25 rfl
def FJ (N : Nat) (x0 : Expr) (x1 : Int) : Option Bool :=
 (((C9 N x0).bind fun r32 => (bif r32 then ((Dg N x0).bind fun r43 => some (r43 == x1)) else some false)).bind fun j27 => some j27)
theorem GW : Al Tryz.prog 124 := fun _ _ => by kernel_rfl
theorem H7 (N : Nat) (w0 : World) (F0 : Mem) (hF : SH w0 F0) (x0 : Expr) (a0_2 : SG) (n0_2 : Nat) (hb0_2 : LC x0.Kids.length n0_2) (hs0_2 : SlA Ao F0 a0_2 x0.Kids) (x1 : Int) (r : Bool) (h : FJ N x0 x1 = some r) :
  Calls Tryz.prog 124 ([(.agg (Ag x0 a0_2 n0_2)), (vi x1)] : List Value).toArray w0 (AJ w0 F0 fun F' v => v = (.bool r)) := by
 have hs0 := Sj hF
 refine Go 13 Tryz.func124 ?_
 refine Sq (Rg [0, 1] ?_)
 refine Bx' 33 (Ag x0 a0_2 n0_2) hs0 (fun b21 w22 hs23 => ?_)
 refine Vs 1 ?_
 refine Nss (Rg [0, 1, 2, 3, 4, 5, 6, 7, 8] ?_)
 obtain ⟨j27, hj30, h31⟩ := bind_some h
 refine Sn (fun f w => ∃ (F1 : Mem), HS w0 F0 w F1 [] /\ Sh F0 F1 /\ FI f [] [(4, (.bool j27))]) ?_ ?_
 ·refine Ld hs23.at0 ?_
  obtain ⟨r32, hr33, h34⟩ := bind_some hj30
  refine Cl' EM hs23 (FA N w22 F0 hs23.pers x0 a0_2 n0_2 hb0_2 hs0_2 _ hr33) ?_
  rintro _ F2 w36 hs37 le38 rfl
  refine Vs 1 ?_
  refine Sp h34 (fun hb40 h41 => ?_) (fun hb40 h42 => ?_)
  ·refine Lg hb40 hs37.at0 ?_
   obtain ⟨r43, hr44, h45⟩ := bind_some h41
   refine Cg hb40 C5 hs37 (EV N w36 F2 hs37.pers x0 a0_2 n0_2 hb0_2 (Sk hs0_2 le38) _ hr44) ?_
   rintro _ F3 w47 hs48 le49 rfl
   refine Vgs hb40 2 ?_
   refine Pk1 hb40 ?_
   refine Vs 1 ?_
   obtain rfl := Aa h45
   exact Sd ⟨rfl, F3, hs48.dr0, (le38.trans le49), fI⟩
  ·refine Ss hb40 4 ?_
   refine Pk0 hb40 ?_
   refine Vs 1 ?_
   obtain rfl := Aa h42
   exact Sd ⟨rfl, F2, hs37.dr0, le38, fI⟩
 ·rintro f w24 ⟨F1, hs25, le26, ⟨_, rfl⟩⟩
  refine Ac ?_
  refine Rt ?_
  obtain rfl := Aa h31
  exact Re [(.bool j27)] hs25 rfl
def Da (N : Nat) (x0 : Expr) (x1 : Int) : Option Bool :=
 (((Ff N x0).bind fun r32 => (bif (decide (r32 <= 32)) then ((Ga N x0).bind fun r43 => some (r43 == x1)) else some false)).bind fun j27 => some j27)
theorem EQ : Al Tryz.prog 126 := fun _ _ => by kernel_rfl
theorem FB (N : Nat) (w0 : World) (F0 : Mem) (hF : SH w0 F0) (x0 : Expr) (a0_2 : SG) (n0_2 : Nat) (hb0_2 : LC x0.Kids.length n0_2) (hs0_2 : SlA Ao F0 a0_2 x0.Kids) (x1 : Int) (r : Bool) (h : Da N x0 x1 = some r) :
  Calls Tryz.prog 126 ([(.agg (Ag x0 a0_2 n0_2)), (vi x1)] : List Value).toArray w0 (AJ w0 F0 fun F' v => v = (.bool r)) := by
 have hs0 := Sj hF
 refine Go 14 Tryz.func126 ?_
 refine Sq (Rg [0, 1] ?_)
 refine Bx' 33 (Ag x0 a0_2 n0_2) hs0 (fun b21 w22 hs23 => ?_)
 refine Vs 1 ?_
 refine Nss (Rg [0, 1, 2, 3, 4, 5, 6, 7, 8, 9] ?_)
 obtain ⟨j27, hj30, h31⟩ := bind_some h
 refine Sn (fun f w => ∃ (F1 : Mem), HS w0 F0 w F1 [] /\ Sh F0 F1 /\ FI f [] [(4, (.bool j27))]) ?_ ?_
 ·refine Ld hs23.at0 ?_
  obtain ⟨r32, hr33, h34⟩ := bind_some hj30
  refine Cl' ER hs23 (HQ N w22 F0 hs23.pers x0 a0_2 n0_2 hb0_2 hs0_2 _ hr33) ?_
  rintro _ F2 w36 hs37 le38 rfl
  refine Vs 2 ?_
  refine Sp h34 (fun hb40 h41 => ?_) (fun hb40 h42 => ?_)
  ·refine Lg hb40 hs37.at0 ?_
   obtain ⟨r43, hr44, h45⟩ := bind_some h41
   refine Cg hb40 B7 hs37 (I6 N w36 F2 hs37.pers x0 a0_2 n0_2 hb0_2 (Sk hs0_2 le38) _ hr44) ?_
   rintro _ F3 w47 hs48 le49 rfl
   refine Vgs hb40 2 ?_
   refine Pk1 hb40 ?_
   refine Vs 1 ?_
   obtain rfl := Aa h45
   exact Sd ⟨rfl, F3, hs48.dr0, (le38.trans le49), fI⟩
  ·refine Ss hb40 4 ?_
   refine Pk0 hb40 ?_
   refine Vs 1 ?_
   obtain rfl := Aa h42
   exact Sd ⟨rfl, F2, hs37.dr0, le38, fI⟩
 ·rintro f w24 ⟨F1, hs25, le26, ⟨_, rfl⟩⟩
  refine Ac ?_
  refine Rt ?_
  obtain rfl := Aa h31
  exact Re [(.bool j27)] hs25 rfl
def CC (N : Nat) (x0 : Clause) : Option Bool :=
 (((FJ N x0.When 2).bind fun r32 => (bif r32 then ((FJ N x0.Then 1).bind fun r43 => some r43) else some false)).bind fun j27 => some j27)
theorem GP : Al Tryz.prog 123 := fun _ _ => by kernel_rfl
theorem Hv (N : Nat) (w0 : World) (F0 : Mem) (hF : SH w0 F0) (x0 : Clause) (a0_2 : SG) (n0_2 : Nat) (hb0_2 : LC x0.When.Kids.length n0_2) (hs0_2 : SlA Ao F0 a0_2 x0.When.Kids) (a0_5 : SG) (n0_5 : Nat) (hb0_5 : LC x0.Then.Kids.length n0_5) (hs0_5 : SlA Ao F0 a0_5 x0.Then.Kids) (r : Bool) (h : CC N x0 = some r) :
  Calls Tryz.prog 123 ([(.agg (Dq x0 a0_2 n0_2 a0_5 n0_5))] : List Value).toArray w0 (AJ w0 F0 fun F' v => v = (.bool r)) := by
 have hs0 := Sj hF
 refine Go 11 Tryz.func123 ?_
 refine Sq (Rg [0, 1] ?_)
 refine Bx' 56 (Dq x0 a0_2 n0_2 a0_5 n0_5) hs0 (fun b21 w22 hs23 => ?_)
 refine Vs 1 ?_
 refine Nss (Rg [0, 1, 2, 3, 4, 5, 6, 7, 8] ?_)
 obtain ⟨j27, hj30, h31⟩ := bind_some h
 refine Sn (fun f w => ∃ (F1 : Mem), HS w0 F0 w F1 [] /\ Sh F0 F1 /\ FI f [] [(2, (.bool j27))]) ?_ ?_
 ·refine Vs 1 ?_
  refine Ld hs23.at0 ?_
  obtain ⟨r32, hr33, h34⟩ := bind_some hj30
  refine Cl' GW hs23 (H7 N w22 F0 hs23.pers x0.When a0_2 n0_2 hb0_2 hs0_2 2 _ hr33) ?_
  rintro _ F2 w36 hs37 le38 rfl
  refine Vs 1 ?_
  refine Sp h34 (fun hb40 h41 => ?_) (fun hb40 h42 => ?_)
  ·refine Vgs hb40 1 ?_
   refine Lg hb40 hs37.at0 ?_
   obtain ⟨r43, hr44, h45⟩ := bind_some h41
   refine Cg hb40 GW hs37 (H7 N w36 F2 hs37.pers x0.Then a0_5 n0_5 hb0_5 (Sk hs0_5 le38) 1 _ hr44) ?_
   rintro _ F3 w47 hs48 le49 rfl
   refine Pk1 hb40 ?_
   refine Vs 1 ?_
   obtain rfl := Aa h45
   exact Sd ⟨rfl, F3, hs48.dr0, (le38.trans le49), fI⟩
  ·refine Ss hb40 3 ?_
   refine Pk0 hb40 ?_
   refine Vs 1 ?_
   obtain rfl := Aa h42
   exact Sd ⟨rfl, F2, hs37.dr0, le38, fI⟩
 ·rintro f w24 ⟨F1, hs25, le26, ⟨_, rfl⟩⟩
  refine Ac ?_
  refine Rt ?_
  obtain rfl := Aa h31
  exact Re [(.bool j27)] hs25 rfl
def Ey (N : Nat) (x0 : Clause) : Option Bool :=
 (((Da N x0.When 2).bind fun r32 => (bif r32 then ((Da N x0.Then 1).bind fun r43 => some r43) else some false)).bind fun j27 => some j27)
theorem J3 : Al Tryz.prog 174 := fun _ _ => by kernel_rfl
theorem K8 (N : Nat) (w0 : World) (F0 : Mem) (hF : SH w0 F0) (x0 : Clause) (a0_2 : SG) (n0_2 : Nat) (hb0_2 : LC x0.When.Kids.length n0_2) (hs0_2 : SlA Ao F0 a0_2 x0.When.Kids) (a0_5 : SG) (n0_5 : Nat) (hb0_5 : LC x0.Then.Kids.length n0_5) (hs0_5 : SlA Ao F0 a0_5 x0.Then.Kids) (r : Bool) (h : Ey N x0 = some r) :
  Calls Tryz.prog 174 ([(.agg (Dq x0 a0_2 n0_2 a0_5 n0_5))] : List Value).toArray w0 (AJ w0 F0 fun F' v => v = (.bool r)) := by
 have hs0 := Sj hF
 refine Go 11 Tryz.func174 ?_
 refine Sq (Rg [0, 1] ?_)
 refine Bx' 56 (Dq x0 a0_2 n0_2 a0_5 n0_5) hs0 (fun b21 w22 hs23 => ?_)
 refine Vs 1 ?_
 refine Nss (Rg [0, 1, 2, 3, 4, 5, 6, 7, 8] ?_)
 obtain ⟨j27, hj30, h31⟩ := bind_some h
 refine Sn (fun f w => ∃ (F1 : Mem), HS w0 F0 w F1 [] /\ Sh F0 F1 /\ FI f [] [(2, (.bool j27))]) ?_ ?_
 ·refine Vs 1 ?_
  refine Ld hs23.at0 ?_
  obtain ⟨r32, hr33, h34⟩ := bind_some hj30
  refine Cl' EQ hs23 (FB N w22 F0 hs23.pers x0.When a0_2 n0_2 hb0_2 hs0_2 2 _ hr33) ?_
  rintro _ F2 w36 hs37 le38 rfl
  refine Vs 1 ?_
  refine Sp h34 (fun hb40 h41 => ?_) (fun hb40 h42 => ?_)
  ·refine Vgs hb40 1 ?_
   refine Lg hb40 hs37.at0 ?_
   obtain ⟨r43, hr44, h45⟩ := bind_some h41
   refine Cg hb40 EQ hs37 (FB N w36 F2 hs37.pers x0.Then a0_5 n0_5 hb0_5 (Sk hs0_5 le38) 1 _ hr44) ?_
   rintro _ F3 w47 hs48 le49 rfl
   refine Pk1 hb40 ?_
   refine Vs 1 ?_
   obtain rfl := Aa h45
   exact Sd ⟨rfl, F3, hs48.dr0, (le38.trans le49), fI⟩
  ·refine Ss hb40 3 ?_
   refine Pk0 hb40 ?_
   refine Vs 1 ?_
   obtain rfl := Aa h42
   exact Sd ⟨rfl, F2, hs37.dr0, le38, fI⟩
 ·rintro f w24 ⟨F1, hs25, le26, ⟨_, rfl⟩⟩
  refine Ac ?_
  refine Rt ?_
  obtain rfl := Aa h31
  exact Re [(.bool j27)] hs25 rfl
theorem Rb {l : List Expr} {t : Int} : l.any (fun x => kd x != t) = !(decide (l.map kd = List.replicate l.length t)) := by
 induction l with
 | nil => rfl
 | cons x r ih =>
  rw [List.any_cons, ih, List.map_cons, List.length_cons, List.replicate_succ]
  by_cases h : kd x = t <;> simp [h]
section
variable {M : Nat}
theorem KP {q : Expr -> Option Int} {e : Expr} {t : Int} (hq : ∀ x, x ∈ e.Kids -> q x = some (kd x)) (h1 : e.Kids.length < M) (h2 : e.Kids.length < 9223372036854775808) {body : Int -> Option (Bi Bool Int)}
  (hb : ∀ s, body s = bif (decide (s < (e.Kids.length : Int))) then ((idx e.Kids s).bind fun x => ((q x).bind fun r => (bif (r != t) then some (.ret false) else some (.next (W64 (s + 1)))))) else some (.done s)) :
  ((A0 body M 0).bind fun o => o.k (fun r => some r) (fun _ => some true)) = some (decide (e.Kids.map kd = List.replicate e.Kids.length t)) := by
 rw [Gc e.Kids (fun x => kd x != t) (fun _ => false) (fun i hi => by
  rw [hb, H0 hi, cond_true, CE hi, Option.bind_some, hq _ (List.getElem_mem hi), Option.bind_some]) (by rw [hb, H1, cond_false]) h1 h2, Rb]
 cases decide (e.Kids.map kd = List.replicate e.Kids.length t) <;> rfl
theorem Pz {a b : Nat} : ((a : Int) != (b : Int)) = decide (a ≠ b) := by
 by_cases h : a = b
 ·subst h; simp
 ·simp [h]; omega
theorem LQ {k : Nat} {e : Expr} {t : Int} {c : Nat} {L : Int -> Option (Bi Bool Int)} (hL : (e.Kids.length = c) -> ((A0 L M 0).bind fun o => o.k (fun r => some r) (fun _ => some true)) = some (decide (e.Kids.map kd = List.replicate e.Kids.length t))) :
  (bif (((e.Kids.length : Int) != (c : Int)) || (e.Value != 0)) then some false else ((A0 L M 0).bind fun o => o.k (fun r => some r) (fun _ => some true))) = some (decide (e.Value = 0 /\ e.Kids.map kd = List.replicate c t)) := by
 rw [Pz]
 by_cases h : e.Kids.length = c
 ·by_cases hv : e.Value = 0
  ·have : (decide (e.Kids.length ≠ c) || (e.Value != 0)) = false := by simp [h, hv]
   rw [this, cond_false, hL h, h]
   simp [hv]
  ·have : (decide (e.Kids.length ≠ c) || (e.Value != 0)) = true := by simp [hv]
   rw [this, cond_true]; simp [hv]
 ·have : (decide (e.Kids.length ≠ c) || (e.Value != 0)) = true := by simp [h]
  rw [this, cond_true]
  have : ¬ e.Kids.map kd = List.replicate c t := fun he => h (by have := congrArg List.length he; simpa using this)
  simp [this]
theorem N2 : ∀ {n k : Nat} {e : Expr}, Ht M n e -> 2 * n <= k -> 4 <= M -> (BO M k).q117 e = some (kd e)
 | 0, _, _, h, _, _ => h.elim
 | n + 1, 0, _, _, h, _ => absurd h (by omega)
 | n + 1, 1, _, _, h, _ => absurd h (by omega)
 | n + 1, k + 2, e, ⟨h1, h2, h3⟩, hk, hM => by
  have hq : ∀ x, x ∈ e.Kids -> (BO M (k + 1)).q117 x = some (kd x) := fun x hx => N2 (h3 x hx) (by omega) hM
  have hq' : ∀ x, x ∈ e.Kids -> (BO M k).q117 x = some (kd x) := fun x hx => N2 (h3 x hx) (by omega) hM
  have ht : ∀ c : Nat, (BO M (k + 1)).q170 e (c : Int) = some (decide (e.Value = 0 /\ e.Kids.map kd = List.replicate c 2)) := fun c => by
   show Dk M (BO M k).q117 e c = _
   unfold Dk
   exact LQ (k := k) fun hc => KP hq' h1 h2 fun s => by unfold Eb; rw [hc]
  have hn : ∀ c : Nat, (BO M (k + 1)).q171 e (c : Int) = some (decide (e.Value = 0 /\ e.Kids.map kd = List.replicate c 1)) := fun c => by
   show C3 M (BO M k).q117 e c = _
   unfold C3
   exact LQ (k := k) fun hc => KP hq' h1 h2 fun s => by unfold DL; rw [hc]
  have ht1 := ht 1
  have ht2 := ht 2
  have hn2 := hn 2
  rw [show ((1 : Nat) : Int) = 1 from rfl] at ht1
  rw [show ((2 : Nat) : Int) = 2 from rfl] at ht2 hn2
  show Ew M (BO M (k + 1)).q117 (BO M (k + 1)).q170 (BO M (k + 1)).q171 e = _
  unfold Ew
  rw [PG]
  unfold kf
  by_cases h1 : e.Op = 1
  ·simp only [h1, beq_self_eq_true, cond_true, Option.bind_some, if_true]
   by_cases hv : 0 <= e.Value /\ e.Value <= 1000000 /\ e.Kids = []
   ·obtain ⟨a, b, c⟩ := hv
    simp [a, b, c]
   ·rw [if_neg (by rintro ⟨a, b, c⟩; exact hv ⟨a, b, by simpa using c⟩)]
    have : ((e.Kids.length : Int) == 0 && (decide (e.Value >= 0) && decide (e.Value <= 1000000))) = false := by
     rw [Bool.eq_false_iff]
     intro h
     simp only [Bool.and_eq_true, decide_eq_true_eq, beq_iff_eq] at h
     exact hv ⟨h.2.1, h.2.2, List.length_eq_zero_iff.1 (by omega)⟩
    rw [this]; rfl
  by_cases h2 : e.Op = 2
  ·simp only [h2, beq_self_eq_true, cond_true, Option.bind_some, if_true]
   by_cases hv : 0 <= e.Value /\ e.Value <= 13 /\ e.Kids = []
   ·obtain ⟨a, b, c⟩ := hv
    have b' : e.Value < 14 := by omega
    simp [a, b, b', c]
   ·rw [show (if (2 : Int) = 1 then some ((1000000 : Int), (1 : Int), ([] : List Int)) else some (13, 1, [])) = some (13, 1, []) from by decide]
    simp only
    rw [if_neg (by rintro ⟨a, b, c⟩; exact hv ⟨a, b, by simpa using c⟩)]
    have : ((e.Kids.length : Int) == 0 && (decide (e.Value >= 0) && decide (e.Value < 14))) = false := by
     rw [Bool.eq_false_iff]
     intro h
     simp only [Bool.and_eq_true, decide_eq_true_eq, beq_iff_eq] at h
     exact hv ⟨h.2.1, by omega, List.length_eq_zero_iff.1 (by omega)⟩
    rw [this]; rfl
  have b : ∀ z : Int, e.Op ≠ z -> (e.Op == z) = false := fun z hz => by simpa using hz
  have hz : ∀ l : List Int, (0 <= e.Value /\ e.Value <= 0 /\ e.Kids.map kd = l) ↔ (e.Value = 0 /\ e.Kids.map kd = l) := fun l => ⟨fun ⟨a, b, c⟩ => ⟨by omega, c⟩, fun ⟨a, c⟩ => ⟨by omega, by omega, c⟩⟩
  have fin : ∀ (c : Bool) (f : Int), (bif c then some f else some 0) = some (if c = true then f else 0) := fun c f => by cases c <;> rfl
  by_cases h3 : e.Op = 3
  ·simp only [h3, b _ h1, b _ h2, ht1, cond_false, beq_self_eq_true, cond_true, Option.bind_some]
   simp only [show ¬ (3 : Int) = 1 from by decide, show ¬ (3 : Int) = 2 from by decide, if_false, if_true, hz, List.replicate]
   by_cases hd : e.Value = 0 /\ e.Kids.map kd = [2]
   ·rw [if_pos hd, decide_eq_true hd]; rfl
   ·rw [if_neg hd, decide_eq_false hd]; rfl
  by_cases h4 : e.Op = 4 \/ e.Op = 5
  ·have hc : (bif e.Op == 4 then e.Op == 4 else e.Op == 5) = true := by rcases h4 with h | h <;> rw [h] <;> rfl
   simp only [b _ h1, b _ h2, b _ h3, hc, ht2, cond_false, beq_self_eq_true, cond_true, Option.bind_some, if_neg h1, if_neg h2, if_neg h3, if_pos h4, hz, List.replicate]
   by_cases hd : e.Value = 0 /\ e.Kids.map kd = [2, 2]
   ·rw [if_pos hd, decide_eq_true hd]; rfl
   ·rw [if_neg hd, decide_eq_false hd]; rfl
  by_cases h6 : e.Op = 6 \/ e.Op = 7
  ·have h4' := not_or.1 h4
   have hc : (bif e.Op == 6 then e.Op == 6 else e.Op == 7) = true := by rcases h6 with h | h <;> rw [h] <;> rfl
   simp only [b _ h1, b _ h2, b _ h3, b _ h4'.1, b _ h4'.2, hc, hn2, cond_false, beq_self_eq_true, cond_true, Option.bind_some, if_neg h1, if_neg h2, if_neg h3, if_neg h4, if_pos h6, hz, List.replicate]
   by_cases hd : e.Value = 0 /\ e.Kids.map kd = [1, 1]
   ·rw [if_pos hd, decide_eq_true hd]; rfl
   ·rw [if_neg hd, decide_eq_false hd]; rfl
  by_cases h8 : e.Op = 8 \/ e.Op = 9 \/ e.Op = 10
  ·have h4' := not_or.1 h4
   have h6' := not_or.1 h6
   have hc : (bif e.Op == 8 then e.Op == 8 else bif e.Op == 9 then e.Op == 9 else e.Op == 10) = true := by rcases h8 with h | h | h <;> rw [h] <;> rfl
   simp only [b _ h1, b _ h2, b _ h3, b _ h4'.1, b _ h4'.2, b _ h6'.1, b _ h6'.2, hc, hn2, cond_false, beq_self_eq_true, cond_true, Option.bind_some, if_neg h1, if_neg h2, if_neg h3, if_neg h4, if_neg h6, if_pos h8, hz, List.replicate]
   by_cases hd : e.Value = 0 /\ e.Kids.map kd = [1, 1]
   ·rw [if_pos hd, decide_eq_true hd]; rfl
   ·rw [if_neg hd, decide_eq_false hd]; rfl
  have h4' := not_or.1 h4
  have h6' := not_or.1 h6
  have h8' := not_or.1 h8
  have h9' := not_or.1 h8'.2
  by_cases h11 : e.Op = 11
  ·simp only [b _ h1, b _ h2, b _ h3, b _ h4'.1, b _ h4'.2, b _ h6'.1, b _ h6'.2, b _ h8'.1, b _ h9'.1, b _ h9'.2, cond_false, if_neg h1, if_neg h2, if_neg h3, if_neg h4, if_neg h6, if_neg h8, if_pos h11]
   simp only [h11, beq_self_eq_true, cond_true]
   have fin : ∀ (o : Option Bool) (c : Bool), o = some c -> ((((o.bind fun j208 => some j208).bind fun j176 => some (j176, false)).bind fun j135 : Bool × Bool => some (j135.1, j135.2)).bind fun j27 => (bif j27.1 then some (1 : Int) else (bif j27.2 then some 2 else some 0))) = some (if c = true then 1 else 0) := by
    rintro _ c rfl; cases c <;> rfl
   by_cases hv : e.Value = 0
   ·by_cases hl : e.Kids.length = 3
    ·obtain ⟨a, b', c, hk⟩ : ∃ a b c, e.Kids = [a, b, c] := by
      match he : e.Kids, hl with
      | [a, b, c], _ => exact ⟨a, b, c, rfl⟩
     have qa := hq a (by rw [hk]; simp)
     have qb := hq b' (by rw [hk]; simp)
     have qc := hq c (by rw [hk]; simp)
     have i0 : idx e.Kids 0 = some a := by rw [hk]; rfl
     have i1 : idx e.Kids 1 = some b' := by rw [hk]; rfl
     have i2 : idx e.Kids 2 = some c := by rw [hk]; rfl
     have el : ((e.Kids.length : Int) == 3) = true := by rw [hl]; rfl
     simp only [hv, el, i0, i1, i2, qa, qb, qc, beq_self_eq_true, cond_true, Option.bind_some]
     rw [hk]
     simp only [List.map_cons, List.map_nil, List.cons.injEq, and_true, Int.le_refl, true_and]
     by_cases ka : kd a = 2 <;> by_cases kb : kd b' = 1 <;> by_cases kc : kd c = 1 <;> simp [ka, kb, kc, Bool.cond_eq_ite]
    ·have el : ((e.Kids.length : Int) == 3) = false := by simp; omega
     simp only [hv, el, beq_self_eq_true, cond_true, cond_false, Option.bind_some]
     rw [if_neg (by rintro ⟨_, _, c⟩; exact hl (by have := congrArg List.length c; simpa using this))]
   ·have ev : (e.Value == 0) = false := by simpa using hv
    simp only [ev, cond_false, Option.bind_some]
    rw [if_neg (by rintro ⟨a, b, _⟩; exact hv (by omega))]
  ·simp only [b _ h1, b _ h2, b _ h3, b _ h4'.1, b _ h4'.2, b _ h6'.1, b _ h6'.2, b _ h8'.1, b _ h9'.1, b _ h9'.2, b _ h11, cond_false, if_neg h1, if_neg h2, if_neg h3, if_neg h4, if_neg h6, if_neg h8, if_neg h11, Option.bind_some]
end
def Br (N : Nat) (x0 : Expr) : Option Int :=
 ((GE N x0).bind fun r24 => some r24)
theorem Dw : Al Tryz.prog 28 := fun _ _ => by kernel_rfl
theorem DX (N : Nat) (w0 : World) (F0 : Mem) (hF : SH w0 F0) (x0 : Expr) (a0_2 : SG) (n0_2 : Nat) (hb0_2 : LC x0.Kids.length n0_2) (hs0_2 : SlA Ao F0 a0_2 x0.Kids) (r : Int) (h : Br N x0 = some r) :
  Calls Tryz.prog 28 ([(.agg (Ag x0 a0_2 n0_2))] : List Value).toArray w0 (AJ w0 F0 fun F' v => v = (vi r)) := by
 have hs0 := Sj hF
 refine Go 5 Tryz.func28 ?_
 refine Sq (Rg [0, 1] ?_)
 refine Bx' 33 (Ag x0 a0_2 n0_2) hs0 (fun b21 w22 hs23 => ?_)
 refine Vs 1 ?_
 refine Nss (Rg [0, 1, 2] ?_)
 refine Ld hs23.at0 ?_
 obtain ⟨r24, hr25, h26⟩ := bind_some h
 refine Cl' G4 hs23 (LH N w22 F0 hs23.pers x0 a0_2 n0_2 hb0_2 hs0_2 _ hr25) ?_
 rintro _ F1 w28 hs29 le30 rfl
 refine Vs 1 ?_
 refine Nt ?_
 refine Rt ?_
 obtain rfl := Aa h26
 exact Re [(vi r24)] hs29 rfl
theorem GL {a b : Expr} (h1 : a.Op = b.Op) (h2 : a.Value = b.Value) (h3 : a.Kids = b.Kids) : a = b := by
 obtain ⟨_, _, _⟩ := a; obtain ⟨_, _, _⟩ := b; simp only at h1 h2 h3; subst h1 h2 h3; rfl
def Fit (N : Nat) (e : Expr) : Prop := ∃ n, Ht N n e /\ 2 * n + 10 <= N
section
variable {N : Nat} {e : Expr} (h : Fit N e)
include h
theorem Qb : GE N e = some (nd e) := by obtain ⟨n, h1, h2⟩ := h; exact OA h1 (by omega)
theorem MS : Ff N e = some (dp e) := by obtain ⟨n, h1, h2⟩ := h; exact Nd h1 (by omega)
theorem Qc : E9 N e = some (dp e) := by obtain ⟨n, h1, h2⟩ := h; exact OB h1 (by omega)
theorem MT : Dg N e = some (kd e) := by obtain ⟨n, h1, h2⟩ := h; exact Nf h1 (by omega)
theorem Pk : Ga N e = some (kd e) := by obtain ⟨n, h1, h2⟩ := h; exact N2 h1 (by omega) (by omega)
theorem Ke : Br N e = some (nd e) := by unfold Br; rw [Qb h]; rfl
end
def Ln (e : Expr) : Bool := decide (dp e <= 32) && decide (kd e ≠ 0)
def FE (e : Expr) (t : Int) : Bool := decide (dp e <= 32) && decide (kd e = t)
section
variable {N : Nat} {e : Expr} (h : Fit N e)
include h
theorem Oo : C9 N e = some (Ln e) := by
 unfold C9 Ln
 rw [MT h, Option.bind_some]
 by_cases hk : kd e = 0
 ·simp [hk]
 ·rw [show (kd e != 0) = true by simpa using hk, cond_true, Qc h]; simp [hk]
theorem NF : Dm N e = some (Ln e) := by
 unfold Dm Ln
 rw [MS h, Option.bind_some]
 by_cases hk : dp e <= 32
 ·rw [decide_eq_true hk, cond_true, Pk h]; simp [bne]; rfl
 ·simp [hk]
theorem Kp (t : Int) : Da N e t = some (FE e t) := by
 unfold Da FE
 rw [MS h, Option.bind_some]
 by_cases hk : dp e <= 32
 ·rw [decide_eq_true hk, cond_true, Pk h]; simp; rfl
 ·simp [hk]
theorem QT {t : Int} (ht : t ≠ 0) : FJ N e t = some (FE e t) := by
 unfold FJ
 rw [Oo h, Option.bind_some]
 unfold Ln FE
 by_cases hk : dp e <= 32
 ·by_cases h0 : kd e = 0
  ·have : ¬ kd e = t := by rw [h0]; exact fun h => ht h.symm
   simp [hk, h0, this]; exact fun h => ht h.symm
  ·rw [show (decide (dp e <= 32) && decide (kd e ≠ 0)) = true by simp [hk, h0], cond_true, MT h]; simp [hk]; rfl
 ·simp [hk]
end
def P4 (N : Nat) (c : Clause) : Prop := Fit N c.When /\ Fit N c.Then
def B2 (c : Clause) : Bool := FE c.When 2 && FE c.Then 1
theorem Pl {N : Nat} {c : Clause} (h : P4 N c) : Ey N c = some (B2 c) := by
 unfold Ey B2
 rw [Kp h.1, Option.bind_some, Kp h.2]
 cases FE c.When 2 <;> rfl
theorem Lp {N : Nat} {c : Clause} (h : P4 N c) : CC N c = some (B2 c) := by
 unfold CC B2
 rw [QT h.1 (by decide), Option.bind_some, QT h.2 (by decide)]
 cases FE c.When 2 <;> rfl
section
open Go.ChangeShapes Go.WideShapes Go.ChangeAt Go.RowKit
def Ii (x : Expr) : Prop := ∃ n, Ht 3518437208781 n x
theorem OE {M : Nat} : ∀ {l : List Expr}, (∀ x, x ∈ l -> ∃ n, Ht M n x) -> ∃ n, ∀ x, x ∈ l -> Ht M n x
 | [], _ => ⟨0, fun x hx => by cases hx⟩
 | a :: l, h => by
  obtain ⟨n, hn⟩ := h a (List.mem_cons_self ..)
  obtain ⟨m, hm⟩ := OE fun x hx => h x (List.mem_cons_of_mem _ hx)
  refine ⟨max n m, fun x hx => ?_⟩
  rcases List.mem_cons.1 hx with rfl | hx
  ·exact hn.le (by omega)
  ·exact (hm x hx).le (by omega)
theorem fld {H : Type} {enc : TypeId × Value -> H} {P : Program} {W : World} {fuel : Nat} {t e : TypeId} {cs : List Value} {x : DataW H × List MemPlace} {i off c : Nat} (hf : fieldAt P t i = some (e, off)) (hc : P.cellsOf e = c)
  (h : DataW.trod enc P W 0 (fun _ => true) true fuel t cs = some x) (hw : SzW P t x.1) : ∃ n y, fuel = n + 1 /\ DataW.trod enc P W 0 (fun _ => true) true n e ((cs.drop off).take c) = some y /\ SzW P e y.1 := by
 unfold fieldAt at hf
 cases hu : P.underlying t with
 | none => rw [hu] at hf; cases hf
 | some k =>
  rw [hu] at hf
  cases k <;> simp only at hf <;> first | cases hf | skip
  rename_i fs
  cases hi : fs[i]? with
  | none => rw [hi] at hf; cases hf
  | some f =>
   rw [hi] at hf
   simp only [Option.map_some, Option.some.injEq, Prod.mk.injEq] at hf
   obtain ⟨rfl, rfl⟩ := hf
   obtain ⟨xs, n, rfl, rfl, hlen, hxl, hf⟩ := DataW.trod_struct hu h
   have hlt : i < xs.length := by
    rw [hxl]
    rcases Nat.lt_or_ge i fs.size with h' | h'
    ·exact h'
    ·rw [Array.getElem?_eq_none h'] at hi; cases hi
   have := hf i f hi
   rw [List.getElem?_eq_getElem hlt, hc] at this
   refine ⟨n, _, rfl, this, ?_⟩
   unfold SzW at hw
   simp only [DataW.weights, hu] at hw
   refine SzW.each hw (j := i) ?_ ?_
   ·rw [List.getElem?_map, Array.getElem?_toList, hi]; rfl
   ·rw [List.getElem?_map, List.getElem?_eq_getElem hlt]; rfl
theorem Ht.mk {M n : Nat} {e : Expr} (h1 : e.Kids.length < M) (h2 : e.Kids.length < 9223372036854775808) (h3 : ∀ x, x ∈ e.Kids -> Ht M n x) : Ht M (n + 1) e := ⟨h1, h2, h3⟩
end
def Ij (x : Clause) : Prop := Ii x.When /\ Ii x.Then
def Ps (x : Be) : Prop := (fun l => l.length < 9223372036854775808 /\ ∀ x, x ∈ l -> Ij x) x.Points /\ (fun l => l.length < 9223372036854775808 /\ ∀ x, x ∈ l -> Ij x) x.Multipliers /\ (fun l => l.length < 9223372036854775808 /\ ∀ x, x ∈ l -> Ij x) x.Penalties /\ (fun l => l.length < 9223372036854775808 /\ ∀ x, x ∈ l -> Ii x) x.Repeats
def Oc (sR99 : Expr -> (List Int) -> Option Int) : Prop := ∀ (w0 : World) (F0 : Mem) (hF : SH w0 F0) (x0 : Expr) (a0_2 : SG) (n0_2 : Nat) (hb0_2 : LC x0.Kids.length n0_2) (hs0_2 : SlA Ao F0 a0_2 x0.Kids) (x1 : (List Int)) (a1_0 : SG) (n1_0 : Nat) (hb1_0 : LC x1.length n1_0) (hs1_0 : SlA Ck F0 a1_0 x1) (r : Int), sR99 x0 x1 = some r -> Calls Tryz.prog 99 ([(.agg #[(.int .i64 x0.Op), (.int .i64 x0.Value), (.slice a0_2 x0.Kids.length n0_2)]), (.slice a1_0 x1.length n1_0)] : List Value).toArray w0 (AJ w0 F0 fun F' v => v = (.int .i64 r))
theorem Dr : Al Tryz.prog 99 := fun _ _ => by kernel_rfl
def MK (sR155 : Int -> Expr -> (List Int) -> Option Int) : Prop := ∀ (w0 : World) (F0 : Mem) (hF : SH w0 F0) (x0 : Int) (bz0 : Nat) (z0 : Expr) (az0_2 : SG) (nz0_2 : Nat) (hbz0_2 : LC z0.Kids.length nz0_2) (hsz0_2 : SlA Ao F0 az0_2 z0.Kids) (hz0 : F0 bz0 = some (.cells #[(.int .i64 z0.Op), (.int .i64 z0.Value), (.slice az0_2 z0.Kids.length nz0_2)] 33 (0, 0))) (bz1 : Nat) (z1 : (List Int)) (az1_0 : SG) (nz1_0 : Nat) (hbz1_0 : LC z1.length nz1_0) (hsz1_0 : SlA Ck F0 az1_0 z1) (hz1 : F0 bz1 = some (.cells #[(.slice az1_0 z1.length nz1_0)] 47 (0, 0))) (r : Int), sR155 x0 z0 z1 = some r -> Calls Tryz.prog 155 ([(.int .i64 x0), (.pointer (some ⟨bz0, 0, none⟩)), (.pointer (some ⟨bz1, 0, none⟩))] : List Value).toArray w0 (AJ w0 F0 fun F' v => v = (.int .i64 r))
theorem AG : Al Tryz.prog 155 := fun _ _ => by kernel_rfl
def Gk (N : Nat) (sR99 : Expr -> (List Int) -> Option Int) (x0 : Int) (z0 : Expr) (z1 : (List Int)) : Option Int :=
 (((idx z0.Kids x0).bind fun x31 => ((sR99 x31 z1).bind fun r45 => some r45)).bind fun j26 => some j26)
theorem JE (N : Nat) (sR99 : Expr -> (List Int) -> Option Int) (hsR99 : Oc sR99) (w0 : World) (F0 : Mem) (hF : SH w0 F0) (x0 : Int) (bz0 : Nat) (z0 : Expr) (az0_2 : SG) (nz0_2 : Nat) (hbz0_2 : LC z0.Kids.length nz0_2) (hsz0_2 : SlA Ao F0 az0_2 z0.Kids) (hz0 : F0 bz0 = some (oc (Ag z0 az0_2 nz0_2) 33)) (bz1 : Nat) (z1 : (List Int)) (az1_0 : SG) (nz1_0 : Nat) (hbz1_0 : LC z1.length nz1_0) (hsz1_0 : SlA Ck F0 az1_0 z1) (hz1 : F0 bz1 = some (oc #[(.slice az1_0 z1.length nz1_0)] 47)) (r : Int) (h : Gk N sR99 x0 z0 z1 = some r) :
  Calls Tryz.prog 155 ([(vi x0), (pt bz0 0), (pt bz1 0)] : List Value).toArray w0 (AJ w0 F0 fun F' v => v = (vi r)) := by
 have hs0 := Sj hF
 refine Go 12 Tryz.func155 ?_
 refine Sq (Rg [0] ?_)
 refine Vs 1 ?_
 refine Nss ?_
 obtain ⟨j26, hj29, h30⟩ := bind_some h
 refine RD 8 8 [] [] hs0 (fun f w => ∃ (F1 : Mem), HS w0 F0 w F1 [] /\ Sh F0 F1 /\ FI f [] [(4, (vi j26))]) (fun wd21 hw22 => ?_) ?_
 ·refine Dv [0] ?_
  refine Dl 1 (fun _ hq => (hq.1.1 _ _ hz0)) ?_
  refine Dv [2] ?_
  obtain ⟨x31, hx32, h34⟩ := bind_some hj29
  obtain ⟨hi33, hx32'⟩ := Ap hx32
  obtain ⟨b35, o36, C37, E38, fz39, rfl, hF41, hE42⟩ := Su hsz0_2 hx32'
  obtain ⟨ae43_2, ne43_2, hc44, hbe43_2, hse43_2⟩ := (Az (hE42 _ _ hx32'))
  refine Di 3 hi33 ?_
  refine Dx 4 0 (fun _ hq => hq.1.1 _ _ hF41) hc44 ?_
  refine Dl 5 (fun _ hq => (hq.1.1 _ _ hz1)) ?_
  refine D1 6 ?_
  obtain ⟨r45, hr46, h47⟩ := bind_some h34
  refine DCl Dr hw22 (hsR99 wd21 F0 hw22.pers x31 ae43_2 ne43_2 hbe43_2 hse43_2 z1 az1_0 nz1_0 hbz1_0 hsz1_0 _ hr46) ?_
  rintro _ F2 w49 hs50 le51 rfl
  refine Dv [7] ?_
  obtain rfl := Aa h47
  exact SA (by kernel_rfl) ⟨F2, hs50, le51, fI⟩
 ·rintro f w23 ⟨F1, hs24, le25, ⟨_, rfl⟩⟩
  refine Ac ?_
  refine Rt ?_
  obtain rfl := Aa h30
  exact Re [(vi j26)] hs24 rfl
def Jg (N : Nat) (x0 : Bool) : Option Int :=
 (bif x0 then some 1 else some 0)
theorem I0 : Al Tryz.prog 156 := fun _ _ => by kernel_rfl
theorem JU (N : Nat) (w0 : World) (F0 : Mem) (hF : SH w0 F0) (x0 : Bool) (r : Int) (h : Jg N x0 = some r) :
  Calls Tryz.prog 156 ([(.bool x0)] : List Value).toArray w0 (AJ w0 F0 fun F' v => v = (vi r)) := by
 have hs0 := Sj hF
 refine Go 4 Tryz.func156 ?_
 refine Sq (Rg [0] ?_)
 refine Vs 1 ?_
 refine Nss ?_
 refine Sq (Rg [0] ?_)
 refine Vs 1 ?_
 refine Nt ?_
 refine Cd h (fun hb21 h22 => ?_) (fun hb21 h23 => ?_)
 ·refine Sq (Rg [0] ?_)
  refine Vs 1 ?_
  refine Nt ?_
  refine Rt ?_
  refine Ae ?_
  obtain rfl := Aa h22
  exact Re [(vi 1)] hs0 rfl
 ·refine Sc ?_
  refine Ac ?_
  refine Sq (Rg [0] ?_)
  refine Vs 1 ?_
  refine Nt ?_
  refine Rt ?_
  obtain rfl := Aa h23
  exact Re [(vi 0)] hs0 rfl
def FZ (N : Nat) (x0 : Int) : Option Int :=
 some (max (-1000000) (min 1000000 x0))
theorem Fx : Al Tryz.prog 157 := fun _ _ => by kernel_rfl
theorem Gf (N : Nat) (w0 : World) (F0 : Mem) (hF : SH w0 F0) (x0 : Int) (r : Int) (h : FZ N x0 = some r) :
  Calls Tryz.prog 157 ([(vi x0)] : List Value).toArray w0 (AJ w0 F0 fun F' v => v = (vi r)) := by
 have hs0 := Sj hF
 refine Go 6 Tryz.func157 ?_
 refine Sq (Rg [0] ?_)
 refine Vs 1 ?_
 refine Nss (Rg [0, 1, 2, 3] ?_)
 refine Vs 4 ?_
 refine Nt ?_
 refine Rt ?_
 obtain rfl := Aa h
 exact Re [(vi (max (-1000000) (min 1000000 x0)))] hs0 rfl
def HH (N : Nat) (sR155 : Int -> Expr -> (List Int) -> Option Int) (x0 : Expr) (x1 : (List Int)) : Option Int :=
 (bif (x0.Op == 1) then some x0.Value else (bif (x0.Op == 2) then ((idx x1 x0.Value).bind fun x33 => some x33) else (bif (x0.Op == 3) then ((sR155 0 x0 x1).bind fun r56 => some (W64 (1 - r56))) else (bif (x0.Op == 4) then ((sR155 0 x0 x1).bind fun r73 => ((sR155 1 x0 x1).bind fun r81 => some (W64 (r73 * r81)))) else (bif (x0.Op == 5) then ((sR155 0 x0 x1).bind fun r98 => ((sR155 1 x0 x1).bind fun r106 => some (max r98 r106))) else (bif (x0.Op == 6) then ((sR155 0 x0 x1).bind fun r123 => ((sR155 1 x0 x1).bind fun r131 => ((Jg N (r123 == r131)).bind fun r139 => some r139))) else (bif (x0.Op == 7) then ((sR155 0 x0 x1).bind fun r156 => ((sR155 1 x0 x1).bind fun r164 => ((Jg N (decide (r156 < r164))).bind fun r172 => some r172))) else (bif (x0.Op == 8) then ((sR155 0 x0 x1).bind fun r189 => ((sR155 1 x0 x1).bind fun r197 => ((FZ N (W64 (r189 + r197))).bind fun r205 => some r205))) else (bif (x0.Op == 9) then ((sR155 0 x0 x1).bind fun r222 => ((sR155 1 x0 x1).bind fun r230 => ((FZ N (W64 (r222 - r230))).bind fun r238 => some r238))) else (bif (x0.Op == 10) then ((sR155 0 x0 x1).bind fun r255 => ((sR155 1 x0 x1).bind fun r263 => ((FZ N (W64 (r255 * r263))).bind fun r271 => some r271))) else (bif (x0.Op == 11) then ((sR155 0 x0 x1).bind fun r288 => ((sR155 (W64 (2 - r288)) x0 x1).bind fun r296 => some r296)) else some 0)))))))))))
theorem La (N : Nat) (sR155 : Int -> Expr -> (List Int) -> Option Int) (hsR155 : MK sR155) (w0 : World) (F0 : Mem) (hF : SH w0 F0) (x0 : Expr) (a0_2 : SG) (n0_2 : Nat) (hb0_2 : LC x0.Kids.length n0_2) (hs0_2 : SlA Ao F0 a0_2 x0.Kids) (x1 : (List Int)) (a1_0 : SG) (n1_0 : Nat) (hb1_0 : LC x1.length n1_0) (hs1_0 : SlA Ck F0 a1_0 x1) (r : Int) (h : HH N sR155 x0 x1 = some r) :
  Calls Tryz.prog 99 ([(.agg (Ag x0 a0_2 n0_2)), (.slice a1_0 x1.length n1_0)] : List Value).toArray w0 (AJ w0 F0 fun F' v => v = (vi r)) := by
 have hs0 := Sj hF
 refine Go 86 Tryz.func99 ?_
 refine Sq (Rg [0, 1, 2] ?_)
 refine Bx' 33 (Ag x0 a0_2 n0_2) hs0 (fun b21 w22 hs23 => ?_)
 refine Bx' 47 #[(.slice a1_0 x1.length n1_0)] hs23 (fun b24 w25 hs26 => ?_)
 refine Vs 1 ?_
 refine Nss (Rg [0, 1] ?_)
 refine Vs 2 ?_
 refine Nss ?_
 refine Sq (Rg [0, 1] ?_)
 refine Vs 1 ?_
 refine Ld hs26.at1 ?_
 refine Nt ?_
 refine Bk ?_
 refine Sq (Rg [0, 1] ?_)
 refine Vs 2 ?_
 refine Nt ?_
 refine Cd h (fun hb27 h28 => ?_) (fun hb27 h29 => ?_)
 ·refine Sq (Rg [0, 1, 2] ?_)
  refine Vs 1 ?_
  refine Ld hs26.at1 ?_
  refine Vs 1 ?_
  refine Nt ?_
  refine Rt ?_
  refine Ai ?_
  refine Ae ?_
  obtain rfl := Aa h28
  exact Re [(vi x0.Value)] hs26 rfl
 ·refine Sq (Rg [0, 1] ?_)
  refine Vs 2 ?_
  refine Nt ?_
  refine Cd h29 (fun hb30 h31 => ?_) (fun hb30 h32 => ?_)
  ·refine Sq (Rg [0, 1, 2, 3, 4, 5] ?_)
   refine Ld hs26.at0 ?_
   refine Vs 1 ?_
   refine Ld hs26.at1 ?_
   obtain ⟨x33, hx34, h36⟩ := bind_some h31
   obtain ⟨hi35, hx34'⟩ := Ap hx34
   obtain ⟨b37, o38, C39, E40, fz41, rfl, hF43, hE44⟩ := Su hs1_0 hx34'
   have hc46 := hE44 _ _ hx34'
   refine Ix hi35 ?_
   refine Lx 0 (hs26.pers _ _ hF43) hc46 ?_
   refine Vs 1 ?_
   refine Nt ?_
   refine Rt ?_
   refine Ai ?_
   refine Ae ?_
   obtain rfl := Aa h36
   exact Re [(vi x33)] hs26 rfl
  ·refine Sq (Rg [0, 1] ?_)
   refine Vs 2 ?_
   refine Nt ?_
   refine Cd h32 (fun hb47 h48 => ?_) (fun hb47 h49 => ?_)
   ·refine Sq (Rg [0, 1, 2, 3] ?_)
    refine Vs 1 ?_
    obtain ⟨F1, hs50, le51, hF52⟩ := hs26.fc1
    obtain ⟨F2, hs53, le54, hF55⟩ := hs50.fc0
    obtain ⟨r56, hr57, h58⟩ := bind_some h48
    refine Cl' AG hs53 (hsR155 w25 F2 hs53.pers 0 b21 x0 a0_2 n0_2 hb0_2 (Sk hs0_2 (le51.trans le54)) (le54 _ _ hF52) b24 x1 a1_0 n1_0 hb1_0 (Sk hs1_0 (le51.trans le54)) hF55 _ hr57) ?_
    rintro _ F3 w60 hs61 le62 rfl
    refine Vs 2 ?_
    refine Nt ?_
    refine Rt ?_
    refine Ai ?_
    refine Ae ?_
    obtain rfl := Aa h58
    exact Re [(vi (W64 (1 - r56)))] hs61 rfl
   ·refine Sq (Rg [0, 1] ?_)
    refine Vs 2 ?_
    refine Nt ?_
    refine Cd h49 (fun hb64 h65 => ?_) (fun hb64 h66 => ?_)
    ·refine Sq (Rg [0, 1, 2, 3, 4, 5] ?_)
     refine Vs 1 ?_
     obtain ⟨F4, hs67, le68, hF69⟩ := hs26.fc1
     obtain ⟨F5, hs70, le71, hF72⟩ := hs67.fc0
     obtain ⟨r73, hr74, h75⟩ := bind_some h65
     refine Cl' AG hs70 (hsR155 w25 F5 hs70.pers 0 b21 x0 a0_2 n0_2 hb0_2 (Sk hs0_2 (le68.trans le71)) (le71 _ _ hF69) b24 x1 a1_0 n1_0 hb1_0 (Sk hs1_0 (le68.trans le71)) hF72 _ hr74) ?_
     rintro _ F6 w77 hs78 le79 rfl
     refine Vs 1 ?_
     obtain ⟨r81, hr82, h83⟩ := bind_some h75
     refine Cl' AG hs78 (hsR155 w77 F6 hs78.pers 1 b21 x0 a0_2 n0_2 hb0_2 (Sk hs0_2 ((le68.trans le71).trans le79)) ((le71.trans le79) _ _ hF69) b24 x1 a1_0 n1_0 hb1_0 (Sk hs1_0 ((le68.trans le71).trans le79)) (le79 _ _ hF72) _ hr82) ?_
     rintro _ F7 w85 hs86 le87 rfl
     refine Vs 2 ?_
     refine Nt ?_
     refine Rt ?_
     refine Ai ?_
     refine Ae ?_
     obtain rfl := Aa h83
     exact Re [(vi (W64 (r73 * r81)))] hs86 rfl
    ·refine Sq (Rg [0, 1] ?_)
     refine Vs 2 ?_
     refine Nt ?_
     refine Cd h66 (fun hb89 h90 => ?_) (fun hb89 h91 => ?_)
     ·refine Sq (Rg [0, 1, 2, 3, 4, 5] ?_)
      refine Vs 1 ?_
      obtain ⟨F8, hs92, le93, hF94⟩ := hs26.fc1
      obtain ⟨F9, hs95, le96, hF97⟩ := hs92.fc0
      obtain ⟨r98, hr99, h100⟩ := bind_some h90
      refine Cl' AG hs95 (hsR155 w25 F9 hs95.pers 0 b21 x0 a0_2 n0_2 hb0_2 (Sk hs0_2 (le93.trans le96)) (le96 _ _ hF94) b24 x1 a1_0 n1_0 hb1_0 (Sk hs1_0 (le93.trans le96)) hF97 _ hr99) ?_
      rintro _ F10 w102 hs103 le104 rfl
      refine Vs 1 ?_
      obtain ⟨r106, hr107, h108⟩ := bind_some h100
      refine Cl' AG hs103 (hsR155 w102 F10 hs103.pers 1 b21 x0 a0_2 n0_2 hb0_2 (Sk hs0_2 ((le93.trans le96).trans le104)) ((le96.trans le104) _ _ hF94) b24 x1 a1_0 n1_0 hb1_0 (Sk hs1_0 ((le93.trans le96).trans le104)) (le104 _ _ hF97) _ hr107) ?_
      rintro _ F11 w110 hs111 le112 rfl
      refine Vs 2 ?_
      refine Nt ?_
      refine Rt ?_
      refine Ai ?_
      refine Ae ?_
      obtain rfl := Aa h108
      exact Re [(vi (max r98 r106))] hs111 rfl
     ·refine Sq (Rg [0, 1] ?_)
      refine Vs 2 ?_
      refine Nt ?_
      refine Cd h91 (fun hb114 h115 => ?_) (fun hb114 h116 => ?_)
      ·refine Sq (Rg [0, 1, 2, 3, 4, 5, 6] ?_)
       refine Vs 1 ?_
       obtain ⟨F12, hs117, le118, hF119⟩ := hs26.fc1
       obtain ⟨F13, hs120, le121, hF122⟩ := hs117.fc0
       obtain ⟨r123, hr124, h125⟩ := bind_some h115
       refine Cl' AG hs120 (hsR155 w25 F13 hs120.pers 0 b21 x0 a0_2 n0_2 hb0_2 (Sk hs0_2 (le118.trans le121)) (le121 _ _ hF119) b24 x1 a1_0 n1_0 hb1_0 (Sk hs1_0 (le118.trans le121)) hF122 _ hr124) ?_
       rintro _ F14 w127 hs128 le129 rfl
       refine Vs 1 ?_
       obtain ⟨r131, hr132, h133⟩ := bind_some h125
       refine Cl' AG hs128 (hsR155 w127 F14 hs128.pers 1 b21 x0 a0_2 n0_2 hb0_2 (Sk hs0_2 ((le118.trans le121).trans le129)) ((le121.trans le129) _ _ hF119) b24 x1 a1_0 n1_0 hb1_0 (Sk hs1_0 ((le118.trans le121).trans le129)) (le129 _ _ hF122) _ hr132) ?_
       rintro _ F15 w135 hs136 le137 rfl
       refine Vs 1 ?_
       obtain ⟨r139, hr140, h141⟩ := bind_some h133
       refine Cl' I0 hs136 (JU N w135 F15 hs136.pers ((r123 == r131)) _ hr140) ?_
       rintro _ F16 w143 hs144 le145 rfl
       refine Vs 1 ?_
       refine Nt ?_
       refine Rt ?_
       refine Ai ?_
       refine Ae ?_
       obtain rfl := Aa h141
       exact Re [(vi r139)] hs144 rfl
      ·refine Sq (Rg [0, 1] ?_)
       refine Vs 2 ?_
       refine Nt ?_
       refine Cd h116 (fun hb147 h148 => ?_) (fun hb147 h149 => ?_)
       ·refine Sq (Rg [0, 1, 2, 3, 4, 5, 6] ?_)
        refine Vs 1 ?_
        obtain ⟨F17, hs150, le151, hF152⟩ := hs26.fc1
        obtain ⟨F18, hs153, le154, hF155⟩ := hs150.fc0
        obtain ⟨r156, hr157, h158⟩ := bind_some h148
        refine Cl' AG hs153 (hsR155 w25 F18 hs153.pers 0 b21 x0 a0_2 n0_2 hb0_2 (Sk hs0_2 (le151.trans le154)) (le154 _ _ hF152) b24 x1 a1_0 n1_0 hb1_0 (Sk hs1_0 (le151.trans le154)) hF155 _ hr157) ?_
        rintro _ F19 w160 hs161 le162 rfl
        refine Vs 1 ?_
        obtain ⟨r164, hr165, h166⟩ := bind_some h158
        refine Cl' AG hs161 (hsR155 w160 F19 hs161.pers 1 b21 x0 a0_2 n0_2 hb0_2 (Sk hs0_2 ((le151.trans le154).trans le162)) ((le154.trans le162) _ _ hF152) b24 x1 a1_0 n1_0 hb1_0 (Sk hs1_0 ((le151.trans le154).trans le162)) (le162 _ _ hF155) _ hr165) ?_
        rintro _ F20 w168 hs169 le170 rfl
        refine Vs 1 ?_
        obtain ⟨r172, hr173, h174⟩ := bind_some h166
        refine Cl' I0 hs169 (JU N w168 F20 hs169.pers ((decide (r156 < r164))) _ hr173) ?_
        rintro _ F21 w176 hs177 le178 rfl
        refine Vs 1 ?_
        refine Nt ?_
        refine Rt ?_
        refine Ai ?_
        refine Ae ?_
        obtain rfl := Aa h174
        exact Re [(vi r172)] hs177 rfl
       ·refine Sq (Rg [0, 1] ?_)
        refine Vs 2 ?_
        refine Nt ?_
        refine Cd h149 (fun hb180 h181 => ?_) (fun hb180 h182 => ?_)
        ·refine Sq (Rg [0, 1, 2, 3, 4, 5, 6] ?_)
         refine Vs 1 ?_
         obtain ⟨F22, hs183, le184, hF185⟩ := hs26.fc1
         obtain ⟨F23, hs186, le187, hF188⟩ := hs183.fc0
         obtain ⟨r189, hr190, h191⟩ := bind_some h181
         refine Cl' AG hs186 (hsR155 w25 F23 hs186.pers 0 b21 x0 a0_2 n0_2 hb0_2 (Sk hs0_2 (le184.trans le187)) (le187 _ _ hF185) b24 x1 a1_0 n1_0 hb1_0 (Sk hs1_0 (le184.trans le187)) hF188 _ hr190) ?_
         rintro _ F24 w193 hs194 le195 rfl
         refine Vs 1 ?_
         obtain ⟨r197, hr198, h199⟩ := bind_some h191
         refine Cl' AG hs194 (hsR155 w193 F24 hs194.pers 1 b21 x0 a0_2 n0_2 hb0_2 (Sk hs0_2 ((le184.trans le187).trans le195)) ((le187.trans le195) _ _ hF185) b24 x1 a1_0 n1_0 hb1_0 (Sk hs1_0 ((le184.trans le187).trans le195)) (le195 _ _ hF188) _ hr198) ?_
         rintro _ F25 w201 hs202 le203 rfl
         refine Vs 1 ?_
         obtain ⟨r205, hr206, h207⟩ := bind_some h199
         refine Cl' Fx hs202 (Gf N w201 F25 hs202.pers ((W64 (r189 + r197))) _ hr206) ?_
         rintro _ F26 w209 hs210 le211 rfl
         refine Vs 1 ?_
         refine Nt ?_
         refine Rt ?_
         refine Ai ?_
         refine Ae ?_
         obtain rfl := Aa h207
         exact Re [(vi r205)] hs210 rfl
        ·refine Sq (Rg [0, 1] ?_)
         refine Vs 2 ?_
         refine Nt ?_
         refine Cd h182 (fun hb213 h214 => ?_) (fun hb213 h215 => ?_)
         ·refine Sq (Rg [0, 1, 2, 3, 4, 5, 6] ?_)
          refine Vs 1 ?_
          obtain ⟨F27, hs216, le217, hF218⟩ := hs26.fc1
          obtain ⟨F28, hs219, le220, hF221⟩ := hs216.fc0
          obtain ⟨r222, hr223, h224⟩ := bind_some h214
          refine Cl' AG hs219 (hsR155 w25 F28 hs219.pers 0 b21 x0 a0_2 n0_2 hb0_2 (Sk hs0_2 (le217.trans le220)) (le220 _ _ hF218) b24 x1 a1_0 n1_0 hb1_0 (Sk hs1_0 (le217.trans le220)) hF221 _ hr223) ?_
          rintro _ F29 w226 hs227 le228 rfl
          refine Vs 1 ?_
          obtain ⟨r230, hr231, h232⟩ := bind_some h224
          refine Cl' AG hs227 (hsR155 w226 F29 hs227.pers 1 b21 x0 a0_2 n0_2 hb0_2 (Sk hs0_2 ((le217.trans le220).trans le228)) ((le220.trans le228) _ _ hF218) b24 x1 a1_0 n1_0 hb1_0 (Sk hs1_0 ((le217.trans le220).trans le228)) (le228 _ _ hF221) _ hr231) ?_
          rintro _ F30 w234 hs235 le236 rfl
          refine Vs 1 ?_
          obtain ⟨r238, hr239, h240⟩ := bind_some h232
          refine Cl' Fx hs235 (Gf N w234 F30 hs235.pers ((W64 (r222 - r230))) _ hr239) ?_
          rintro _ F31 w242 hs243 le244 rfl
          refine Vs 1 ?_
          refine Nt ?_
          refine Rt ?_
          refine Ai ?_
          refine Ae ?_
          obtain rfl := Aa h240
          exact Re [(vi r238)] hs243 rfl
         ·refine Sq (Rg [0, 1] ?_)
          refine Vs 2 ?_
          refine Nt ?_
          refine Cd h215 (fun hb246 h247 => ?_) (fun hb246 h248 => ?_)
          ·refine Sq (Rg [0, 1, 2, 3, 4, 5, 6] ?_)
           refine Vs 1 ?_
           obtain ⟨F32, hs249, le250, hF251⟩ := hs26.fc1
           obtain ⟨F33, hs252, le253, hF254⟩ := hs249.fc0
           obtain ⟨r255, hr256, h257⟩ := bind_some h247
           refine Cl' AG hs252 (hsR155 w25 F33 hs252.pers 0 b21 x0 a0_2 n0_2 hb0_2 (Sk hs0_2 (le250.trans le253)) (le253 _ _ hF251) b24 x1 a1_0 n1_0 hb1_0 (Sk hs1_0 (le250.trans le253)) hF254 _ hr256) ?_
           rintro _ F34 w259 hs260 le261 rfl
           refine Vs 1 ?_
           obtain ⟨r263, hr264, h265⟩ := bind_some h257
           refine Cl' AG hs260 (hsR155 w259 F34 hs260.pers 1 b21 x0 a0_2 n0_2 hb0_2 (Sk hs0_2 ((le250.trans le253).trans le261)) ((le253.trans le261) _ _ hF251) b24 x1 a1_0 n1_0 hb1_0 (Sk hs1_0 ((le250.trans le253).trans le261)) (le261 _ _ hF254) _ hr264) ?_
           rintro _ F35 w267 hs268 le269 rfl
           refine Vs 1 ?_
           obtain ⟨r271, hr272, h273⟩ := bind_some h265
           refine Cl' Fx hs268 (Gf N w267 F35 hs268.pers ((W64 (r255 * r263))) _ hr272) ?_
           rintro _ F36 w275 hs276 le277 rfl
           refine Vs 1 ?_
           refine Nt ?_
           refine Rt ?_
           refine Ai ?_
           refine Ae ?_
           obtain rfl := Aa h273
           exact Re [(vi r271)] hs276 rfl
          ·refine Sq (Rg [0, 1] ?_)
           refine Vs 2 ?_
           refine Nt ?_
           refine Cd h248 (fun hb279 h280 => ?_) (fun hb279 h281 => ?_)
           ·refine Sq (Rg [0, 1, 2, 3, 4, 5] ?_)
            refine Vs 2 ?_
            obtain ⟨F37, hs282, le283, hF284⟩ := hs26.fc1
            obtain ⟨F38, hs285, le286, hF287⟩ := hs282.fc0
            obtain ⟨r288, hr289, h290⟩ := bind_some h280
            refine Cl' AG hs285 (hsR155 w25 F38 hs285.pers 0 b21 x0 a0_2 n0_2 hb0_2 (Sk hs0_2 (le283.trans le286)) (le286 _ _ hF284) b24 x1 a1_0 n1_0 hb1_0 (Sk hs1_0 (le283.trans le286)) hF287 _ hr289) ?_
            rintro _ F39 w292 hs293 le294 rfl
            refine Vs 1 ?_
            obtain ⟨r296, hr297, h298⟩ := bind_some h290
            refine Cl' AG hs293 (hsR155 w292 F39 hs293.pers ((W64 (2 - r288))) b21 x0 a0_2 n0_2 hb0_2 (Sk hs0_2 ((le283.trans le286).trans le294)) ((le286.trans le294) _ _ hF284) b24 x1 a1_0 n1_0 hb1_0 (Sk hs1_0 ((le283.trans le286).trans le294)) (le294 _ _ hF287) _ hr297) ?_
            rintro _ F40 w300 hs301 le302 rfl
            refine Vs 1 ?_
            refine Nt ?_
            refine Rt ?_
            refine Ai ?_
            refine Ae ?_
            obtain rfl := Aa h298
            exact Re [(vi r296)] hs301 rfl
           ·refine Sc ?_
            refine Aq ?_
            refine Ac ?_
            refine Sq (Rg [0] ?_)
            refine Vs 1 ?_
            refine Nt ?_
            refine Rt ?_
            obtain rfl := Aa h281
            exact Re [(vi 0)] hs26 rfl
structure RJ where
 q99 : Expr -> (List Int) -> Option Int
 q155 : Int -> Expr -> (List Int) -> Option Int
def Kz (N : Nat) : Nat -> RJ
 | 0 => ⟨fun _ _ => none, fun _ _ _ => none⟩
 | k + 1 => ⟨HH N (Kz N k).q155, Gk N (Kz N k).q99⟩
theorem M2 (N : Nat) : ∀ k, Oc (Kz N k).q99 /\ MK (Kz N k).q155
 | 0 => ⟨(by unfold Oc; intros; rename_i h; cases h), (by unfold MK; intros; rename_i h; cases h)⟩
 | k + 1 => by
  have ih := M2 N k
  exact ⟨@La N (Kz N k).q155 ih.2, @JE N (Kz N k).q99 ih.1⟩
def E0 (N : Nat) (x0 : Expr) (x1 : (List Int)) : Option Int := (Kz N N).q99 x0 x1
theorem Fz (N : Nat) (w0 : World) (F0 : Mem) (hF : SH w0 F0) (x0 : Expr) (a0_2 : SG) (n0_2 : Nat) (hb0_2 : LC x0.Kids.length n0_2) (hs0_2 : SlA Ao F0 a0_2 x0.Kids) (x1 : (List Int)) (a1_0 : SG) (n1_0 : Nat) (hb1_0 : LC x1.length n1_0) (hs1_0 : SlA Ck F0 a1_0 x1) (r : Int) (h : E0 N x0 x1 = some r) :
  Calls Tryz.prog 99 ([(.agg #[(.int .i64 x0.Op), (.int .i64 x0.Value), (.slice a0_2 x0.Kids.length n0_2)]), (.slice a1_0 x1.length n1_0)] : List Value).toArray w0 (AJ w0 F0 fun F' v => v = (.int .i64 r)) := (M2 N N).1 w0 F0 hF x0 a0_2 n0_2 hb0_2 hs0_2 x1 a1_0 n1_0 hb1_0 hs1_0 r h





def Cz (N : Nat) (x0 : (List Int)) (x1 : (Int -> Option Bool)) : Int -> Option (Bi Int Int) := fun s24 =>
 (bif (decide (s24 < (x0.length : Int))) then ((idx x0 s24).bind fun x47 => ((x1 x47).bind fun r61 => (bif r61 then some (.ret s24) else some (.next (W64 (s24 + 1)))))) else some (.done s24))
def CV (N : Nat) (x0 : (List Int)) (x1 : (Int -> Option Bool)) : Option Int :=
 ((A0 (Cz N x0 x1) N 0).bind fun o => o.k (fun r => some r) (fun s33 => some (-1)))
theorem EC : Al Tryz.prog 197 := fun _ _ => by kernel_rfl
theorem EU (N : Nat) (w0 : World) (F0 : Mem) (hF : SH w0 F0) (x0 : (List Int)) (a0_0 : SG) (n0_0 : Nat) (hb0_0 : LC x0.length n0_0) (hs0_0 : SlA Ck F0 a0_0 x0) (gx1 : FuncId) (fx1 kx1 : List Value) (x1 : Int -> Option Bool) (hox1 : Al Tryz.prog gx1) (hpx1 : Nv F0 gx1 fx1 kx1 x1) (r : Int) (h : CV N x0 x1 = some r) :
  Calls Tryz.prog 197 ([(.slice a0_0 x0.length n0_0), (.func (.func gx1) fx1.toArray kx1.toArray)] : List Value).toArray w0 (AJ w0 F0 fun F' v => v = (vi r)) := by
 have hs0 := Sj hF
 refine Go 19 Tryz.func197 ?_
 refine Sq (Rg [0] ?_)
 refine Vs 1 ?_
 refine Nss ?_
 refine Sq (Rg [0, 1, 2] ?_)
 refine Vs 3 ?_
 refine Nt ?_
 obtain ⟨o21, ho22, h23⟩ := bind_some h
 refine So (fun f w => ∃ (s33 : Int) (F2 : Mem), o21 = .done s33 /\ HS w0 F0 w F2 [] /\ Sh F0 F2 /\ FI f [] []) ?_ ?_
 ·refine Bk ?_
  refine Sg (by kernel_rfl) (fun m f w => ∃ (s24 : Int) (F1 : Mem), A0 (Cz N x0 x1) m s24 = some o21 /\ HS w0 F0 w F1 [] /\ Sh F0 F1 /\ FI f [] [(0, (.slice a0_0 x0.length n0_0)), (1, (.func (.func gx1) fx1.toArray kx1.toArray)), (7, (vi (x0.length : Int))), (8, (vi s24))]) N ⟨0, F0, ho22, hs0, (Si _), fI⟩ ?_
  rintro m38 f w25 ⟨s24, F1, hit39, hs26, le27, ⟨_, rfl⟩⟩
  obtain ⟨m40, fl41, rfl, hb42, hnx43⟩ := AQ hit39
  refine Sq (Rg [0] ?_)
  refine Vs 1 ?_
  refine Nss ?_
  refine Cd hb42 (fun hb44 h45 => ?_) (fun hb44 h46 => ?_)
  ·refine Sc ?_
   refine Ac ?_
   refine Sq ?_
   refine Bk ?_
   refine Sq (Rg [0, 1] ?_)
   refine Vs 2 ?_
   refine Nss (Rg [0, 1, 2, 3, 4, 5] ?_)
   refine Vs 3 ?_
   obtain ⟨x47, hx48, h50⟩ := bind_some h45
   obtain ⟨hi49, hx48'⟩ := Ap hx48
   obtain ⟨b51, o52, C53, E54, fz55, rfl, hF57, hE58⟩ := Su (Sk hs0_0 le27) hx48'
   have hc60 := hE58 _ _ hx48'
   refine Ix hi49 ?_
   refine Lx 0 (hs26.pers _ _ hF57) hc60 ?_
   obtain ⟨r61, hr62, h63⟩ := bind_some h50
   refine Cq hox1 hs26 (hpx1 w25 F1 x47 _ le27 hs26.pers hr62) ?_
   rintro _ F3 w65 hs66 le67 rfl
   refine Nt ?_
   refine Cd h63 (fun hb69 h70 => ?_) (fun hb69 h71 => ?_)
   ·refine Sq (Rg [0, 1] ?_)
    refine Vs 2 ?_
    refine Nt ?_
    refine Rt ?_
    refine Ai ?_
    refine Ae ?_
    refine Ae ?_
    refine Ai ?_
    have hret := BJ h70 hnx43
    subst hret
    refine .inr ?_
    refine Ae ?_
    obtain rfl := Aa h23
    exact Re [(vi s24)] hs66 rfl
   ·refine Sc ?_
    refine Aq ?_
    refine Ac ?_
    refine Rg [0, 1] ?_
    refine Vs 2 ?_
    refine Sd ?_
    have hn72 := AM h71 hnx43
    exact ⟨m40, Nat.lt_succ_self _, (W64 (s24 + 1)), F3, hn72, hs66, (le27.trans le67), fI⟩
  ·refine Ex ?_
   refine Av ?_
   refine Av ?_
   refine AE rfl ?_
   have ho73 := AX h46 hnx43
   exact .inl ⟨rfl, s24, F1, ho73, hs26, le27, fI⟩
 ·rintro f w34 ⟨s33, F2, rfl, hs35, le36, ⟨_, rfl⟩⟩
  have h74 := Bo h23
  refine Ac ?_
  refine Sq (Rg [0] ?_)
  refine Vs 1 ?_
  refine Nt ?_
  refine Rt ?_
  obtain rfl := Aa h74
  exact Re [(vi (-1))] hs35 rfl
def CA (N : Nat) (x0 : (List Int)) (x1 : (Int -> Option Bool)) : Option Bool :=
 ((CV N x0 x1).bind fun r21 => some (decide (r21 >= 0)))
theorem DN : Al Tryz.prog 153 := fun _ _ => by kernel_rfl
theorem D7 (N : Nat) (w0 : World) (F0 : Mem) (hF : SH w0 F0) (x0 : (List Int)) (a0_0 : SG) (n0_0 : Nat) (hb0_0 : LC x0.length n0_0) (hs0_0 : SlA Ck F0 a0_0 x0) (gx1 : FuncId) (fx1 kx1 : List Value) (x1 : Int -> Option Bool) (hox1 : Al Tryz.prog gx1) (hpx1 : Nv F0 gx1 fx1 kx1 x1) (r : Bool) (h : CA N x0 x1 = some r) :
  Calls Tryz.prog 153 ([(.slice a0_0 x0.length n0_0), (.func (.func gx1) fx1.toArray kx1.toArray)] : List Value).toArray w0 (AJ w0 F0 fun F' v => v = (.bool r)) := by
 have hs0 := Sj hF
 refine Go 9 Tryz.func153 ?_
 refine Sq (Rg [0] ?_)
 refine Vs 1 ?_
 refine Nss (Rg [0, 1, 2, 3, 4] ?_)
 refine Vs 2 ?_
 obtain ⟨r21, hr22, h23⟩ := bind_some h
 refine Cl' EC hs0 (EU N w0 F0 hs0.pers x0 a0_0 n0_0 hb0_0 hs0_0 gx1 fx1 kx1 x1 hox1 (fun w1 F1 y0 r le1 pe1 hr1 => hpx1 w1 F1 y0 r le1 pe1 hr1) _ hr22) ?_
 rintro _ F1 w25 hs26 le27 rfl
 refine Vs 2 ?_
 refine Nt ?_
 refine Rt ?_
 obtain rfl := Aa h23
 exact Re [(.bool (decide (r21 >= 0)))] hs26 rfl
def C7 (N : Nat) (x0 : Int) : Option Bool :=
 some ((decide (x0 < 0)) || (decide (x0 > 1000000)))
theorem Gs : Al Tryz.prog 154 := fun _ _ => by kernel_rfl
theorem G8 (N : Nat) (w0 : World) (F0 : Mem) (hF : SH w0 F0) (x0 : Int) (r : Bool) (h : C7 N x0 = some r) :
  Calls Tryz.prog 154 ([(vi x0)] : List Value).toArray w0 (AJ w0 F0 fun F' v => v = (.bool r)) := by
 have hs0 := Sj hF
 refine Go 9 Tryz.func154 ?_
 refine Sq (Rg [0] ?_)
 refine Vs 1 ?_
 refine Nss (Rg [0, 1, 2, 3, 4, 5, 6] ?_)
 refine Sn (fun f w => ∃ (F1 : Mem), HS w0 F0 w F1 [] /\ Sh F0 F1 /\ FI f [] [(2, (.bool ((decide (x0 < 0)) || (decide (x0 > 1000000)))))]) ?_ ?_
 ·refine Vs 3 ?_
  refine Sm (decide (x0 < 0)) (fun hb26 => ?_) (fun hb26 => ?_)
  ·refine Ss hb26 2 ?_
   refine Pk1 hb26 ?_
   refine Vs 1 ?_
   exact Sd ⟨rfl, F0, hs0, (Si _), (fJ ⟨(congrArg Value.bool (FL hb26 rfl)), trivial⟩)⟩
  ·refine Vgs hb26 2 ?_
   refine Pk0 hb26 ?_
   refine Vs 1 ?_
   exact Sd ⟨rfl, F0, hs0, (Si _), (fJ ⟨(congrArg Value.bool (BQ hb26 rfl)), trivial⟩)⟩
 ·rintro f w21 ⟨F1, hs22, le23, ⟨_, rfl⟩⟩
  refine Ac ?_
  refine Rt ?_
  obtain rfl := Aa h
  exact Re [(.bool ((decide (x0 < 0)) || (decide (x0 > 1000000))))] hs22 rfl
def FG (N : Nat) (x0 : (List Int)) : Option Bool :=
 ((bif ((x0.length : Int) == 14) then ((CA N x0 (fun y0 => C7 N y0)).bind fun r32 => some (!r32)) else some false).bind fun j24 => some j24)
theorem Hr : Al Tryz.prog 98 := fun _ _ => by kernel_rfl
theorem H5 (N : Nat) (w0 : World) (F0 : Mem) (hF : SH w0 F0) (x0 : (List Int)) (a0_0 : SG) (n0_0 : Nat) (hb0_0 : LC x0.length n0_0) (hs0_0 : SlA Ck F0 a0_0 x0) (r : Bool) (h : FG N x0 = some r) :
  Calls Tryz.prog 98 ([(.slice a0_0 x0.length n0_0)] : List Value).toArray w0 (AJ w0 F0 fun F' v => v = (.bool r)) := by
 have hs0 := Sj hF
 refine Go 11 Tryz.func98 ?_
 refine Sq (Rg [0] ?_)
 refine Vs 1 ?_
 refine Nss (Rg [0, 1, 2, 3, 4, 5, 6, 7, 8] ?_)
 obtain ⟨j24, hj27, h28⟩ := bind_some h
 refine Sn (fun f w => ∃ (F1 : Mem), HS w0 F0 w F1 [] /\ Sh F0 F1 /\ FI f [] [(2, (.bool j24))]) ?_ ?_
 ·refine Vs 4 ?_
  refine Sp hj27 (fun hb29 h30 => ?_) (fun hb29 h31 => ?_)
  ·refine Vgs hb29 1 ?_
   obtain ⟨r32, hr33, h34⟩ := bind_some h30
   refine Cg hb29 DN hs0 (D7 N w0 F0 hs0.pers x0 a0_0 n0_0 hb0_0 hs0_0 154 [] [] (fun y0 => C7 N y0) Gs (fun w1 F1 y0 r le1 pe1 hr1 => G8 N w1 F1 pe1  y0  r hr1) _ hr33) ?_
   rintro _ F2 w36 hs37 le38 rfl
   refine Vgs hb29 1 ?_
   refine Pk1 hb29 ?_
   refine Vs 1 ?_
   obtain rfl := Aa h34
   exact Sd ⟨rfl, F2, hs37, le38, fI⟩
  ·refine Ss hb29 3 ?_
   refine Pk0 hb29 ?_
   refine Vs 1 ?_
   obtain rfl := Aa h31
   exact Sd ⟨rfl, F0, hs0, (Si _), fI⟩
 ·rintro f w21 ⟨F1, hs22, le23, ⟨_, rfl⟩⟩
  refine Ac ?_
  refine Rt ?_
  obtain rfl := Aa h28
  exact Re [(.bool j24)] hs22 rfl

def hold (n : Int) : Int := max (-1000000) (min 1000000 n)
def RI (b : Bool) : Int := if b then 1 else 0
def vop (op v fv : Int) (l : List Int) : Int :=
 if op = 1 then v else if op = 2 then fv else if op = 3 then 1 - l[0]! else if op = 4 then min l[0]! l[1]! else if op = 5 then max l[0]! l[1]! else if op = 6 then RI (l[0]! == l[1]!)
 else if op = 7 then RI (decide (l[0]! < l[1]!)) else if op = 8 then hold (l[0]! + l[1]!) else if op = 9 then hold (l[0]! - l[1]!) else if op = 10 then hold (l[0]! * l[1]!)
 else if l[0]! = 1 then l[1]! else l[2]!
def val (f : List Int) (e : Expr) : Int := match e with
 | ⟨op, v, ks⟩ => vop op v f[v.toNat]! (ks.map fun x => val f x)
inductive Mk (e : Expr) : Int -> Prop
 | num (h : e.Op = 1) (h1 : 0 <= e.Value) (h2 : e.Value <= 1000000) (hk : e.Kids = []) : Mk e 1
 | field (h : e.Op = 2) (h1 : 0 <= e.Value) (h2 : e.Value <= 13) (hk : e.Kids = []) : Mk e 1
 | deny (h : e.Op = 3) (hv : e.Value = 0) (x : Expr) (hk : e.Kids = [x]) (h1 : kd x = 2) : Mk e 2
 | logic (h : e.Op = 4 \/ e.Op = 5) (hv : e.Value = 0) (x y : Expr) (hk : e.Kids = [x, y]) (h1 : kd x = 2) (h2 : kd y = 2) : Mk e 2
 | test (h : e.Op = 6 \/ e.Op = 7) (hv : e.Value = 0) (x y : Expr) (hk : e.Kids = [x, y]) (h1 : kd x = 1) (h2 : kd y = 1) : Mk e 2
 | sum (h : e.Op = 8 \/ e.Op = 9 \/ e.Op = 10) (hv : e.Value = 0) (x y : Expr) (hk : e.Kids = [x, y]) (h1 : kd x = 1) (h2 : kd y = 1) : Mk e 1
 | cond (h : e.Op = 11) (hv : e.Value = 0) (c x y : Expr) (hk : e.Kids = [c, x, y]) (h0 : kd c = 2) (h1 : kd x = 1) (h2 : kd y = 1) : Mk e 1
theorem RX {l : List Expr} {a : Int} (h : l.map kd = [a]) : ∃ x, l = [x] /\ kd x = a := by
 match l, h with
 | [x], h => exact ⟨x, rfl, by simpa using h⟩
theorem Q3 {l : List Expr} {a b : Int} (h : l.map kd = [a, b]) : ∃ x y, l = [x, y] /\ kd x = a /\ kd y = b := by
 match l, h with
 | [x, y], h => simp at h; exact ⟨x, y, rfl, h.1, h.2⟩
theorem RW {l : List Expr} {a b c : Int} (h : l.map kd = [a, b, c]) : ∃ x y z, l = [x, y, z] /\ kd x = a /\ kd y = b /\ kd z = c := by
 match l, h with
 | [x, y, z], h => simp at h; exact ⟨x, y, z, rfl, h.1, h.2.1, h.2.2⟩
theorem Rx {e : Expr} (h : kd e ≠ 0) : Mk e (kd e) := by
 rw [PG] at h ⊢
 cases hf : kf e.Op with
 | none => rw [hf] at h; exact absurd rfl h
 | some x =>
  obtain ⟨m, o, l⟩ := x
  rw [hf] at h
  simp only at h ⊢
  by_cases hc : 0 <= e.Value /\ e.Value <= m /\ e.Kids.map kd = l
  ·rw [if_pos hc]
   obtain ⟨c1, c2, c3⟩ := hc
   unfold kf at hf
   by_cases h1 : e.Op = 1
   ·rw [if_pos h1] at hf; cases hf; exact .num h1 c1 c2 (by simpa using c3)
   rw [if_neg h1] at hf
   by_cases h2 : e.Op = 2
   ·rw [if_pos h2] at hf; cases hf; exact .field h2 c1 c2 (by simpa using c3)
   rw [if_neg h2] at hf
   by_cases h3 : e.Op = 3
   ·rw [if_pos h3] at hf; cases hf; obtain ⟨x, hk, hx⟩ := RX c3; exact .deny h3 (by omega) x hk hx
   rw [if_neg h3] at hf
   by_cases h4 : e.Op = 4 \/ e.Op = 5
   ·rw [if_pos h4] at hf; cases hf; obtain ⟨x, y, hk, hx, hy⟩ := Q3 c3; exact .logic h4 (by omega) x y hk hx hy
   rw [if_neg h4] at hf
   by_cases h6 : e.Op = 6 \/ e.Op = 7
   ·rw [if_pos h6] at hf; cases hf; obtain ⟨x, y, hk, hx, hy⟩ := Q3 c3; exact .test h6 (by omega) x y hk hx hy
   rw [if_neg h6] at hf
   by_cases h8 : e.Op = 8 \/ e.Op = 9 \/ e.Op = 10
   ·rw [if_pos h8] at hf; cases hf; obtain ⟨x, y, hk, hx, hy⟩ := Q3 c3; exact .sum h8 (by omega) x y hk hx hy
   rw [if_neg h8] at hf
   by_cases h11 : e.Op = 11
   ·rw [if_pos h11] at hf; cases hf; obtain ⟨x, y, z, hk, hx, hy, hz⟩ := RW c3; exact .cond h11 (by omega) x y z hk hx hy hz
   rw [if_neg h11] at hf; cases hf
  ·rw [if_neg hc] at h; exact absurd rfl h

end Go.Proofs.YtaihlcdkcampbaaGreatDoor
namespace Go.Proofs
open Go.Shelf
def Tryz.lays137_ren : Go.Shelf.Ren := ⟨fun | 137 => 183 | 217 => 211 | 266 => 225 | n => n, fun | 9 => 9 | 5 => 5 | 3 => 3 | n => n, fun | n => n⟩
theorem Tryz.lays137 : Go.Proofs.Lays.n137 Tryz.prog Tryz.lays137_ren := {
 mixed := by kernel_rfl
 f137 := Tryz.func183.trans (congrArg some (by kernel_rfl))
 f217 := Tryz.func211.trans (congrArg some (by kernel_rfl))
 f266 := Tryz.func225.trans (congrArg some (by kernel_rfl))
 t3 := Tryz.underlying3
 a3 := Tryz.isAgg3
 z3 := Tryz.sizeOf3
 v3 := Tryz.zeroValue3
 t5 := Tryz.underlying5
 a5 := Tryz.isAgg5
 z5 := Tryz.sizeOf5
 v5 := Tryz.zeroValue5
 t9 := Tryz.underlying9
 a9 := Tryz.isAgg9
 z9 := Tryz.sizeOf9
 v9 := Tryz.zeroValue9 }
open Go.RowKit in
theorem Tryz.strings_IndexByte (s : ByteArray) (c : Int) (w : World) :
  Calls Tryz.prog 183 #[.string s, .int .u8 c] w fun e w' => e = .returned (.int .i64 (Lib.indexByte s.data.toList c.toNat.toUInt8)) /\ w' = w := Any.strings_IndexByte Tryz.lays137 s c w
def Tryz.laysM171_ren : Go.Shelf.Ren := ⟨fun | 171 => 151 | 243 => 196 | 246 => 218 | 283 => 228 | 284 => 229 | 285 => 230 | 286 => 231 | 129 => 209 | 317 => 235 | 318 => 236 | 319 => 237 | 320 => 238 | 337 => 241 | 338 => 242 | n => n, fun | 3 => 3 | 9 => 9 | 2 => 2 | 4 => 4 | 171 => 227 | 0 => 0 | 53 => 218 | 37 => 42 | 5 => 5 | 173 => 229 | 212 => 234 | 51 => 216 | 20 => 20 | 213 => 235 | 46 => 191 | 232 => 237 | 233 => 238 | n => n, fun | 17 => 1 | 18 => 2 | 19 => 3 | n => n⟩
theorem Tryz.laysM171 : Go.Proofs.LaysM.n171 Tryz.prog Tryz.laysM171_ren := {
 mixed := by kernel_rfl
 f129 := Tryz.func209.trans (congrArg some (by kernel_rfl))
 f171 := Tryz.func151.trans (congrArg some (by kernel_rfl))
 f243 := Tryz.func196.trans (congrArg some (by kernel_rfl))
 f246 := Tryz.func218.trans (congrArg some (by kernel_rfl))
 f283 := Tryz.func228.trans (congrArg some (by kernel_rfl))
 f284 := Tryz.func229.trans (congrArg some (by kernel_rfl))
 f285 := Tryz.func230.trans (congrArg some (by kernel_rfl))
 f286 := Tryz.func231.trans (congrArg some (by kernel_rfl))
 f317 := Tryz.func235.trans (congrArg some (by kernel_rfl))
 f318 := Tryz.func236.trans (congrArg some (by kernel_rfl))
 f319 := Tryz.func237.trans (congrArg some (by kernel_rfl))
 f320 := Tryz.func238.trans (congrArg some (by kernel_rfl))
 f337 := Tryz.func241.trans (congrArg some (by kernel_rfl))
 f338 := Tryz.func242.trans (congrArg some (by kernel_rfl))
 t0 := Tryz.underlying0
 a0 := Tryz.isAgg0
 z0 := Tryz.sizeOf0
 v0 := Tryz.zeroValue0
 t2 := Tryz.underlying2
 a2 := Tryz.isAgg2
 z2 := Tryz.sizeOf2
 v2 := Tryz.zeroValue2
 t3 := Tryz.underlying3
 a3 := Tryz.isAgg3
 z3 := Tryz.sizeOf3
 v3 := Tryz.zeroValue3
 t4 := Tryz.underlying4
 a4 := Tryz.isAgg4
 z4 := Tryz.sizeOf4
 v4 := Tryz.zeroValue4
 t5 := Tryz.underlying5
 a5 := Tryz.isAgg5
 z5 := Tryz.sizeOf5
 v5 := Tryz.zeroValue5
 t9 := Tryz.underlying9
 a9 := Tryz.isAgg9
 z9 := Tryz.sizeOf9
 v9 := Tryz.zeroValue9
 t20 := Tryz.underlying20
 a20 := Tryz.isAgg20
 z20 := Tryz.sizeOf20
 v20 := Tryz.zeroValue20
 t37 := Tryz.underlying42
 a37 := Tryz.isAgg42
 z37 := Tryz.sizeOf42
 v37 := Tryz.zeroValue42
 t46 := Tryz.underlying191
 a46 := Tryz.isAgg191
 z46 := Tryz.sizeOf191
 v46 := Tryz.zeroValue191
 t51 := Tryz.underlying216
 a51 := Tryz.isAgg216
 z51 := Tryz.sizeOf216
 v51 := Tryz.zeroValue216
 t53 := Tryz.underlying218
 a53 := Tryz.isAgg218
 z53 := Tryz.sizeOf218
 v53 := Tryz.zeroValue218
 t171 := Tryz.underlying227
 a171 := Tryz.isAgg227
 z171 := Tryz.sizeOf227
 v171 := Tryz.zeroValue227
 t173 := Tryz.underlying229
 a173 := Tryz.isAgg229
 z173 := Tryz.sizeOf229
 v173 := Tryz.zeroValue229
 t212 := Tryz.underlying234
 a212 := Tryz.isAgg234
 z212 := Tryz.sizeOf234
 v212 := Tryz.zeroValue234
 t213 := Tryz.underlying235
 a213 := Tryz.isAgg235
 z213 := Tryz.sizeOf235
 t232 := Tryz.underlying237
 a232 := Tryz.isAgg237
 z232 := Tryz.sizeOf237
 v232 := Tryz.zeroValue237
 t233 := Tryz.underlying238
 a233 := Tryz.isAgg238
 z233 := Tryz.sizeOf238
 v233 := Tryz.zeroValue238
 g17 := by kernel_rfl
 g18 := by kernel_rfl
 g19 := by kernel_rfl
 i0 := by kernel_rfl
 i2 := by kernel_rfl
 i3 := by kernel_rfl
 i4 := by kernel_rfl
 i5 := by kernel_rfl
 i9 := by kernel_rfl
 i20 := by kernel_rfl
 i37 := by kernel_rfl
 i46 := by kernel_rfl
 i51 := by kernel_rfl
 i53 := by kernel_rfl
 i171 := by kernel_rfl
 i173 := by kernel_rfl
 i212 := by kernel_rfl
 i232 := by kernel_rfl
 i233 := by kernel_rfl
 m17 := by kernel_rfl
 m18 := by kernel_rfl
 m19 := by kernel_rfl }
open Go.RowKit Go.Sort Go.Lib in
theorem Tryz.strconv_Itoa (n : Int) (h0 : -9223372036854775808 <= n) (h1 : n <= 9223372036854775807) (w : World) (htab : Lib.TabIs Tryz.prog w "internal/strconv.uint64pow10" .u64 Lib.pow10Tab) :
  Calls Tryz.prog 151 #[.int .i64 n] w fun e w' => e = .returned (.string ⟨(Lib.itoa n).toArray⟩) /\ ∃ k os, w' = grow (w.drewN k) os := Any.strconv_Itoa Tryz.laysM171 n h0 h1 w htab
def Tryz.laysC172_ren : Go.Shelf.Ren := ⟨fun | 172 => 248 | 244 => 251 | 245 => 252 | 247 => 253 | 279 => 254 | 280 => 255 | 281 => 256 | 282 => 257 | 287 => 258 | 316 => 259 | 171 => 151 | 205 => 260 | 321 => 261 | 322 => 262 | 243 => 196 | 246 => 218 | 283 => 228 | 284 => 229 | 285 => 230 | 286 => 231 | 129 => 209 | 317 => 235 | 318 => 236 | 319 => 237 | 320 => 238 | 337 => 241 | 338 => 242 | n => n, fun | 9 => 9 | 3 => 3 | 75 => 134 | 76 => 135 | 4 => 4 | 5 => 5 | 167 => 241 | 37 => 42 | 0 => 0 | 85 => 242 | 2 => 2 | 168 => 244 | 53 => 218 | 175 => 247 | 46 => 191 | 210 => 251 | 127 => 184 | 145 => 256 | 143 => 254 | 21 => 21 | 171 => 227 | 173 => 229 | 212 => 234 | 51 => 216 | 20 => 20 | 213 => 235 | 232 => 237 | 233 => 238 | 80 => 137 | n => n, fun | 15 => 4 | 16 => 5 | 17 => 1 | 18 => 2 | 19 => 3 | n => n⟩
theorem Tryz.laysC172 : Go.Proofs.LaysC.n172 Tryz.prog Tryz.laysC172_ren := {
 mixed := by kernel_rfl
 f129 := Tryz.func209.trans (congrArg some (by kernel_rfl))
 f171 := Tryz.func151.trans (congrArg some (by kernel_rfl))
 f172 := Tryz.func248.trans (congrArg some (by kernel_rfl))
 f205 := Tryz.func260.trans (congrArg some (by kernel_rfl))
 f243 := Tryz.func196.trans (congrArg some (by kernel_rfl))
 f244 := Tryz.func251.trans (congrArg some (by kernel_rfl))
 f245 := Tryz.func252.trans (congrArg some (by kernel_rfl))
 f246 := Tryz.func218.trans (congrArg some (by kernel_rfl))
 f247 := Tryz.func253.trans (congrArg some (by kernel_rfl))
 f279 := Tryz.func254.trans (congrArg some (by kernel_rfl))
 f280 := Tryz.func255.trans (congrArg some (by kernel_rfl))
 f281 := Tryz.func256.trans (congrArg some (by kernel_rfl))
 f282 := Tryz.func257.trans (congrArg some (by kernel_rfl))
 f283 := Tryz.func228.trans (congrArg some (by kernel_rfl))
 f284 := Tryz.func229.trans (congrArg some (by kernel_rfl))
 f285 := Tryz.func230.trans (congrArg some (by kernel_rfl))
 f286 := Tryz.func231.trans (congrArg some (by kernel_rfl))
 f287 := Tryz.func258.trans (congrArg some (by kernel_rfl))
 f316 := Tryz.func259.trans (congrArg some (by kernel_rfl))
 f317 := Tryz.func235.trans (congrArg some (by kernel_rfl))
 f318 := Tryz.func236.trans (congrArg some (by kernel_rfl))
 f319 := Tryz.func237.trans (congrArg some (by kernel_rfl))
 f320 := Tryz.func238.trans (congrArg some (by kernel_rfl))
 f321 := Tryz.func261.trans (congrArg some (by kernel_rfl))
 f322 := Tryz.func262.trans (congrArg some (by kernel_rfl))
 f337 := Tryz.func241.trans (congrArg some (by kernel_rfl))
 f338 := Tryz.func242.trans (congrArg some (by kernel_rfl))
 t0 := Tryz.underlying0
 a0 := Tryz.isAgg0
 z0 := Tryz.sizeOf0
 v0 := Tryz.zeroValue0
 t2 := Tryz.underlying2
 a2 := Tryz.isAgg2
 z2 := Tryz.sizeOf2
 v2 := Tryz.zeroValue2
 t3 := Tryz.underlying3
 a3 := Tryz.isAgg3
 z3 := Tryz.sizeOf3
 v3 := Tryz.zeroValue3
 t4 := Tryz.underlying4
 a4 := Tryz.isAgg4
 z4 := Tryz.sizeOf4
 v4 := Tryz.zeroValue4
 t5 := Tryz.underlying5
 a5 := Tryz.isAgg5
 z5 := Tryz.sizeOf5
 v5 := Tryz.zeroValue5
 t9 := Tryz.underlying9
 a9 := Tryz.isAgg9
 z9 := Tryz.sizeOf9
 v9 := Tryz.zeroValue9
 t20 := Tryz.underlying20
 a20 := Tryz.isAgg20
 z20 := Tryz.sizeOf20
 v20 := Tryz.zeroValue20
 t21 := Tryz.underlying21
 a21 := Tryz.isAgg21
 z21 := Tryz.sizeOf21
 v21 := Tryz.zeroValue21
 t37 := Tryz.underlying42
 a37 := Tryz.isAgg42
 z37 := Tryz.sizeOf42
 v37 := Tryz.zeroValue42
 t46 := Tryz.underlying191
 a46 := Tryz.isAgg191
 z46 := Tryz.sizeOf191
 v46 := Tryz.zeroValue191
 t51 := Tryz.underlying216
 a51 := Tryz.isAgg216
 z51 := Tryz.sizeOf216
 v51 := Tryz.zeroValue216
 t53 := Tryz.underlying218
 a53 := Tryz.isAgg218
 z53 := Tryz.sizeOf218
 v53 := Tryz.zeroValue218
 t75 := Tryz.underlying134
 a75 := Tryz.isAgg134
 z75 := Tryz.sizeOf134
 v75 := Tryz.zeroValue134
 t76 := Tryz.underlying135
 a76 := Tryz.isAgg135
 z76 := Tryz.sizeOf135
 v76 := Tryz.zeroValue135
 t85 := Tryz.underlying242
 a85 := Tryz.isAgg242
 z85 := Tryz.sizeOf242
 v85 := Tryz.zeroValue242
 t127 := Tryz.underlying184
 a127 := Tryz.isAgg184
 z127 := Tryz.sizeOf184
 v127 := Tryz.zeroValue184
 t143 := Tryz.underlying254
 a143 := Tryz.isAgg254
 z143 := Tryz.sizeOf254
 v143 := Tryz.zeroValue254
 t145 := Tryz.underlying256
 a145 := Tryz.isAgg256
 z145 := Tryz.sizeOf256
 v145 := Tryz.zeroValue256
 t167 := Tryz.underlying241
 a167 := Tryz.isAgg241
 z167 := Tryz.sizeOf241
 v167 := Tryz.zeroValue241
 t168 := Tryz.underlying244
 a168 := Tryz.isAgg244
 z168 := Tryz.sizeOf244
 v168 := Tryz.zeroValue244
 t171 := Tryz.underlying227
 a171 := Tryz.isAgg227
 z171 := Tryz.sizeOf227
 v171 := Tryz.zeroValue227
 t173 := Tryz.underlying229
 a173 := Tryz.isAgg229
 z173 := Tryz.sizeOf229
 v173 := Tryz.zeroValue229
 t175 := Tryz.underlying247
 a175 := Tryz.isAgg247
 z175 := Tryz.sizeOf247
 v175 := Tryz.zeroValue247
 t210 := Tryz.underlying251
 a210 := Tryz.isAgg251
 z210 := Tryz.sizeOf251
 v210 := Tryz.zeroValue251
 t212 := Tryz.underlying234
 a212 := Tryz.isAgg234
 z212 := Tryz.sizeOf234
 v212 := Tryz.zeroValue234
 t213 := Tryz.underlying235
 a213 := Tryz.isAgg235
 z213 := Tryz.sizeOf235
 t232 := Tryz.underlying237
 a232 := Tryz.isAgg237
 z232 := Tryz.sizeOf237
 v232 := Tryz.zeroValue237
 t233 := Tryz.underlying238
 a233 := Tryz.isAgg238
 z233 := Tryz.sizeOf238
 v233 := Tryz.zeroValue238
 g15 := by kernel_rfl
 g16 := by kernel_rfl
 g17 := by kernel_rfl
 g18 := by kernel_rfl
 g19 := by kernel_rfl
 t80 := Tryz.underlying137
 a80 := Tryz.isAgg137
 z80 := Tryz.sizeOf137
 v80 := Tryz.zeroValue137
 i0 := by kernel_rfl
 i2 := by kernel_rfl
 i3 := by kernel_rfl
 i4 := by kernel_rfl
 i5 := by kernel_rfl
 i9 := by kernel_rfl
 i20 := by kernel_rfl
 i21 := by kernel_rfl
 i37 := by kernel_rfl
 i46 := by kernel_rfl
 i51 := by kernel_rfl
 i53 := by kernel_rfl
 i75 := by kernel_rfl
 i76 := by kernel_rfl
 i80 := by kernel_rfl
 i85 := by kernel_rfl
 i127 := by kernel_rfl
 i143 := by kernel_rfl
 i145 := by kernel_rfl
 i167 := by kernel_rfl
 i168 := by kernel_rfl
 i171 := by kernel_rfl
 i173 := by kernel_rfl
 i175 := by kernel_rfl
 i210 := by kernel_rfl
 i212 := by kernel_rfl
 i232 := by kernel_rfl
 i233 := by kernel_rfl
 m15 := by kernel_rfl
 m16 := by kernel_rfl
 m17 := by kernel_rfl
 m18 := by kernel_rfl
 m19 := by kernel_rfl
 c0 := by kernel_rfl
 c2 := by kernel_rfl
 c3 := by kernel_rfl
 c4 := by kernel_rfl
 c5 := by kernel_rfl
 c9 := by kernel_rfl
 c20 := by kernel_rfl
 c21 := by kernel_rfl
 c37 := by kernel_rfl
 c46 := by kernel_rfl
 c51 := by kernel_rfl
 c53 := by kernel_rfl
 c75 := by kernel_rfl
 c76 := by kernel_rfl
 c80 := by kernel_rfl
 c85 := by kernel_rfl
 c127 := by kernel_rfl
 c143 := by kernel_rfl
 c145 := by kernel_rfl
 c167 := by kernel_rfl
 c168 := by kernel_rfl
 c171 := by kernel_rfl
 c173 := by kernel_rfl
 c175 := by kernel_rfl
 c210 := by kernel_rfl
 c212 := by kernel_rfl
 c213 := by kernel_rfl
 c232 := by kernel_rfl
 c233 := by kernel_rfl }
open Go.RowKit in
theorem Tryz.strconv_Atoi_ok (s : ByteArray) (hmax : s.size <= 9223372036854775806) (v : Int) (h : Lib.atoiAll s.data.toList = .ok v) (w : World) :
  Calls Tryz.prog 248 #[.string s] w fun e w' => e = .returned (.tuple #[.int .i64 v, .nilIface]) /\ (w' = w \/ ∃ t, w' = Lib.bytesWorld w 5 t) := Any.strconv_Atoi_ok Tryz.laysC172 s hmax v h w
open Go.RowKit in
theorem Tryz.strconv_Atoi_range_var (s : ByteArray) (hlim : s.size <= 281474976710656) (h : Lib.atoiAll s.data.toList = .range) (tp : TypeId) (p : Value) (w : World) (hvar : w.var? Tryz.prog "strconv.ErrRange" = some #[.iface tp p]) :
  Calls Tryz.prog 248 #[.string s] w fun e w' => ∃ N, e = .returned (.tuple #[.int .i64 (Lib.atoiSat s.data.toList), .iface 244 (.pointer (some ⟨N, 0, none⟩))]) /\ w.heap.size <= N /\ w'.heap[N]? = some (.cells #[.string ⟨#[65, 116, 111, 105]⟩, .string s, .iface tp p] 251 (0, 0)) /\ Below w.heap.size w w' := Any.strconv_Atoi_range_var Tryz.laysC172 s hlim h tp p w hvar
def Tryz.lays99_ren : Go.Shelf.Ren := ⟨fun | 99 => 182 | 206 => 210 | n => n, fun | 9 => 9 | 4 => 4 | 3 => 3 | n => n, fun | n => n⟩
theorem Tryz.lays99 : Go.Proofs.Lays.n99 Tryz.prog Tryz.lays99_ren := {
 mixed := by kernel_rfl
 f99 := Tryz.func182.trans (congrArg some (by kernel_rfl))
 f206 := Tryz.func210.trans (congrArg some (by kernel_rfl))
 t3 := Tryz.underlying3
 a3 := Tryz.isAgg3
 z3 := Tryz.sizeOf3
 v3 := Tryz.zeroValue3
 t4 := Tryz.underlying4
 a4 := Tryz.isAgg4
 z4 := Tryz.sizeOf4
 v4 := Tryz.zeroValue4
 t9 := Tryz.underlying9
 a9 := Tryz.isAgg9
 z9 := Tryz.sizeOf9
 v9 := Tryz.zeroValue9 }
open Go.RowKit Go.Lib in
theorem Tryz.strings_HasPrefix (s p : ByteArray) (w : World) :
  Calls Tryz.prog 182 #[.string s, .string p] w fun e w' => e = .returned (.bool (Lib.hasPrefix s.data.toList p.data.toList)) /\ w' = w := Any.strings_HasPrefix Tryz.lays99 s p w
end Go.Proofs
namespace Go.Proofs.YtaihlcdkcampbaaGreatDoor
end Go.Proofs.YtaihlcdkcampbaaGreatDoor
namespace Go.Proofs
open Go.Shelf
def Tryz.lays169_ren : Go.Shelf.Ren := ⟨fun | 169 => 109 | n => n, fun | 70 => 128 | 9 => 9 | 0 => 0 | 72 => 130 | 37 => 42 | 127 => 184 | 3 => 3 | 5 => 5 | n => n, fun | n => n⟩
theorem Tryz.lays169 : Go.Proofs.Lays.n169 Tryz.prog Tryz.lays169_ren := {
 mixed := by kernel_rfl
 f169 := Tryz.func109.trans (congrArg some (by kernel_rfl))
 t0 := Tryz.underlying0
 a0 := Tryz.isAgg0
 z0 := Tryz.sizeOf0
 v0 := Tryz.zeroValue0
 t3 := Tryz.underlying3
 a3 := Tryz.isAgg3
 z3 := Tryz.sizeOf3
 v3 := Tryz.zeroValue3
 t9 := Tryz.underlying9
 a9 := Tryz.isAgg9
 z9 := Tryz.sizeOf9
 v9 := Tryz.zeroValue9
 t37 := Tryz.underlying42
 a37 := Tryz.isAgg42
 z37 := Tryz.sizeOf42
 v37 := Tryz.zeroValue42
 t70 := Tryz.underlying128
 a70 := Tryz.isAgg128
 z70 := Tryz.sizeOf128
 v70 := Tryz.zeroValue128
 t72 := Tryz.underlying130
 a72 := Tryz.isAgg130
 z72 := Tryz.sizeOf130
 v72 := Tryz.zeroValue130
 t127 := Tryz.underlying184
 a127 := Tryz.isAgg184
 z127 := Tryz.sizeOf184
 v127 := Tryz.zeroValue184 }
theorem Tryz.Builder_Extra_169 : Builder.Extra Tryz.prog Tryz.lays169_ren := {
 sizeBuilder := by kernel_rfl
 liesBuilder := by kernel_rfl
 t5 := Tryz.underlying5
 a5 := Tryz.isAgg5
 z5 := Tryz.sizeOf5
 v5 := Tryz.zeroValue5
 infoByte := by kernel_rfl
 cellsByte := by kernel_rfl
 sizeByte := by kernel_rfl
 neB5 := by decide }
open Go.RowKit in
theorem Tryz.Builder_String_any (B b : Nat) (l : List UInt8) (w : World) (h : Lib.IsBuilder 130 5 B b (Lib.byteCells l) w) (hBw : B <= w.heap.size) :
  Calls Tryz.prog 109 #[.pointer (some ⟨b, 0, none⟩)] w fun e w' => e = .returned (.string ⟨l.toArray⟩) /\ Below B w w' := Any.Builder_String_any Tryz.lays169 Tryz.Builder_Extra_169 B b l w h hBw
end Go.Proofs
namespace Go.Proofs.YtaihlcdkcampbaaGreatDoor
section
open Go.Proofs Go.RowKit Go.Sort Go.Lib
end


def sz (e : Expr) : Nat := match e with
 | ⟨_, _, ks⟩ => 1 + (ks.map fun x => sz x).sum
theorem MR (e : Expr) : sz e = 1 + (e.Kids.map sz).sum := by cases e; rw [sz]
theorem Dp {e x : Expr} (h : x ∈ e.Kids) : sz x < sz e := by
 rw [MR e]
 have : ∀ l : List Expr, x ∈ l -> sz x <= (l.map sz).sum := by
  intro l
  induction l with
  | nil => intro h; cases h
  | cons a l ih =>
   intro h
   rw [List.map_cons, List.sum_cons]
   rcases List.mem_cons.1 h with rfl | h
   ·omega
   ·have := ih h; omega
 have := this _ h; omega
section
open Go.ChangeShapes Go.WideShapes Go.ChangeAt Go.RowKit
theorem Pb {H : Type} {α : Type} {S : α -> Nat} : ∀ {l : List α} {ds : List (DataW H)}, l.length = ds.length -> (∀ (i : Nat) (x : α) (d : DataW H), l[i]? = some x -> ds[i]? = some d -> S x <= Rows.uptoBulk d) -> (l.map S).sum <= Rows.uptoBulkAll ds
 | [], [], _, _ => by simp [Rows.uptoBulkAll]
 | x :: l, d :: ds, hl, h => by
  have h1 := h 0 x d rfl rfl
  have h2 := Pb (l := l) (ds := ds) (by simpa using hl) (fun i y e hy he => h (i + 1) y e hy he)
  simp only [List.map_cons, List.sum_cons, Rows.uptoBulkAll]; omega
structure EY (P : Program) (t : TypeId) {α : Type} (T : Ty α) (Q : α -> Prop) (S : α -> Nat) : Prop where
 op : ∀ {H : Type} {enc : TypeId × Value -> H} {W : World} {fuel : Nat} {cs : List Value} {x : DataW H × List MemPlace}, DataW.trod enc P W 0 (fun _ => true) true fuel t cs = some x -> SzW P t x.1 -> ∃ a, T.R (GG W) cs a /\ Q a /\ S a <= Rows.uptoBulk x.1
 sz : P.cellsOf t = T.sz
theorem LR {P : Program} {t e : TypeId} {α : Type} {T : Ty α} {Q : α -> Prop} {S : α -> Nat} (hsz : P.cellsOf e = T.sz) (hpos : 0 < T.sz) (hu : P.underlying t = some (.slice e))
  {H : Type} {enc : TypeId × Value -> H} {W : World} {fuel : Nat} {cs : List Value} {x : DataW H × List MemPlace}
  (he : ∀ n csi y, fuel = n + 1 -> DataW.trod enc P W 0 (fun _ => true) true n e csi = some y -> SzW P e y.1 -> ∃ a, T.R (GG W) csi a /\ Q a /\ S a <= Rows.uptoBulk y.1)
  (h : DataW.trod enc P W 0 (fun _ => true) true fuel t cs = some x) (hw : SzW P t x.1) :
  ∃ l, (tSl T).R (GG W) cs l /\ (l.length < 9223372036854775808 /\ l.length * P.bytesOf e <= reachBytes /\ ∀ x, x ∈ l -> Q x) /\ (l.map S).sum + 1 <= Rows.uptoBulk x.1 := by
 rcases DataW.trod_slice hu h with ⟨h1, h2⟩ | ⟨a, len, cap, elems, rest, n, hf, h1, hx, _, h2, h3, h4, h5, _, _⟩
 ·exact ⟨[], ⟨none, 0, h1, Sl (α := α), .inl rfl⟩, ⟨by simp, by simp, fun x hx => by cases hx⟩, by rw [h2]; simp [Rows.uptoBulk]⟩
 have hby : (elems.length + rest.length) * P.bytesOf e <= reachBytes := by
  have hw' := hw
  rw [hx] at hw'
  unfold SzW at hw'
  simp only [DataW.weights, hu, List.all_cons, Bool.and_eq_true, List.length_map, decide_eq_true_eq] at hw'
  exact hw'.1
 have h3' : cap <= 9223372036854775807 := h3
 have hcell : ∀ i, i < len -> ∃ csi y, W.cells? 0 (a.add (i * T.sz)) T.sz = some csi /\ DataW.trod enc P W 0 (fun _ => true) true n e csi = some y /\ SzW P e y.1 /\ elems[i]? = some y := by
  intro i hi
  have hsz' : ∀ y, elems[i]? = some y -> SzW P e y.1 := fun y hy => by
   rw [hx] at hw
   unfold SzW at hw ⊢
   simp only [DataW.weights, hu, List.all_cons, Bool.and_eq_true, List.all_append] at hw
   exact List.all_eq_true.2 fun m hm => List.all_eq_true.1 hw.2.1 m (JL (List.mem_map.2 ⟨y, List.mem_of_getElem? hy, rfl⟩) m hm)
  have := h5 i hi
  rw [hsz] at this
  have hlt : i < elems.length := by omega
  rw [List.getElem?_eq_getElem hlt] at this
  cases hc : W.cells? 0 (a.add (i * T.sz)) T.sz with
  | none => rw [hc] at this; cases this
  | some csi => rw [hc] at this; exact ⟨csi, _, rfl, this, hsz' _ (List.getElem?_eq_getElem hlt), List.getElem?_eq_getElem hlt⟩
 obtain ⟨l, hl, hR⟩ := JR (R := fun i (x : α) => ∃ csi, W.cells? 0 (a.add (i * T.sz)) T.sz = some csi /\ T.R (GG W) csi x /\ Q x /\ ∃ y, elems[i]? = some y /\ S x <= Rows.uptoBulk y.1) (n := len) (fun i hi => by
  obtain ⟨csi, y, hc, ht, hsy, hey⟩ := hcell i hi
  obtain ⟨z, hz, hq, hs⟩ := he n csi y hf ht hsy
  exact ⟨z, csi, hc, hz, hq, y, hey, hs⟩)
 have hsum : (l.map S).sum + 1 <= Rows.uptoBulk x.1 := by
  rw [hx]
  simp only [Rows.uptoBulk]
  have := Pb (S := S) (l := l) (ds := elems.map (·.1)) (by rw [List.length_map, hl, h4]) (fun i z d hz hd => by
   obtain ⟨_, _, _, _, y, hy, hs⟩ := hR i z hz
   rw [List.getElem?_map, hy] at hd
   cases hd; exact hs)
  omega
 refine ⟨l, ⟨some a, cap, by rw [hl]; exact h1, ⟨by omega, by omega⟩, ?_⟩, ⟨by omega, Nat.le_trans (Nat.mul_le_mul_right _ (by omega)) hby, fun x hx => ?_⟩, hsum⟩
 ·rcases Nat.eq_zero_or_pos len with h0 | hp
  ·exact .inl (List.length_eq_zero_iff.1 (by omega))
  ·right
   obtain ⟨csi, y, hc, _, _⟩ := hcell 0 hp
   obtain ⟨C, E, fz, hsp, hb, _⟩ := Ni hc hpos
   have hb' : W.heap[a.block]? = some (.cells C E fz) := by rw [JI] at hb; exact hb
   have hsp' : a.spot = none := by rw [Nat.zero_mul] at hsp; have e0 : a.add 0 = a := by { unfold Addr.add; simp }; rw [e0] at hsp; exact hsp
   refine ⟨a.block, a.off, C, E, fz, by obtain ⟨_, _, _⟩ := a; simp only at hsp'; subst hsp'; rfl, hb', fun i x hx => ?_⟩
   obtain ⟨csi, hc, hz, _⟩ := hR i x hx
   obtain ⟨C', E', fz', _, hb2, hcs⟩ := Ni hc hpos
   have hb2' : W.heap[a.block]? = some (.cells C' E' fz') := by rw [JI] at hb2; exact hb2
   rw [hb'] at hb2'
   cases hb2'
   rw [OH] at hcs
   rw [hcs]; exact hz
 ·obtain ⟨i, hi, rfl⟩ := List.getElem_of_mem hx
  obtain ⟨_, _, _, hq, _⟩ := hR i _ (List.getElem?_eq_getElem hi)
  exact hq
theorem Il {P : Program} {t e : TypeId} {α : Type} {T : Ty α} {Q : α -> Prop} {S : α -> Nat} (he : EY P e T Q S) (hpos : 0 < T.sz) (hu : P.underlying t = some (.slice e)) (hs : P.cellsOf t = 1) :
  EY P t (tSl T) (fun l => l.length < 9223372036854775808 /\ ∀ x, x ∈ l -> Q x) (fun l => (l.map S).sum + 1) :=
 ⟨fun h hw => by
  obtain ⟨l, h1, ⟨h2, _, h3⟩, h4⟩ := LR he.sz hpos hu (fun n csi y _ ht hsy => he.op ht hsy) h hw
  exact ⟨l, h1, ⟨h2, h3⟩, h4⟩, hs⟩
theorem N6 {H : Type} {enc : TypeId × Value -> H} {P : Program} {W : World} {fuel : Nat} {t e : TypeId} {cs : List Value} {x : DataW H × List MemPlace} {i off c : Nat} (hf : fieldAt P t i = some (e, off)) (hc : P.cellsOf e = c)
  (h : DataW.trod enc P W 0 (fun _ => true) true fuel t cs = some x) (hw : SzW P t x.1) : ∃ n y ds, fuel = n + 1 /\ DataW.trod enc P W 0 (fun _ => true) true n e ((cs.drop off).take c) = some y /\ SzW P e y.1 /\ x.1 = .agg ds /\ ds[i]? = some y.1 := by
 unfold fieldAt at hf
 cases hu : P.underlying t with
 | none => rw [hu] at hf; cases hf
 | some k =>
  rw [hu] at hf
  cases k <;> simp only at hf <;> first | cases hf | skip
  rename_i fs
  cases hi : fs[i]? with
  | none => rw [hi] at hf; cases hf
  | some f =>
   rw [hi] at hf
   simp only [Option.map_some, Option.some.injEq, Prod.mk.injEq] at hf
   obtain ⟨rfl, rfl⟩ := hf
   obtain ⟨xs, n, rfl, rfl, hlen, hxl, hf⟩ := DataW.trod_struct hu h
   have hlt : i < xs.length := by
    rw [hxl]
    rcases Nat.lt_or_ge i fs.size with h' | h'
    ·exact h'
    ·rw [Array.getElem?_eq_none h'] at hi; cases hi
   have := hf i f hi
   rw [List.getElem?_eq_getElem hlt, hc] at this
   refine ⟨n, _, _, rfl, this, ?_, rfl, by rw [List.getElem?_map, List.getElem?_eq_getElem hlt]; rfl⟩
   unfold SzW at hw
   simp only [DataW.weights, hu] at hw
   refine SzW.each hw (j := i) ?_ ?_
   ·rw [List.getElem?_map, Array.getElem?_toList, hi]; rfl
   ·rw [List.getElem?_map, List.getElem?_eq_getElem hlt]; rfl
theorem Kh {H : Type} {x : DataW H} {ds es : List (DataW H)} (h : x = .agg ds) (k : x = .agg es) : es = ds := by rw [h] at k; cases k; rfl
theorem PL {H : Type} {enc : TypeId × Value -> H} {W : World} : ∀ (m : Nat) {fuel : Nat} {cs : List Value} {x : DataW H × List MemPlace}, fuel <= m -> DataW.trod enc Tryz.prog W 0 (fun _ => true) true fuel 33 cs = some x -> SzW Tryz.prog 33 x.1 -> ∃ a, Ao.R (GG W) cs a /\ Ii a /\ sz a <= Rows.uptoBulk x.1 := by
 intro m
 induction m with
 | zero =>
  intro fuel cs x hm h hw
  cases fuel with
  | zero => cases h
  | succ n => exact absurd hm (by omega)
 | succ m ih =>
  intro fuel cs x hm h hw
  obtain ⟨n0, y0, e0, t0, z0⟩ := fld (i := 0) (off := 0) (e := 3) (c := 1) (by kernel_rfl) (by kernel_rfl) h hw
  obtain ⟨n1, y1, e1, t1, z1⟩ := fld (i := 1) (off := 1) (e := 3) (c := 1) (by kernel_rfl) (by kernel_rfl) h hw
  obtain ⟨n2, y2, ds, e2, t2, z2, hag, hd2⟩ := N6 (i := 2) (off := 2) (e := 24) (c := 1) (by kernel_rfl) (by kernel_rfl) h hw
  have hl := HU (k := 3) (by kernel_rfl) (by decide) h
  obtain ⟨op, r0, _⟩ := (L1 (t := 3) (by kernel_rfl) (by kernel_rfl) : Ns Tryz.prog 3 Ck rI).op t0 z0
  obtain ⟨v, r1, _⟩ := (L1 (t := 3) (by kernel_rfl) (by kernel_rfl) : Ns Tryz.prog 3 Ck rI).op t1 z1
  obtain ⟨ks, r2, ⟨q1, q0, q2⟩, hsum⟩ := LR (T := Ao) (Q := Ii) (S := sz) (e := 33) (by kernel_rfl) (by decide) (by kernel_rfl) (fun n csi y hn ht hs => by
   exact ih (by omega) ht hs) t2 z2
  have qb : ks.length < 3518437208781 := by
   have e40 : Tryz.prog.bytesOf 33 = 40 := by kernel_rfl
   rw [e40] at q0
   have : reachBytes = 140737488351232 := rfl
   omega
  have hbulk : 1 + (ks.map sz).sum <= Rows.uptoBulk x.1 := by
   rw [hag]
   simp only [Rows.uptoBulk]
   match ds, hd2 with
   | [], hd => cases hd
   | [_], hd => cases hd
   | [_, _], hd => cases hd
   | a :: b :: c :: r, hd => cases hd; simp only [Rows.uptoBulkAll]; omega
  clear h t0 t1 t2
  obtain ⟨n, hn⟩ := OE q2
  match cs, hl with
  | [c0, c1, c2], _ =>
   have e0 : [c0] = [.int .i64 op] := r0
   have e1 : [c1] = [.int .i64 v] := r1
   obtain ⟨a, c, e2, b2, s2⟩ := r2
   have e2 : [c2] = _ := e2
   cases e0; cases e1; cases e2
   exact ⟨⟨op, v, ks⟩, Bb ⟨a, c, rfl, b2, s2⟩, ⟨n + 1, Ht.mk qb q1 hn⟩, by rw [sz]; exact hbulk⟩
theorem Do : EY Tryz.prog 33 Ao Ii sz := ⟨fun h hw => PL _ (Nat.le_refl _) h hw, by kernel_rfl⟩
def szC (c : Clause) : Nat := sz c.When + sz c.Then
def szL (l : List Clause) : Nat := (l.map szC).sum + 1
def szX (l : List Expr) : Nat := (l.map sz).sum + 1
def szB (b : Be) : Nat := szL b.Points + szL b.Multipliers + szL b.Penalties + szX b.Repeats
theorem Jk : EY Tryz.prog 56 As Ij szC := by
 refine ⟨fun {H enc W fuel cs x} h hw => ?_, by kernel_rfl⟩
 obtain ⟨n0, y0, ds, e0, t0, z0, hag, hd0⟩ := N6 (i := 0) (off := 0) (e := 33) (c := 3) (by kernel_rfl) (by kernel_rfl) h hw
 obtain ⟨n1, y1, es, e1, t1, z1, hag1, hd1⟩ := N6 (i := 1) (off := 3) (e := 33) (c := 3) (by kernel_rfl) (by kernel_rfl) h hw
 obtain rfl := Kh hag hag1
 obtain ⟨a0, r0, q0, s0⟩ := Do.op t0 z0
 obtain ⟨a1, r1, q1, s1⟩ := Do.op t1 z1
 have hl := HU (k := 6) (by kernel_rfl) (by decide) h
 have hbulk : sz a0 + sz a1 <= Rows.uptoBulk x.1 := by
  rw [hag]
  simp only [Rows.uptoBulk]
  match es, hd0, hd1 with
  | [], hd, _ => cases hd
  | [_], _, hd => cases hd
  | a :: b :: r, hd, hd' => cases hd; cases hd'; simp only [Rows.uptoBulkAll]; omega
 clear h t0 t1
 match cs, hl with
 | [c0, c1, c2, c3, c4, c5], _ =>
  obtain ⟨p0_2, n0_2, e0, b0_2, s0_2⟩ := Az r0
  have e0 : [c0, c1, c2] = _ := e0
  cases e0
  obtain ⟨p1_2, n1_2, e1, b1_2, s1_2⟩ := Az r1
  have e1 : [c3, c4, c5] = _ := e1
  cases e1
  exact ⟨{ When := a0, Then := a1 }, ⟨p0_2, n0_2, p1_2, n1_2, rfl, b0_2, s0_2, b1_2, s1_2⟩, ⟨q0, q1⟩, hbulk⟩
theorem KF : EY Tryz.prog 26 Rq Ps szB := by
 refine ⟨fun {H enc W fuel cs x} h hw => ?_, by kernel_rfl⟩
 obtain ⟨n0, y0, ds, e0, t0, z0, hag, hd0⟩ := N6 (i := 0) (off := 0) (e := 23) (c := 1) (by kernel_rfl) (by kernel_rfl) h hw
 obtain ⟨n1, y1, ds1, e1, t1, z1, hag1, hd1⟩ := N6 (i := 1) (off := 1) (e := 23) (c := 1) (by kernel_rfl) (by kernel_rfl) h hw
 obtain ⟨n2, y2, ds2, e2, t2, z2, hag2, hd2⟩ := N6 (i := 2) (off := 2) (e := 23) (c := 1) (by kernel_rfl) (by kernel_rfl) h hw
 obtain ⟨n3, y3, ds3, e3, t3, z3, hag3, hd3⟩ := N6 (i := 3) (off := 3) (e := 24) (c := 1) (by kernel_rfl) (by kernel_rfl) h hw
 obtain rfl := Kh hag1 hag
 obtain rfl := Kh hag1 hag2
 obtain rfl := Kh hag1 hag3
 have oc : EY Tryz.prog 23 (tSl As) _ _ := Il (t := 23) Jk (by decide) (by kernel_rfl) (by kernel_rfl)
 have oe : EY Tryz.prog 24 (tSl Ao) _ _ := Il (t := 24) Do (by decide) (by kernel_rfl) (by kernel_rfl)
 obtain ⟨a0, r0, q0, u0⟩ := oc.op t0 z0
 obtain ⟨a1, r1, q1, u1⟩ := oc.op t1 z1
 obtain ⟨a2, r2, q2, u2⟩ := oc.op t2 z2
 obtain ⟨a3, r3, q3, u3⟩ := oe.op t3 z3
 have hl := HU (k := 4) (by kernel_rfl) (by decide) h
 have hbulk : szL a0 + szL a1 + szL a2 + szX a3 <= Rows.uptoBulk x.1 := by
  rw [hag]
  simp only [Rows.uptoBulk]
  match ds3, hd0, hd1, hd2, hd3 with
  | [], hd, _, _, _ => cases hd
  | [_], _, hd, _, _ => cases hd
  | [_, _], _, _, hd, _ => cases hd
  | [_, _, _], _, _, _, hd => cases hd
  | a :: b :: c :: d :: r, hd, hd', hd'', hd''' =>
   cases hd; cases hd'; cases hd''; cases hd'''
   simp only [Rows.uptoBulkAll]; unfold szL szX; omega
 clear h t0 t1 t2 t3
 match cs, hl with
 | [c0, c1, c2, c3], _ =>
  obtain ⟨p0, n0, e0, b0, s0⟩ := r0
  have e0 : [c0] = _ := e0
  cases e0
  obtain ⟨p1, n1, e1, b1, s1⟩ := r1
  have e1 : [c1] = _ := e1
  cases e1
  obtain ⟨p2, n2, e2, b2, s2⟩ := r2
  have e2 : [c2] = _ := e2
  cases e2
  obtain ⟨p3, n3, e3, b3, s3⟩ := r3
  have e3 : [c3] = _ := e3
  cases e3
  exact ⟨{ Points := a0, Multipliers := a1, Penalties := a2, Repeats := a3 }, ⟨p0, n0, p1, n1, p2, n2, p3, n3, rfl, b0, s0, b1, s1, b2, s2, b3, s3⟩, ⟨q0, q1, q2, q3⟩, hbulk⟩
theorem EY.agg {P : Program} {t : TypeId} {α : Type} {T : Ty α} {Q : α -> Prop} {S : α -> Nat} (o : EY P t T Q S) (hs : (match P.underlying t with | some (.struct _) => true | _ => false) = true)
  {H : Type} {enc : TypeId × Value -> H} {W : World} {r : Reach} {b0 : Nat} {v : Value} {d : DataW H} {ps : List MemPlace} (hv : Value.okWide P W r b0 t v) (h : DataW.Trod enc P W 0 (fun _ => true) true t v d ps) (hw : SzW P t d) :
  ∃ cs a, v = .agg cs /\ T.R (GG W) cs.toList a /\ Q a /\ S a <= Rows.uptoBulk d := by
 cases hu : P.underlying t with
 | none => simp [hu] at hs
 | some q =>
  cases q <;> simp [hu] at hs
  obtain ⟨cs, rfl, _⟩ := okWide_struct hu hv
  obtain ⟨n, hn⟩ := h
  obtain ⟨a, h1, h2, h3⟩ := o.op hn hw
  exact ⟨cs, a, rfl, h1, h2, h3⟩
theorem L8 {H : Type} {enc : TypeId × Value -> H} {C : Checked} {os : Os} {f : FuncId} {fn : Func} {s : OpenSpec} {conds : List PathCond} {apart : Bool} {laid : List (String × DataW Unit)} (modest : Bool) (w0 : World) (args : Array Value) (hos : w0.os = os)
  (hsh : (w0.forCall (fun _ _ => 0) ⟨#[], args, []⟩).Shaped C.prog) (hok : Input.okWideB C.prog (w0.forCall (fun _ _ => 0) ⟨#[], args, []⟩) f ⟨#[], args, []⟩ = true)
  (hrow : s.preRow enc C.prog fn conds apart laid (w0.forCall (fun _ _ => 0) ⟨#[], args, []⟩).memory args) :
  ∃ (w : World) (tape : Tape) (i : Input), w.os = os /\ (w.forCall tape i).Shaped C.prog /\ i.vars = [] /\ Input.okWide C.prog (w.forCall tape i) .any w.heap.size f i /\
   s.preRow enc C.prog fn conds apart laid (w.forCall tape i).memory i.args /\ ({ modest := modest } : Assume).holds C.prog (lone (Frame.enter C.prog f i.args .normal) [] (w.forCall tape i)) :=
 ⟨w0, fun _ _ => 0, ⟨#[], args, []⟩, hos, hsh, (Input.okWide_of_okWideB (base := 0) hok).1, (Input.okWide_of_okWideB hok).2, hrow, by
  simp only [Assume.holds]
  exact ⟨by simp, by simp, fun _ => Modest.zero, by simp, by simp⟩⟩
end
theorem Bh {a b : Bool} (ha : a = true) (hb : b = true) : (a && b) = true := by rw [ha, hb]; rfl
set_option maxRecDepth 100000 in
theorem R4 : (laidOutB Tryz.pinned.checked.prog) = true := by kernel_rfl
set_option maxRecDepth 100000 in
theorem R3 : (mapsRowed Tryz.pinned.checked.prog) = true := by kernel_rfl
set_option maxRecDepth 100000 in
theorem R2 : ((Tryz.pinned.checked.prog.stops == [])) = true := by kernel_rfl
set_option maxRecDepth 100000 in
theorem RZ : ((Tryz.pinned.checked.prog.stopKnobs == [])) = true := by kernel_rfl
set_option maxRecDepth 100000 in
theorem RH : ((Rows.rulesParsesRow.plainKeys == Tryz.pinned.checked.prog.plainKeys)) = true := by kernel_rfl
set_option maxRecDepth 100000 in
theorem RG : (Tryz.pinned.checked.prog.stopsHeard) = true := by kernel_rfl
set_option maxRecDepth 100000 in
theorem RF : (Tryz.pinned.checked.prog.mayEnter) = true := by kernel_rfl
set_option maxRecDepth 100000 in
theorem RE : ((Rows.rulesParsesRow.lifted == Tryz.pinned.checked.prog.liftsFinal)) = true := by kernel_rfl
set_option maxRecDepth 100000 in
theorem RC : ((Tryz.pinned.checked.prog.make == some Rows.rulesParsesRow.make)) = true := by kernel_rfl
theorem QB : Tryz.pinned.checked.prog.mainIs = some (true, "9ef67a4cb07571d798ed60e513598468ebe5a66f3455e0900720288bced703b8".toList) := by kernel_rfl
theorem PJ : true = Tryz.pinned.checked.prog.looks [] := by kernel_rfl
def Bq (N : Nat) (x0 : (List Clause)) (x1 : (Clause -> Option Bool)) : Int -> Option (Bi Int Int) := fun s24 =>
 (bif (decide (s24 < (x0.length : Int))) then ((idx x0 s24).bind fun x47 => ((x1 x47).bind fun r61 => (bif r61 then some (.ret s24) else some (.next (W64 (s24 + 1)))))) else some (.done s24))
def Bx (N : Nat) (x0 : (List Clause)) (x1 : (Clause -> Option Bool)) : Option Int :=
 ((A0 (Bq N x0 x1) N 0).bind fun o => o.k (fun r => some r) (fun s33 => some (-1)))
theorem Cv : Al Tryz.prog 162 := fun _ _ => by kernel_rfl
theorem Cy (N : Nat) (w0 : World) (F0 : Mem) (hF : SH w0 F0) (x0 : (List Clause)) (a0_0 : SG) (n0_0 : Nat) (hb0_0 : LC x0.length n0_0) (hs0_0 : SlA As F0 a0_0 x0) (gx1 : FuncId) (fx1 kx1 : List Value) (x1 : Clause -> Option Bool) (hox1 : Al Tryz.prog gx1) (hpx1 : OJ F0 gx1 fx1 kx1 x1) (r : Int) (h : Bx N x0 x1 = some r) :
  Calls Tryz.prog 162 ([(.slice a0_0 x0.length n0_0), (.func (.func gx1) fx1.toArray kx1.toArray)] : List Value).toArray w0 (AJ w0 F0 fun F' v => v = (vi r)) := by
 have hs0 := Sj hF
 refine Go 19 Tryz.func162 ?_
 refine Sq (Rg [0] ?_)
 refine Vs 1 ?_
 refine Nss ?_
 refine Sq (Rg [0, 1, 2] ?_)
 refine Vs 3 ?_
 refine Nt ?_
 obtain ⟨o21, ho22, h23⟩ := bind_some h
 refine So (fun f w => ∃ (s33 : Int) (F2 : Mem), o21 = .done s33 /\ HS w0 F0 w F2 [] /\ Sh F0 F2 /\ FI f [] []) ?_ ?_
 ·refine Bk ?_
  refine Sg (by kernel_rfl) (fun m f w => ∃ (s24 : Int) (F1 : Mem), A0 (Bq N x0 x1) m s24 = some o21 /\ HS w0 F0 w F1 [] /\ Sh F0 F1 /\ FI f [] [(0, (.slice a0_0 x0.length n0_0)), (1, (.func (.func gx1) fx1.toArray kx1.toArray)), (7, (vi (x0.length : Int))), (8, (vi s24))]) N ⟨0, F0, ho22, hs0, (Si _), fI⟩ ?_
  rintro m38 f w25 ⟨s24, F1, hit39, hs26, le27, ⟨_, rfl⟩⟩
  obtain ⟨m40, fl41, rfl, hb42, hnx43⟩ := AQ hit39
  refine Sq (Rg [0] ?_)
  refine Vs 1 ?_
  refine Nss ?_
  refine Cd hb42 (fun hb44 h45 => ?_) (fun hb44 h46 => ?_)
  ·refine Sc ?_
   refine Ac ?_
   refine Sq ?_
   refine Bk ?_
   refine Sq (Rg [0, 1] ?_)
   refine Vs 2 ?_
   refine Nss (Rg [0, 1, 2, 3, 4, 5] ?_)
   refine Vs 3 ?_
   obtain ⟨x47, hx48, h50⟩ := bind_some h45
   obtain ⟨hi49, hx48'⟩ := Ap hx48
   obtain ⟨b51, o52, C53, E54, fz55, rfl, hF57, hE58⟩ := Su (Sk hs0_0 le27) hx48'
   obtain ⟨ae59_2, ne59_2, ae59_5, ne59_5, hc60, hbe59_2, hse59_2, hbe59_5, hse59_5⟩ := hE58 _ _ hx48'
   refine Ix hi49 ?_
   refine Lx 0 (hs26.pers _ _ hF57) hc60 ?_
   obtain ⟨r61, hr62, h63⟩ := bind_some h50
   refine Cq hox1 hs26 (hpx1 w25 F1 x47 ae59_2 ne59_2 hbe59_2 hse59_2 ae59_5 ne59_5 hbe59_5 hse59_5 _ le27 hs26.pers hr62) ?_
   rintro _ F3 w65 hs66 le67 rfl
   refine Nt ?_
   refine Cd h63 (fun hb69 h70 => ?_) (fun hb69 h71 => ?_)
   ·refine Sq (Rg [0, 1] ?_)
    refine Vs 2 ?_
    refine Nt ?_
    refine Rt ?_
    refine Ai ?_
    refine Ae ?_
    refine Ae ?_
    refine Ai ?_
    have hret := BJ h70 hnx43
    subst hret
    refine .inr ?_
    refine Ae ?_
    obtain rfl := Aa h23
    exact Re [(vi s24)] hs66 rfl
   ·refine Sc ?_
    refine Aq ?_
    refine Ac ?_
    refine Rg [0, 1] ?_
    refine Vs 2 ?_
    refine Sd ?_
    have hn72 := AM h71 hnx43
    exact ⟨m40, Nat.lt_succ_self _, (W64 (s24 + 1)), F3, hn72, hs66, (le27.trans le67), fI⟩
  ·refine Ex ?_
   refine Av ?_
   refine Av ?_
   refine AE rfl ?_
   have ho73 := AX h46 hnx43
   exact .inl ⟨rfl, s24, F1, ho73, hs26, le27, fI⟩
 ·rintro f w34 ⟨s33, F2, rfl, hs35, le36, ⟨_, rfl⟩⟩
  have h74 := Bo h23
  refine Ac ?_
  refine Sq (Rg [0] ?_)
  refine Vs 1 ?_
  refine Nt ?_
  refine Rt ?_
  obtain rfl := Aa h74
  exact Re [(vi (-1))] hs35 rfl



def Fu (N : Nat) (x0 : Clause) (z0 : (List Int)) : Option Bool :=
 ((E0 N x0.When z0).bind fun r24 => some (r24 == 1))
theorem Jv : Al Tryz.prog 163 := fun _ _ => by kernel_rfl
theorem J7 (N : Nat) (w0 : World) (F0 : Mem) (hF : SH w0 F0) (x0 : Clause) (a0_2 : SG) (n0_2 : Nat) (hb0_2 : LC x0.When.Kids.length n0_2) (hs0_2 : SlA Ao F0 a0_2 x0.When.Kids) (a0_5 : SG) (n0_5 : Nat) (hb0_5 : LC x0.Then.Kids.length n0_5) (hs0_5 : SlA Ao F0 a0_5 x0.Then.Kids) (bz0 : Nat) (z0 : (List Int)) (az0_0 : SG) (nz0_0 : Nat) (hbz0_0 : LC z0.length nz0_0) (hsz0_0 : SlA Ck F0 az0_0 z0) (hz0 : F0 bz0 = some (oc #[(.slice az0_0 z0.length nz0_0)] 47)) (r : Bool) (h : Fu N x0 z0 = some r) :
  Calls Tryz.prog 163 ([(.agg (Dq x0 a0_2 n0_2 a0_5 n0_5)), (pt bz0 0)] : List Value).toArray w0 (AJ w0 F0 fun F' v => v = (.bool r)) := by
 have hs0 := Sj hF
 refine Go 9 Tryz.func163 ?_
 refine Sq (Rg [0, 1] ?_)
 refine Bx' 56 (Dq x0 a0_2 n0_2 a0_5 n0_5) hs0 (fun b21 w22 hs23 => ?_)
 refine Vs 1 ?_
 refine Nss (Rg [0, 1, 2, 3, 4, 5] ?_)
 refine Vs 1 ?_
 refine Ld hs23.at0 ?_
 refine Ld (hs23.pers _ _ hz0) ?_
 obtain ⟨r24, hr25, h26⟩ := bind_some h
 refine Cl' Dr hs23 (Fz N w22 F0 hs23.pers x0.When a0_2 n0_2 hb0_2 hs0_2 z0 az0_0 nz0_0 hbz0_0 hsz0_0 _ hr25) ?_
 rintro _ F1 w28 hs29 le30 rfl
 refine Vs 2 ?_
 refine Nt ?_
 refine Rt ?_
 obtain rfl := Aa h26
 exact Re [(.bool (r24 == 1))] hs29 rfl
def JN (N : Nat) (x0 : (List Clause)) (x1 : (List Int)) : Option Int :=
 ((Bx N x0 (fun y0 => Fu N y0 x1)).bind fun r27 => some r27)
theorem KU : Al Tryz.prog 103 := fun _ _ => by kernel_rfl
theorem LB (N : Nat) (w0 : World) (F0 : Mem) (hF : SH w0 F0) (x0 : (List Clause)) (a0_0 : SG) (n0_0 : Nat) (hb0_0 : LC x0.length n0_0) (hs0_0 : SlA As F0 a0_0 x0) (x1 : (List Int)) (a1_0 : SG) (n1_0 : Nat) (hb1_0 : LC x1.length n1_0) (hs1_0 : SlA Ck F0 a1_0 x1) (r : Int) (h : JN N x0 x1 = some r) :
  Calls Tryz.prog 103 ([(.slice a0_0 x0.length n0_0), (.slice a1_0 x1.length n1_0)] : List Value).toArray w0 (AJ w0 F0 fun F' v => v = (vi r)) := by
 have hs0 := Sj hF
 refine Go 8 Tryz.func103 ?_
 refine Sq (Rg [0, 1] ?_)
 refine Bx' 47 #[(.slice a1_0 x1.length n1_0)] hs0 (fun b21 w22 hs23 => ?_)
 refine Vs 1 ?_
 refine Nss (Rg [0, 1, 2, 3] ?_)
 refine Vs 2 ?_
 obtain ⟨F1, hs24, le25, hF26⟩ := hs23.fc0
 obtain ⟨r27, hr28, h29⟩ := bind_some h
 refine Cl' Cv hs24 (Cy N w22 F1 hs24.pers x0 a0_0 n0_0 hb0_0 (Sk hs0_0 le25) 163 [] [(pt b21 0)] (fun y0 => Fu N y0 x1) Jv (fun w1 F1 y0 ay0_2 ny0_2 hby0_2 hsy0_2 ay0_5 ny0_5 hby0_5 hsy0_5 r le1 pe1 hr1 => J7 N w1 F1 pe1  y0 ay0_2 ny0_2 hby0_2 hsy0_2 ay0_5 ny0_5 hby0_5 hsy0_5 b21 x1 a1_0 n1_0 hb1_0 (Sk (Sk hs1_0 le25) le1) (le1 _ _ hF26) r hr1) _ hr28) ?_
 rintro _ F2 w31 hs32 le33 rfl
 refine Vs 1 ?_
 refine Nt ?_
 refine Rt ?_
 obtain rfl := Aa h29
 exact Re [(vi r27)] hs32 rfl
def CR (N : Nat) (x0 : (List Clause)) : Int -> Option (Bi Int Int) := fun s24 =>
 (bif (decide (s24 < (x0.length : Int))) then ((idx x0 s24).bind fun x46 => ((Ey N x46).bind fun r60 => (bif (!r60) then some (.ret s24) else some (.next (W64 (s24 + 1)))))) else some (.done s24))
def DT (N : Nat) (x0 : (List Clause)) : Option Int :=
 ((A0 (CR N x0) N 0).bind fun o => o.k (fun r => some r) (fun s31 => some (x0.length : Int)))
theorem Jx : Al Tryz.prog 125 := fun _ _ => by kernel_rfl
theorem J9 (N : Nat) (w0 : World) (F0 : Mem) (hF : SH w0 F0) (x0 : (List Clause)) (a0_0 : SG) (n0_0 : Nat) (hb0_0 : LC x0.length n0_0) (hs0_0 : SlA As F0 a0_0 x0) (r : Int) (h : DT N x0 = some r) :
  Calls Tryz.prog 125 ([(.slice a0_0 x0.length n0_0)] : List Value).toArray w0 (AJ w0 F0 fun F' v => v = (vi r)) := by
 have hs0 := Sj hF
 refine Go 19 Tryz.func125 ?_
 refine Sq (Rg [0] ?_)
 refine Vs 1 ?_
 refine Nss ?_
 refine Sq (Rg [0] ?_)
 refine Vs 1 ?_
 refine Nt ?_
 obtain ⟨o21, ho22, h23⟩ := bind_some h
 refine So (fun f w => ∃ (s31 : Int) (F2 : Mem), o21 = .done s31 /\ HS w0 F0 w F2 [] /\ Sh F0 F2 /\ FI f [] [(0, (.slice a0_0 x0.length n0_0))]) ?_ ?_
 ·refine Bk ?_
  refine Sg (by kernel_rfl) (fun m f w => ∃ (s24 : Int) (F1 : Mem), A0 (CR N x0) m s24 = some o21 /\ HS w0 F0 w F1 [] /\ Sh F0 F1 /\ FI f [] [(0, (.slice a0_0 x0.length n0_0)), (3, (vi s24))]) N ⟨0, F0, ho22, hs0, (Si _), fI⟩ ?_
  rintro m37 f w25 ⟨s24, F1, hit38, hs26, le27, ⟨_, rfl⟩⟩
  obtain ⟨m39, fl40, rfl, hb41, hnx42⟩ := AQ hit38
  refine Sq ?_
  refine Sq (Rg [0, 1, 2, 3] ?_)
  refine Vs 4 ?_
  refine Nt ?_
  refine Cd hb41 (fun hb43 h44 => ?_) (fun hb43 h45 => ?_)
  ·refine Sc ?_
   refine Ac ?_
   refine Sq ?_
   refine Bk ?_
   refine Sq (Rg [0, 1, 2, 3, 4, 5] ?_)
   refine Vs 2 ?_
   obtain ⟨x46, hx47, h49⟩ := bind_some h44
   obtain ⟨hi48, hx47'⟩ := Ap hx47
   obtain ⟨b50, o51, C52, E53, fz54, rfl, hF56, hE57⟩ := Su (Sk hs0_0 le27) hx47'
   obtain ⟨ae58_2, ne58_2, ae58_5, ne58_5, hc59, hbe58_2, hse58_2, hbe58_5, hse58_5⟩ := hE57 _ _ hx47'
   refine Ix hi48 ?_
   refine Lx 0 (hs26.pers _ _ hF56) hc59 ?_
   obtain ⟨r60, hr61, h62⟩ := bind_some h49
   refine Cl' J3 hs26 (K8 N w25 F1 hs26.pers x46 ae58_2 ne58_2 hbe58_2 hse58_2 ae58_5 ne58_5 hbe58_5 hse58_5 _ hr61) ?_
   rintro _ F3 w64 hs65 le66 rfl
   refine Vs 1 ?_
   refine Nt ?_
   refine Cd h62 (fun hb68 h69 => ?_) (fun hb68 h70 => ?_)
   ·refine Sq (Rg [0, 1] ?_)
    refine Vs 2 ?_
    refine Nt ?_
    refine Rt ?_
    refine Ai ?_
    refine Ae ?_
    refine Ae ?_
    refine Ai ?_
    have hret := BJ h69 hnx42
    subst hret
    refine .inr ?_
    refine Ae ?_
    obtain rfl := Aa h23
    exact Re [(vi s24)] hs65 rfl
   ·refine Sc ?_
    refine Aq ?_
    refine Ac ?_
    refine Rg [0, 1, 2] ?_
    refine Vs 3 ?_
    refine Sd ?_
    have hn71 := AM h70 hnx42
    exact ⟨m39, Nat.lt_succ_self _, (W64 (s24 + 1)), F3, hn71, hs65, (le27.trans le66), fI⟩
  ·refine Ex ?_
   refine Av ?_
   refine Av ?_
   refine AE rfl ?_
   have ho72 := AX h45 hnx42
   exact .inl ⟨rfl, s24, F1, ho72, hs26, le27, fI⟩
 ·rintro f w32 ⟨s31, F2, rfl, hs33, le34, ⟨_, rfl⟩⟩
  have h73 := Bo h23
  refine Ac ?_
  refine Sq (Rg [0, 1, 2] ?_)
  refine Vs 3 ?_
  refine Nt ?_
  refine Rt ?_
  obtain rfl := Aa h73
  exact Re [(vi (x0.length : Int))] hs33 rfl






def Ec (N : Nat) (x0 : (List Clause)) : (Int × Int) -> Option (Bi Int (Int × Int)) := fun s24 =>
 (bif (decide (s24.2 < (x0.length : Int))) then (((idx x0 s24.2).bind fun x59 => ((idx x0 s24.2).bind fun x73 => ((Br N x59.When).bind fun r79 => ((Br N x73.Then).bind fun r87 => some (W64 (s24.1 + (W64 (r79 + r87)))))))).bind fun j52 => some (.next (j52, (W64 (s24.2 + 1))))) else some (.done (s24.1, s24.2)))
def CS (N : Nat) (x0 : (List Clause)) : Option Int :=
 ((A0 (Ec N x0) N ((x0.length : Int), 0)).bind fun o => o.k (fun r => some r) (fun s32 => some s32.1))
theorem Ed : Al Tryz.prog 35 := fun _ _ => by kernel_rfl
theorem EX (N : Nat) (w0 : World) (F0 : Mem) (hF : SH w0 F0) (x0 : (List Clause)) (a0_0 : SG) (n0_0 : Nat) (hb0_0 : LC x0.length n0_0) (hs0_0 : SlA As F0 a0_0 x0) (r : Int) (h : CS N x0 = some r) :
  Calls Tryz.prog 35 ([(.slice a0_0 x0.length n0_0)] : List Value).toArray w0 (AJ w0 F0 fun F' v => v = (vi r)) := by
 have hs0 := Sj hF
 refine Go 29 Tryz.func35 ?_
 refine Sq (Rg [0] ?_)
 refine Vs 1 ?_
 refine Nss (Rg [0, 1, 2] ?_)
 refine Vs 3 ?_
 refine Nss ?_
 refine Sq (Rg [0] ?_)
 refine Vs 1 ?_
 refine Nt ?_
 obtain ⟨o21, ho22, h23⟩ := bind_some h
 refine So (fun f w => ∃ (s32 : (Int × Int)) (F2 : Mem), o21 = .done s32 /\ HS w0 F0 w F2 [] /\ Sh F0 F2 /\ FI f [] [(3, (vi s32.1))]) ?_ ?_
 ·refine Bk ?_
  refine Sg (by kernel_rfl) (fun m f w => ∃ (s24 : (Int × Int)) (F1 : Mem), A0 (Ec N x0) m s24 = some o21 /\ HS w0 F0 w F1 [] /\ Sh F0 F1 /\ FI f [] [(0, (.slice a0_0 x0.length n0_0)), (3, (vi s24.1)), (4, (vi s24.2))]) N ⟨((x0.length : Int), 0), F0, ho22, hs0, (Si _), fI⟩ ?_
  rintro m38 f w25 ⟨s24, F1, hit39, hs26, le27, ⟨_, rfl⟩⟩
  obtain ⟨m40, fl41, rfl, hb42, hnx43⟩ := AQ hit39
  refine Sq ?_
  refine Sq (Rg [0, 1, 2, 3] ?_)
  refine Vs 4 ?_
  refine Nt ?_
  refine Cd hb42 (fun hb44 h45 => ?_) (fun hb44 h46 => ?_)
  ·refine Sc ?_
   refine Ac ?_
   refine Sq ?_
   refine Bk ?_
   obtain ⟨j52, hj57, h58⟩ := bind_some h45
   refine RD 16 16 [] [] hs26 (fun f w => ∃ (F3 : Mem), HS w0 F0 w F3 [] /\ Sh F1 F3 /\ FI f [] [(0, (.slice a0_0 x0.length n0_0)), (3, (vi j52)), (4, (vi s24.2))]) (fun wd47 hw48 => ?_) ?_
   ·refine Dv [0, 1, 2] ?_
    obtain ⟨x59, hx60, h62⟩ := bind_some hj57
    obtain ⟨hi61, hx60'⟩ := Ap hx60
    obtain ⟨b63, o64, C65, E66, fz67, rfl, hF69, hE70⟩ := Su (Sk hs0_0 le27) hx60'
    obtain ⟨ae71_2, ne71_2, ae71_5, ne71_5, hc72, hbe71_2, hse71_2, hbe71_5, hse71_5⟩ := hE70 _ _ hx60'
    refine Di 3 hi61 ?_
    refine Dv [4] ?_
    refine Dx 5 0 (fun _ hq => hq.1.1 _ _ hF69) hc72 ?_
    refine Dv [7, 8] ?_
    obtain ⟨x73, hx74, h76⟩ := bind_some h62
    obtain ⟨hi75, hx74'⟩ := Ap hx74
    obtain ⟨ae77_2, ne77_2, ae77_5, ne77_5, hc78, hbe77_2, hse77_2, hbe77_5, hse77_5⟩ := hE70 _ _ hx74'
    refine Di 9 hi75 ?_
    refine Dv [10] ?_
    refine Dx 11 3 (fun _ hq => hq.1.1 _ _ hF69) hc78 ?_
    refine D1 6 ?_
    obtain ⟨r79, hr80, h81⟩ := bind_some h76
    refine DCl Dw hw48 (DX N wd47 F1 hw48.pers x59.When ae71_2 ne71_2 hbe71_2 hse71_2 _ hr80) ?_
    rintro _ F4 w83 hs84 le85 rfl
    refine D1 12 ?_
    obtain ⟨r87, hr88, h89⟩ := bind_some h81
    refine DCl Dw hs84 (DX N w83 F4 hs84.pers x73.Then ae77_5 ne77_5 hbe77_5 (Sk hse77_5 le85) _ hr88) ?_
    rintro _ F5 w91 hs92 le93 rfl
    refine Dv [13, 14, 15] ?_
    obtain rfl := Aa h89
    exact SA (by kernel_rfl) ⟨F5, hs92, (le85.trans le93), fI⟩
   ·rintro f w49 ⟨F3, hs50, le51, ⟨_, rfl⟩⟩
    refine Aq ?_
    refine Ac ?_
    refine Rg [0, 1, 2] ?_
    refine Vs 3 ?_
    refine Sd ?_
    have hn95 := AM h58 hnx43
    exact ⟨m40, Nat.lt_succ_self _, (j52, (W64 (s24.2 + 1))), F3, hn95, hs50, (le27.trans le51), fI⟩
  ·refine Ex ?_
   refine Av ?_
   refine Av ?_
   refine AE rfl ?_
   have ho96 := AX h46 hnx43
   exact .inl ⟨rfl, (s24.1, s24.2), F1, ho96, hs26, le27, fI⟩
 ·rintro f w33 ⟨s32, F2, rfl, hs34, le35, ⟨_, rfl⟩⟩
  have h97 := Bo h23
  refine Ac ?_
  refine Sq (Rg [0, 1] ?_)
  refine Vs 2 ?_
  refine Nt ?_
  refine Rt ?_
  obtain rfl := Aa h97
  exact Re [(vi s32.1)] hs34 rfl
def GH (N : Nat) (x0 : Be) (j29 : Int) : (Int × Int) -> Option (Bi Bool (Int × Int)) := fun s62 =>
 (bif (decide (s62.2 < (x0.Repeats.length : Int))) then ((idx x0.Repeats s62.2).bind fun x85 => ((Br N x85).bind fun r99 => some (.next ((W64 (s62.1 + r99)), (W64 (s62.2 + 1)))))) else some (.done (s62.1, s62.2)))
def Fh (N : Nat) (x0 : Be) : Option Bool :=
 (((CS N x0.Points).bind fun r35 => ((CS N x0.Multipliers).bind fun r43 => ((CS N x0.Penalties).bind fun r51 => some (W64 ((W64 (r35 + r43)) + r51))))).bind fun j29 => ((A0 (GH N x0 j29) N (j29, 0)).bind fun o => o.k (fun r => some r) (fun s70 => some (decide (s70.1 <= 2000)))))
theorem K0 : Al Tryz.prog 40 := fun _ _ => by kernel_rfl
theorem LJ (N : Nat) (w0 : World) (F0 : Mem) (hF : SH w0 F0) (x0 : Be) (a0_0 : SG) (n0_0 : Nat) (hb0_0 : LC x0.Points.length n0_0) (hs0_0 : SlA As F0 a0_0 x0.Points) (a0_1 : SG) (n0_1 : Nat) (hb0_1 : LC x0.Multipliers.length n0_1) (hs0_1 : SlA As F0 a0_1 x0.Multipliers) (a0_2 : SG) (n0_2 : Nat) (hb0_2 : LC x0.Penalties.length n0_2) (hs0_2 : SlA As F0 a0_2 x0.Penalties) (a0_3 : SG) (n0_3 : Nat) (hb0_3 : LC x0.Repeats.length n0_3) (hs0_3 : SlA Ao F0 a0_3 x0.Repeats) (r : Bool) (h : Fh N x0 = some r) :
  Calls Tryz.prog 40 ([(.agg (AU x0 a0_0 n0_0 a0_1 n0_1 a0_2 n0_2 a0_3 n0_3))] : List Value).toArray w0 (AJ w0 F0 fun F' v => v = (.bool r)) := by
 have hs0 := Sj hF
 refine Go 33 Tryz.func40 ?_
 refine Sq (Rg [0, 1] ?_)
 refine Bx' 26 (AU x0 a0_0 n0_0 a0_1 n0_1 a0_2 n0_2 a0_3 n0_3) hs0 (fun b21 w22 hs23 => ?_)
 refine Vs 1 ?_
 refine Nss ?_
 obtain ⟨j29, hj33, h34⟩ := bind_some h
 refine RD 12 12 [(sb b21 (AU x0 a0_0 n0_0 a0_1 n0_1 a0_2 n0_2 a0_3 n0_3) 26)] [] hs23 (fun f w => ∃ (F1 : Mem), HS w0 F0 w F1 [(sb b21 (AU x0 a0_0 n0_0 a0_1 n0_1 a0_2 n0_2 a0_3 n0_3) 26)] /\ Sh F0 F1 /\ FI f [] [(1, (pt b21 0)), (3, (vi j29))]) (fun wd24 hw25 => ?_) ?_
 ·refine Dv [0] ?_
  refine Dl 1 (fun _ hq => (hq.1.2 0 _ _ rfl)) ?_
  refine Dv [3] ?_
  refine Dl 4 (fun _ hq => (hq.1.2 0 _ _ rfl)) ?_
  refine Dv [7] ?_
  refine Dl 8 (fun _ hq => (hq.1.2 0 _ _ rfl)) ?_
  refine D1 2 ?_
  obtain ⟨r35, hr36, h37⟩ := bind_some hj33
  refine DCl Ed hw25 (EX N wd24 F0 hw25.pers x0.Points a0_0 n0_0 hb0_0 hs0_0 _ hr36) ?_
  rintro _ F2 w39 hs40 le41 rfl
  refine D1 5 ?_
  obtain ⟨r43, hr44, h45⟩ := bind_some h37
  refine DCl Ed hs40 (EX N w39 F2 hs40.pers x0.Multipliers a0_1 n0_1 hb0_1 (Sk hs0_1 le41) _ hr44) ?_
  rintro _ F3 w47 hs48 le49 rfl
  refine Dv [6] ?_
  refine D1 9 ?_
  obtain ⟨r51, hr52, h53⟩ := bind_some h45
  refine DCl Ed hs48 (EX N w47 F3 hs48.pers x0.Penalties a0_2 n0_2 hb0_2 (Sk hs0_2 (le41.trans le49)) _ hr52) ?_
  rintro _ F4 w55 hs56 le57 rfl
  refine Dv [10, 11] ?_
  obtain rfl := Aa h53
  exact SA (by kernel_rfl) ⟨F4, hs56, ((le41.trans le49).trans le57), fI⟩
 ·rintro f w26 ⟨F1, hs27, le28, ⟨_, rfl⟩⟩
  refine Ac ?_
  refine Sq ?_
  refine Sq (Rg [0] ?_)
  refine Vs 1 ?_
  refine Nt ?_
  obtain ⟨o59, ho60, h61⟩ := bind_some h34
  refine So (fun f w => ∃ (s70 : (Int × Int)) (F6 : Mem), o59 = .done s70 /\ HS w0 F0 w F6 [] /\ Sh F1 F6 /\ FI f [] [(3, (vi s70.1))]) ?_ ?_
  ·refine Bk ?_
   refine Sg (by kernel_rfl) (fun m f w => ∃ (s62 : (Int × Int)) (F5 : Mem), A0 (GH N x0 j29) m s62 = some o59 /\ HS w0 F0 w F5 [(sb b21 (AU x0 a0_0 n0_0 a0_1 n0_1 a0_2 n0_2 a0_3 n0_3) 26)] /\ Sh F1 F5 /\ FI f [] [(1, (pt b21 0)), (3, (vi s62.1)), (4, (vi s62.2))]) N ⟨(j29, 0), F1, ho60, hs27, (Si _), fI⟩ ?_
   rintro m76 f w63 ⟨s62, F5, hit77, hs64, le65, ⟨_, rfl⟩⟩
   obtain ⟨m78, fl79, rfl, hb80, hnx81⟩ := AQ hit77
   refine Sq ?_
   refine Sq (Rg [0, 1, 2, 3, 4] ?_)
   refine Vs 2 ?_
   refine Ld hs64.at0 ?_
   refine Vs 2 ?_
   refine Nt ?_
   refine Cd hb80 (fun hb82 h83 => ?_) (fun hb82 h84 => ?_)
   ·refine Sc ?_
    refine Ac ?_
    refine Sq ?_
    refine Bk ?_
    refine Rg [0, 1, 2, 3, 4, 5, 6, 7, 8] ?_
    refine Vs 2 ?_
    refine Ld hs64.at0 ?_
    refine Vs 1 ?_
    obtain ⟨x85, hx86, h88⟩ := bind_some h83
    obtain ⟨hi87, hx86'⟩ := Ap hx86
    obtain ⟨b89, o90, C91, E92, fz93, rfl, hF95, hE96⟩ := Su (Sk hs0_3 (le28.trans le65)) hx86'
    obtain ⟨ae97_2, ne97_2, hc98, hbe97_2, hse97_2⟩ := (Az (hE96 _ _ hx86'))
    refine Ix hi87 ?_
    refine Lx 0 (hs64.pers _ _ hF95) hc98 ?_
    obtain ⟨r99, hr100, h101⟩ := bind_some h88
    refine Cl' Dw hs64 (DX N w63 F5 hs64.pers x85 ae97_2 ne97_2 hbe97_2 hse97_2 _ hr100) ?_
    rintro _ F7 w103 hs104 le105 rfl
    refine Vs 2 ?_
    refine Sd ?_
    refine Aq ?_
    refine Ac ?_
    refine Rg [0, 1, 2] ?_
    refine Vs 3 ?_
    refine Sd ?_
    have hn107 := AM h101 hnx81
    exact ⟨m78, Nat.lt_succ_self _, ((W64 (s62.1 + r99)), (W64 (s62.2 + 1))), F7, hn107, hs104, (le65.trans le105), fI⟩
   ·refine Ex ?_
    refine Av ?_
    refine Av ?_
    refine AE rfl ?_
    have ho108 := AX h84 hnx81
    exact .inl ⟨rfl, (s62.1, s62.2), F5, ho108, hs64.dr0, le65, fI⟩
  ·rintro f w71 ⟨s70, F6, rfl, hs72, le73, ⟨_, rfl⟩⟩
   have h109 := Bo h61
   refine Ac ?_
   refine Sq (Rg [0, 1, 2] ?_)
   refine Vs 3 ?_
   refine Nt ?_
   refine Rt ?_
   obtain rfl := Aa h109
   exact Re [(.bool (decide (s70.1 <= 2000)))] hs72 rfl
def A7 (N : Nat) (x1 : Int) : Option (List Clause) :=
 (bif (decide (x1 < 0)) then none else (bif (decide ((W64 (x1 - (W64 (0 - (([] : List Clause).length : Int))))) > 0)) then ((mk0 ({ When := ({ Op := 0, Value := 0, Kids := ([] : List Expr) } : Expr), Then := ({ Op := 0, Value := 0, Kids := ([] : List Expr) } : Expr) } : Clause) (W64 (x1 - (W64 (0 - (([] : List Clause).length : Int)))))).bind fun r7 => ((sub r7 0 (([] : List Clause).length : Int)).bind fun r17 => some r17)) else some ([] : List Clause)))
theorem CU : Al Tryz.prog 173 := fun _ _ => by kernel_rfl
theorem CZ (N : Nat) (w0 : World) (F0 : Mem) (hF : SH w0 F0) (x1 : Int) (r : (List Clause)) (h : A7 N x1 = some r) :
  Calls Tryz.prog 173 ([.slice none 0 0, (vi x1)] : List Value).toArray w0 (QN w0 F0 fun F' v L' => ∃ (a : SG) (n : Nat) (e : Option Nat × Obj), v = .slice a r.length n /\ L' = [e] /\ Aw As 56 F' a n r e) := by
 have hs0 := Sj hF
 refine ET (n := 27) (c := B8 Tryz.f173) Tryz.func173 (by kernel_rfl) (by kernel_rfl) (by kernel_rfl) ?_
 refine Sq (Rg [0] ?_)
 refine Vs 1 ?_
 refine Nss ?_
 refine Sq (Rg [0, 1] ?_)
 refine Vs 1 ?_
 refine Vs 1 ?_
 refine Nt ?_
 refine Cd h (fun hb1 h2 => ?_) (fun hb1 h3 => ?_)
 ·refine Rg [0, 1] ?_
  refine V 7 20 (FX (t := 9) (x := (.const (.string ⟨([99, 97, 110, 110, 111, 116, 32, 98, 101, 32, 110, 101, 103, 97, 116, 105, 118, 101] : SF).toArray⟩))) (v := (.string ⟨(([99, 97, 110, 110, 111, 116, 32, 98, 101, 32, 110, 101, 103, 97, 116, 105, 118, 101] : SF)).toArray⟩)) rfl (by kernel_rfl)) ?_
  cases h2
 ·refine Sc ?_
  refine Ac ?_
  refine Sq ?_
  refine Sq (Rg [0, 1, 2, 3, 4, 5, 6, 7] ?_)
  refine Vs 1 ?_
  refine Vs 1 ?_
  refine V 10 3 (HG (x := (.tmp 9)) (ats := #[23]) (a := none) (n := 0) (c := 0) (E := 56) (s := 6) (by_ := 80) rfl rfl (by kernel_rfl)) ?_
  refine Vs 1 ?_
  refine Vs 1 ?_
  refine Vs 1 ?_
  refine Vs 1 ?_
  refine Vs 1 ?_
  refine Nss (Rg [0, 1] ?_)
  refine Vs 1 ?_
  refine Vs 1 ?_
  refine Nt ?_
  refine Cd h3 (fun hb4 h5 => ?_) (fun hb4 h6 => ?_)
  ·refine Rg [0, 1, 2, 3, 4, 5, 6, 7, 8, 9] ?_
   refine Vs 1 ?_
   refine Vs 1 ?_
   refine V 19 3 (HG (x := (.tmp 18)) (ats := #[23]) (a := none) (n := 0) (c := 0) (E := 56) (s := 6) (by_ := 80) rfl rfl (by kernel_rfl)) ?_
   refine V 20 23 (Lt (t := 23) (x := (.tmp 17)) (y := (.tmp 19)) (E := 56) (s := 6) (by_ := 80) rfl (by kernel_rfl) (by kernel_rfl) rfl) ?_
   refine Vs 1 ?_
   obtain ⟨r7, hm8, h9⟩ := bind_some h5
   refine RWP.appendNil (dst := (some 22)) (ty := 23) (g := none) (by kernel_rfl) rfl (x := (.tmp 20)) (y := (.tmp 21)) (t := 23) (t2 := 3) (by_ := 80) (z := (.agg #[(vi 0), (vi 0), (.slice none ([] : List Expr).length 0), (vi 0), (vi 0), (.slice none ([] : List Expr).length 0)])) (T := As) (E := 56) rfl rfl (by kernel_rfl) (by decide) (by kernel_rfl) (by kernel_rfl) (z0 := ({ When := ({ Op := 0, Value := 0, Kids := ([] : List Expr) } : Expr), Then := ({ Op := 0, Value := 0, Kids := ([] : List Expr) } : Expr) } : Clause)) (fun _ => ⟨none, 0, none, 0, rfl, Sl, (.inl rfl), Sl, (.inl rfl)⟩) (by decide) hs0 hm8 (fun a10 n11 e12 w13 (hs14 : HS w0 F0 w13 F0 [e12]) hr15 => ?_)
   refine Vs 1 ?_
   refine Vs 1 ?_
   obtain ⟨r17, hr18, h19⟩ := bind_some h9
   refine RWP.sliceRow (T := As) (x := (.tmp 22)) (y := (.tmp 24)) (t := 23) (E := 56) (by_ := 80) (c := n11) (a := a10) (l := r7) (r := r17) (ih := (([] : List Clause).length : Int)) (dst := (some 25)) (ty := 23) (g := none) (by kernel_rfl) rfl rfl (by kernel_rfl) (by kernel_rfl) hr15 rfl hr18 (fun hr20 => ?_)
   refine Vs 1 ?_
   refine Nss (Rg [0, 1] ?_)
   refine Vs 1 ?_
   refine Vs 1 ?_
   refine Nt ?_
   refine Rt ?_
   have hfin := Aa h19
   subst hfin
   exact ⟨rfl, (.slice a10 r17.length n11), AC (l := [.tmp 4]) (by kernel_rfl) (vs := [(.slice a10 r17.length n11)]) ⟨rfl, trivial⟩, (.slice a10 r17.length n11), F0, _, rfl, hs14, _, _, _, rfl, rfl, hr20⟩
  ·refine Sc ?_
   refine Ac ?_
   refine Sq (Rg [0, 1] ?_)
   refine Vs 1 ?_
   refine Vs 1 ?_
   refine Nt ?_
   refine Rt ?_
   have hs21 := hs0.dummy (oc #[] 0)
   have hfin := Aa h6
   subst hfin
   exact ⟨rfl, (.slice none ([] : List Clause).length 0), AC (l := [.tmp 4]) (by kernel_rfl) (vs := [(.slice none ([] : List Clause).length 0)]) ⟨rfl, trivial⟩, (.slice none ([] : List Clause).length 0), F0, _, rfl, hs21, _, _, _, rfl, rfl, (Aw.nil As 56 F0 _)⟩
end Go.Proofs.YtaihlcdkcampbaaGreatDoor
