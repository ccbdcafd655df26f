/- Lemmas of the claim RulesShortUpto, printed by a program of the claimant and by hand. No statement of the seat is proved here. -/
import Derived.Test.YtaihlcdkcampbaaGreatDoorE20x1
set_option linter.unusedVariables false
set_option linter.unusedSimpArgs false
set_option linter.unusedSectionVars false
set_option maxHeartbeats 4000000
set_option maxRecDepth 100000
namespace Go.Proofs.YtaihlcdkcampbaaGreatDoor
def ups (g : Fr) (d : List Deferred) : List (Nat × Value) -> Fr
 | [] => ⟨g.v, d⟩
 | (i, v) :: l => upd (ups g d l) i v
def FI (f : Fr) (d : List Deferred) (l : List (Nat × Value)) : Prop := ∃ g, f = ups g d l
theorem O0 {f : Fr} {i : Nat} {v : Value} (h : f i = v) : upd f i v = f := by
 subst h
 cases f with
 | mk fv fd =>
  simp only [upd, Fr.mk.injEq, and_true]
  funext j
  cases hb : Nat.beq j i with
  | false => rfl
  | true => rw [Nat.eq_of_beq_eq_true hb]; rfl
def Eqs (f : Fr) : List (Nat × Value) -> Prop
 | [] => True
 | (i, v) :: l => f i = v /\ Eqs f l
theorem J6 {f : Fr} {d : List Deferred} (hd : f.d = d) : ∀ {l : List (Nat × Value)}, Eqs f l -> f = ups f d l
 | [], _ => by subst hd; rfl
 | (i, v) :: l, h => by
  show f = upd (ups f d l) i v
  rw [<- J6 hd h.2]; exact (O0 h.1).symm
theorem PB {f : Fr} : ∀ {l : List (Nat × Value)}, l.map (fun p => f p.1) = l.map (·.2) -> Eqs f l
 | [], _ => trivial
 | (i, v) :: l, h => by
  simp only [List.map_cons, List.cons.injEq] at h
  exact ⟨h.1, PB h.2⟩
theorem kq {α : Type} {a : α} (b : α) {c : α} (h : b = c) (k : a = b := by kernel_rfl) : a = c := k.trans h
theorem fI {f : Fr} {d : List Deferred} {l : List (Nat × Value)} (h : l.map (fun p => f p.1) = l.map (·.2) := by kernel_rfl) (hd : f.d = d := by kernel_rfl) : FI f d l := ⟨f, J6 hd (PB h)⟩
theorem fJ {f : Fr} {d : List Deferred} {l : List (Nat × Value)} (h : Eqs f l) (hd : f.d = d := by kernel_rfl) : FI f d l := ⟨f, J6 hd h⟩
def pkC : Op -> Operand | .pick c _ _ => c | _ => .tmp 0
def pkA : Op -> Operand | .pick _ a _ => a | _ => .tmp 0
def pkB : Op -> Operand | .pick _ _ b => b | _ => .tmp 0
def OM : Op -> Bool | .pick _ _ _ => true | _ => false
theorem G4 {op : Op} (h : OM op = true) : op = .pick (pkC op) (pkA op) (pkB op) := by cases op <;> simp_all [OM, pkC, pkA, pkB]
def ldX : Op -> Operand | .load _ x => x | _ => .tmp 0
def ldT : Op -> TypeId | .load t _ => t | _ => 0
def MS : Op -> Bool | .load _ _ => true | _ => false
theorem EC {op : Op} (h : MS op = true) : op = .load (ldT op) (ldX op) := by cases op <;> simp_all [MS, ldX, ldT]
def pO : Value -> Nat | .pointer (some ⟨_, o, _⟩) => o | _ => 0
def sB : Value -> Nat | .slice (some ⟨b, _, _⟩) _ _ => b | _ => 0
def sO : Value -> Nat | .slice (some ⟨_, o, _⟩) _ _ => o | _ => 0
def sC : Value -> Nat | .slice _ _ c => c | _ => 0
def iK : Value -> IntKind | .int k _ => k | _ => .i64
def ixX : Op -> Operand | .indexAddr _ x _ => x | _ => .tmp 0
def ixY : Op -> Operand | .indexAddr _ _ y => y | _ => .tmp 0
def ixT : Op -> TypeId | .indexAddr t _ _ => t | _ => 0
def ND : Op -> Bool | .indexAddr _ _ _ => true | _ => false
theorem Fz {op : Op} (h : ND op = true) : op = .indexAddr (ixT op) (ixX op) (ixY op) := by cases op <;> simp_all [ND, ixT, ixX, ixY]
def stX : Op -> Operand | .store _ x _ => x | _ => .tmp 0
def stY : Op -> Operand | .store _ _ y => y | _ => .tmp 0
def stT : Op -> TypeId | .store t _ _ => t | _ => 0
def I6 : Op -> Bool | .store _ _ _ => true | _ => false
theorem Fy {op : Op} (h : I6 op = true) : op = .store (stT op) (stX op) (stY op) := by cases op <;> simp_all [I6, stT, stX, stY]
def QU (t : TypeId) : Op -> Bool | .alloc t' => Nat.beq t t' | _ => false
theorem OO {t : TypeId} {op : Op} (h : QU t op = true) : op = .alloc t := by
 cases op <;> simp only [QU, Bool.false_eq_true] at h
 rw [Nat.eq_of_beq_eq_true h]
def bxX : Op -> Operand | .box _ x => x | _ => .tmp 0
def QT (t : TypeId) : Op -> Bool | .box t' _ => Nat.beq t t' | _ => false
theorem ON {t : TypeId} {op : Op} (h : QT t op = true) : op = .box t (bxX op) := by
 cases op <;> simp only [QT, Bool.false_eq_true] at h
 rw [Nat.eq_of_beq_eq_true h]; rfl
def bsV (P : Program) (f : Fr) : Op -> Option (TypeId × List Value) | .buildSlice t len parts => Ir P t len (parts.toList.map fun p => (p.1, fev f p.2)) | _ => none
def bsL : Op -> Nat | .buildSlice _ len _ => len | _ => 0
def clV (f : Fr) : Op -> Option (FuncId × List Value)
 | .call c => (match c.callee with
  | .value f0 => (match fev f f0 with
   | .func (.func g) fi ca => some (g, fi.toList ++ c.args.toList.map (fev f) ++ ca.toList)
   | _ => none)
  | _ => none)
 | _ => none
theorem GM {P : Program} {w : World} {f : Fr} {op : Op} {ty : TypeId} {g : FuncId} {args : List Value} (h : clV f op = some (g, args)) (hok : An P g) : (Am (fev f) op ty).run P w = .ok (.enter g args.toArray) w := by
 unfold clV at h
 split at h
 ·rename_i c
  obtain ⟨callee, aos, ats⟩ := c
  simp only at h
  split at h
  ·split at h
   ·rename_i hf
    simp only [Option.some.injEq, Prod.mk.injEq] at h
    obtain ⟨rfl, rfl⟩ := h
    exact C8 hf hok rfl
   ·cases h
  ·cases h
 ·cases h
section
variable {P : Program} {ro : Option Nat} {n : Nat} {R : Array Oper} {Q : Exit -> Fr -> World -> Prop} {i : Nat} {rest : List Nat} {f : Fr} {w w' w0 : World} {F0 F : Mem} {L : List (Option Nat × Obj)}
theorem RWP.valU {v : Value} (ho : ung R i = true) (hy : (Am (fev f) (Al R i) (FC R i)).run P w = .ok (.value v) w') (k : RWP P ro n R Q rest (AX f (Be R i) v) w') : RWP P ro n R Q (i :: rest) f w := RZ (Bp ho) rfl hy k
theorem Pk1 {t : Bool} (ht : t = true) (k : RWP P ro n R Q rest (AX f (Be R i) (fev f (pkA (Al R i)))) w) (hc : fev f (pkC (Al R i)) = .bool t := by kernel_rfl) (ho : (ung R i && OM (Al R i)) = true := by kernel_rfl) : RWP P ro n R Q (i :: rest) f w := by
 simp only [Bool.and_eq_true] at ho
 refine RWP.valU ho.1 ?_ k
 have := G4 ho.2
 rw [this] at hc ⊢; exact IA hc ht rfl
theorem Pk0 {t : Bool} (ht : t = false) (k : RWP P ro n R Q rest (AX f (Be R i) (fev f (pkB (Al R i)))) w) (hc : fev f (pkC (Al R i)) = .bool t := by kernel_rfl) (ho : (ung R i && OM (Al R i)) = true := by kernel_rfl) : RWP P ro n R Q (i :: rest) f w := by
 simp only [Bool.and_eq_true] at ho
 refine RWP.valU ho.1 ?_ k
 have := G4 ho.2
 rw [this] at hc ⊢; exact IB hc ht rfl
def ldV (P : Program) (t : TypeId) (C : Array Value) (o : Nat) : Value := match DK P t with | some (g, s) => mkV g (As C o s) | none => undef
def ldK (P : Program) (t : TypeId) (C : Array Value) (o : Nat) : Bool := match DK P t with | some (g, s) => Nat.beq (As C o s).length s && (g || s == 1) | none => false
theorem Nl {ρ : Operand -> Value} {t ty : TypeId} {x : Operand} {b o : Nat} {C : Array Value} {E : TypeId} {fz : Nat × Nat} (hx : ρ x = .pointer (some ⟨b, o, none⟩)) (hp : w.heap[b]? = some (.cells C E fz)) (hk : ldK P t C o = true) :
  (Am ρ (.load t x) ty).run P w = .ok (.value (ldV P t C o)) w := by
 unfold ldK at hk; unfold ldV
 split at hk
 ·rename_i g s ht
  simp only [Bool.and_eq_true] at hk
  exact Cb hx ht hp (Nat.eq_of_beq_eq_true hk.1) hk.2 rfl
 ·cases hk
theorem Ld {b : Nat} {C : Array Value} {E : TypeId} {fz : Nat × Nat} (hp : w.heap[b]? = some (.cells C E fz)) (k : RWP P ro n R Q rest (AX f (Be R i) (ldV P (ldT (Al R i)) C (pO (fev f (ldX (Al R i)))))) w)
  (hx : fev f (ldX (Al R i)) = .pointer (some ⟨b, pO (fev f (ldX (Al R i))), none⟩) := by kernel_rfl) (ho : (ung R i && (MS (Al R i) && ldK P (ldT (Al R i)) C (pO (fev f (ldX (Al R i)))))) = true := by kernel_rfl) : RWP P ro n R Q (i :: rest) f w := by
 simp only [Bool.and_eq_true] at ho
 refine RWP.valU ho.1 ?_ k
 have := EC ho.2.1
 rw [this]; exact Nl hx hp ho.2.2
def lxV (P : Program) (t : TypeId) (cs : List Value) (j : Nat) : Value := match DK P t with | some (g, s) => mkV g ((cs.drop j).take s) | none => undef
def lxK (P : Program) (t : TypeId) (cs : List Value) (j kk : Nat) : Bool := match DK P t with | some (g, s) => decide (j + s <= kk) && (Nat.beq ((cs.drop j).take s).length s && (g || s == 1)) | none => false
theorem Ni {ρ : Operand -> Value} {t ty : TypeId} {x : Operand} {j b o kk : Nat} {C : Array Value} {E : TypeId} {fz : Nat × Nat} {cs : List Value} (hx : ρ x = .pointer (some ⟨b, o + j, none⟩)) (hp : w.heap[b]? = some (.cells C E fz)) (hc : As C o kk = cs) (hk : lxK P t cs j kk = true) :
  (Am ρ (.load t x) ty).run P w = .ok (.value (lxV P t cs j)) w := by
 unfold lxK at hk; unfold lxV
 split at hk
 ·rename_i g s ht
  simp only [Bool.and_eq_true] at hk
  exact IC hx ht hp hc hk.1 ⟨Nat.eq_of_beq_eq_true hk.2.1, trivial⟩ hk.2.2 rfl
 ·cases hk
theorem Lx (j : Nat) {b o kk : Nat} {C : Array Value} {E : TypeId} {fz : Nat × Nat} {cs : List Value} (hp : w.heap[b]? = some (.cells C E fz)) (hc : As C o kk = cs) (k : RWP P ro n R Q rest (AX f (Be R i) (lxV P (ldT (Al R i)) cs j)) w)
  (hx : fev f (ldX (Al R i)) = .pointer (some ⟨b, o + j, none⟩) := by kernel_rfl) (ho : (ung R i && (MS (Al R i) && lxK P (ldT (Al R i)) cs j kk)) = true := by kernel_rfl) : RWP P ro n R Q (i :: rest) f w := by
 simp only [Bool.and_eq_true] at ho
 refine RWP.valU ho.1 ?_ k
 have := EC ho.2.1
 rw [this]; exact Ni hx hp hc ho.2.2
def elS (P : Program) (t : TypeId) : Nat := match AZ P t with | some (_, s, _) => s | none => 0
theorem Ix {m : Nat} {y : Int} (hi : 0 <= y /\ y < (m : Int)) (k : RWP P ro n R Q rest (AX f (Be R i) (.pointer (some ⟨sB (fev f (ixX (Al R i))), sO (fev f (ixX (Al R i))) + y.toNat * elS P (ixT (Al R i)), none⟩))) w)
  (hx : fev f (ixX (Al R i)) = .slice (some ⟨sB (fev f (ixX (Al R i))), sO (fev f (ixX (Al R i))), none⟩) m (sC (fev f (ixX (Al R i)))) := by kernel_rfl) (hy : fev f (ixY (Al R i)) = .int (iK (fev f (ixY (Al R i)))) y := by kernel_rfl)
  (ho : (ung R i && (ND (Al R i) && slQ P (ixT (Al R i)))) = true := by kernel_rfl) : RWP P ro n R Q (i :: rest) f w := by
 simp only [Bool.and_eq_true] at ho
 obtain ⟨h1, h2, h3⟩ := ho
 refine RWP.valU h1 ?_ k
 unfold slQ at h3
 split at h3
 ·rename_i q hq; obtain ⟨E, s, by_⟩ := q
  have es : elS P (ixT (Al R i)) = s := by simp [elS, hq]
  rw [es]
  have e := Fz h2
  have := Fm (P := P) (w := w) (ty := FC R i) hx hy hq hi
  rw [<- e] at this; exact this
 ·cases h3
theorem Ix0 {m : Nat} {y : Int} (hi : 0 <= y /\ y < (m : Int)) (k : RWP P ro n R Q rest (AX f (Be R i) (.pointer (some ⟨sB (fev f (ixX (Al R i))), y.toNat * elS P (ixT (Al R i)), none⟩))) w)
  (hx : fev f (ixX (Al R i)) = .slice (some ⟨sB (fev f (ixX (Al R i))), 0, none⟩) m (sC (fev f (ixX (Al R i)))) := by kernel_rfl) (hy : fev f (ixY (Al R i)) = .int (iK (fev f (ixY (Al R i)))) y := by kernel_rfl)
  (ho : (ung R i && (ND (Al R i) && slQ P (ixT (Al R i)))) = true := by kernel_rfl) : RWP P ro n R Q (i :: rest) f w := by
 simp only [Bool.and_eq_true] at ho
 obtain ⟨h1, h2, h3⟩ := ho
 refine RWP.valU h1 ?_ k
 unfold slQ at h3
 split at h3
 ·rename_i q hq; obtain ⟨E, s, by_⟩ := q
  have es : elS P (ixT (Al R i)) = s := by simp [elS, hq]
  rw [es]
  have e := Fz h2
  have := Ke (P := P) (w := w) (ty := FC R i) hx hy hq hi
  rw [<- e] at this; exact this
 ·cases h3
theorem Pc {ρ : Operand -> Value} {t ty : TypeId} {x y : Operand} {m : Nat} {q : Int} (hi : 0 <= q /\ q < (m : Int)) (hx : ρ x = .slice (some ⟨sB (ρ x), sO (ρ x), none⟩) m (sC (ρ x))) (hy : ρ y = .int (iK (ρ y)) q) (h3 : slQ P t = true) :
  (Am ρ (.indexAddr t x y) ty).run P w = .ok (.value (.pointer (some ⟨sB (ρ x), sO (ρ x) + q.toNat * elS P t, none⟩))) w := by
 unfold slQ at h3
 split at h3
 ·rename_i a hq; obtain ⟨E, s, by_⟩ := a
  have es : elS P t = s := by simp [elS, hq]
  rw [es]; exact Fm hx hy hq hi
 ·cases h3
theorem P5 {t ty : TypeId} {x y : Operand} {m : Nat} {q : Int} (hi : 0 <= q /\ q < (m : Int)) (hx : fev f x = .slice (some ⟨sB (fev f x), 0, none⟩) m (sC (fev f x))) (hy : fev f y = .int (iK (fev f y)) q) (h3 : slQ P t = true) :
  (Am (fev f) (.indexAddr t x y) ty).run P w = .ok (.value (.pointer (some ⟨sB (fev f x), q.toNat * elS P t, none⟩))) w := by
 unfold slQ at h3
 split at h3
 ·rename_i a hq; obtain ⟨E, s, by_⟩ := a
  have es : elS P t = s := by simp [elS, hq]
  rw [es]; exact Ke hx hy hq hi
 ·cases h3
theorem RWP.valG {gb' gc : Bool} (hg : gc = gb') {v : Value} (hy : (Am (fev f) (Al R i) (FC R i)).run P w = .ok (.value v) w') (k : RWP P ro n R Q rest (AX f (Be R i) v) w')
  (ho2 : KS R (gj R [i]) gb' i = true) (hj : Fd R (gj R [i]) = some (gq R [i])) (hf : f (gq R [i]) = .bool gc) : RWP P ro n R Q (i :: rest) f w := by
 rcases Kl ho2 with e | e
 ·exact RZ e rfl hy k
 ·exact RZ e (K5 hj hf hg) hy k
theorem Pg1 {gb' gc : Bool} (hg : gc = gb') {t : Bool} (ht : t = true) (k : RWP P ro n R Q rest (AX f (Be R i) (fev f (pkA (Al R i)))) w) (hc : fev f (pkC (Al R i)) = .bool t := by kernel_rfl) (ho : OM (Al R i) = true := by kernel_rfl)
  (ho2 : KS R (gj R [i]) gb' i = true := by kernel_rfl) (hj : Fd R (gj R [i]) = some (gq R [i]) := by kernel_rfl) (hf : f (gq R [i]) = .bool gc := by kernel_rfl) : RWP P ro n R Q (i :: rest) f w := by
 refine RWP.valG hg ?_ k ho2 hj hf
 have := G4 ho
 rw [this] at hc ⊢; exact IA hc ht rfl
theorem Pg0 {gb' gc : Bool} (hg : gc = gb') {t : Bool} (ht : t = false) (k : RWP P ro n R Q rest (AX f (Be R i) (fev f (pkB (Al R i)))) w) (hc : fev f (pkC (Al R i)) = .bool t := by kernel_rfl) (ho : OM (Al R i) = true := by kernel_rfl)
  (ho2 : KS R (gj R [i]) gb' i = true := by kernel_rfl) (hj : Fd R (gj R [i]) = some (gq R [i]) := by kernel_rfl) (hf : f (gq R [i]) = .bool gc := by kernel_rfl) : RWP P ro n R Q (i :: rest) f w := by
 refine RWP.valG hg ?_ k ho2 hj hf
 have := G4 ho
 rw [this] at hc ⊢; exact IB hc ht rfl
theorem Lg {gb' gc : Bool} (hg : gc = gb') {b : Nat} {C : Array Value} {E : TypeId} {fz : Nat × Nat} (hp : w.heap[b]? = some (.cells C E fz)) (k : RWP P ro n R Q rest (AX f (Be R i) (ldV P (ldT (Al R i)) C (pO (fev f (ldX (Al R i)))))) w)
  (hx : fev f (ldX (Al R i)) = .pointer (some ⟨b, pO (fev f (ldX (Al R i))), none⟩) := by kernel_rfl) (ho : (MS (Al R i) && ldK P (ldT (Al R i)) C (pO (fev f (ldX (Al R i))))) = true := by kernel_rfl)
  (ho2 : KS R (gj R [i]) gb' i = true := by kernel_rfl) (hj : Fd R (gj R [i]) = some (gq R [i]) := by kernel_rfl) (hf : f (gq R [i]) = .bool gc := by kernel_rfl) : RWP P ro n R Q (i :: rest) f w := by
 simp only [Bool.and_eq_true] at ho
 refine RWP.valG hg ?_ k ho2 hj hf
 have := EC ho.1
 rw [this]; exact Nl hx hp ho.2
theorem Lxg {gb' gc : Bool} (hg : gc = gb') (j : Nat) {b o kk : Nat} {C : Array Value} {E : TypeId} {fz : Nat × Nat} {cs : List Value} (hp : w.heap[b]? = some (.cells C E fz)) (hcs : As C o kk = cs) (k : RWP P ro n R Q rest (AX f (Be R i) (lxV P (ldT (Al R i)) cs j)) w)
  (hx : fev f (ldX (Al R i)) = .pointer (some ⟨b, o + j, none⟩) := by kernel_rfl) (ho : (MS (Al R i) && lxK P (ldT (Al R i)) cs j kk) = true := by kernel_rfl)
  (ho2 : KS R (gj R [i]) gb' i = true := by kernel_rfl) (hj : Fd R (gj R [i]) = some (gq R [i]) := by kernel_rfl) (hf : f (gq R [i]) = .bool gc := by kernel_rfl) : RWP P ro n R Q (i :: rest) f w := by
 simp only [Bool.and_eq_true] at ho
 refine RWP.valG hg ?_ k ho2 hj hf
 have := EC ho.1
 rw [this]; exact Ni hx hp hcs ho.2
theorem Ixg {gb' gc : Bool} (hg : gc = gb') {m : Nat} {y : Int} (hi : 0 <= y /\ y < (m : Int)) (k : RWP P ro n R Q rest (AX f (Be R i) (.pointer (some ⟨sB (fev f (ixX (Al R i))), sO (fev f (ixX (Al R i))) + y.toNat * elS P (ixT (Al R i)), none⟩))) w)
  (hx : fev f (ixX (Al R i)) = .slice (some ⟨sB (fev f (ixX (Al R i))), sO (fev f (ixX (Al R i))), none⟩) m (sC (fev f (ixX (Al R i)))) := by kernel_rfl) (hy : fev f (ixY (Al R i)) = .int (iK (fev f (ixY (Al R i)))) y := by kernel_rfl)
  (ho : (ND (Al R i) && slQ P (ixT (Al R i))) = true := by kernel_rfl)
  (ho2 : KS R (gj R [i]) gb' i = true := by kernel_rfl) (hj : Fd R (gj R [i]) = some (gq R [i]) := by kernel_rfl) (hf : f (gq R [i]) = .bool gc := by kernel_rfl) : RWP P ro n R Q (i :: rest) f w := by
 simp only [Bool.and_eq_true] at ho
 refine RWP.valG hg ?_ k ho2 hj hf
 have e := Fz ho.1
 have := Pc (P := P) (w := w) (ty := FC R i) hi hx hy ho.2
 rw [<- e] at this; exact this
theorem Al' (t : TypeId) (C : Array Value) (hs : HS w0 F0 w F L) (k : ∀ b w', HS w0 F0 w' F ((some b, .cells C t (0, 0)) :: L) -> RWP P ro n R Q rest (AX f (Be R i) (.pointer (some ⟨b, 0, none⟩))) w')
  (hC : (Bw P t).map Value.cells = some C := by kernel_rfl) (ho : (ung R i && QU t (Al R i)) = true := by kernel_rfl) : RWP P ro n R Q (i :: rest) f w := by
 simp only [Bool.and_eq_true] at ho
 cases hz : Bw P t with
 | none => rw [hz] at hC; cases hC
 | some z =>
  rw [hz] at hC; simp only [Option.map_some, Option.some.injEq] at hC
  have e := OO ho.2
  have := Bp ho.1
  rw [e] at this
  exact Sf this rfl hz hC hs k
theorem Bx' (t : TypeId) (C : Array Value) (hs : HS w0 F0 w F L) (k : ∀ b w', HS w0 F0 w' F ((some b, .cells C t (0, 0)) :: L) -> RWP P ro n R Q rest (AX f (Be R i) (.pointer (some ⟨b, 0, none⟩))) w')
  (hC : (fev f (bxX (Al R i))).cells = C := by kernel_rfl) (ho : (ung R i && QT t (Al R i)) = true := by kernel_rfl) : RWP P ro n R Q (i :: rest) f w := by
 simp only [Bool.and_eq_true] at ho
 have e := ON ho.2
 have := Bp ho.1
 rw [e] at this
 exact RWP.box this rfl rfl hC hs k
theorem Bs (E : TypeId) (cs : List Value) (hs : HS w0 F0 w F L) (k : ∀ b w', HS w0 F0 w' F ((some b, .cells cs.toArray E (0, 0)) :: L) -> RWP P ro n R Q rest (AX f (Be R i) (.slice (some ⟨b, 0, none⟩) (bsL (Al R i)) (bsL (Al R i)))) w')
  (hb : bsV P f (Al R i) = some (E, cs) := by kernel_rfl) (ho : ung R i = true := by kernel_rfl) : RWP P ro n R Q (i :: rest) f w := by
 have := Bp ho
 cases e : Al R i with
 | buildSlice t len parts =>
  rw [e] at hb this k
  exact RWP.buildSlice this rfl rfl hb hs k
 | _ => rw [e] at hb; simp [bsV] at hb
def DL (P : Program) (t : TypeId) (v : Value) (o : Nat) (C : Array Value) : Bool := match DK P t with | some (_, s) => Nat.beq v.cells.size s && (decide (o + s <= C.size) && v.cells.toList.all (·.oneCell')) | none => false
theorem J9 {ρ : Operand -> Value} {t ty : TypeId} {x y : Operand} {b o : Nat} {C C' : Array Value} {E : TypeId} (hx : ρ x = .pointer (some ⟨b, o, none⟩)) (hp : w.heap[b]? = some (.cells C E (0, 0))) (hk : DL P t (ρ y) o C = true) (hC : Dr C o (ρ y).cells.toList = C') :
  (Am ρ (.store t x y) ty).run P w = .ok .skip (Ct w b (.cells C' E (0, 0))) := by
 unfold DL at hk
 split at hk
 ·rename_i g s ht
  simp only [Bool.and_eq_true] at hk
  exact FE hx rfl ht hp (Nat.eq_of_beq_eq_true hk.1) hk.2.1 hk.2.2 hC
 ·cases hk
theorem Jl {b : Nat} {C C' : Array Value} {E : TypeId} (hp : w.heap[b]? = some (.cells C E (0, 0))) (k : RWP P ro n R Q rest f (Ct w b (.cells C' E (0, 0))))
  (hx : fev f (stX (Al R i)) = .pointer (some ⟨b, pO (fev f (stX (Al R i))), none⟩)) (hC : Dr C (pO (fev f (stX (Al R i)))) (fev f (stY (Al R i))).cells.toList = C')
  (ho : (ung R i && (I6 (Al R i) && (DL P (stT (Al R i)) (fev f (stY (Al R i))) (pO (fev f (stX (Al R i)))) C && (match Be R i with | none => true | some _ => false)))) = true) : RWP P ro n R Q (i :: rest) f w := by
 simp only [Bool.and_eq_true] at ho
 obtain ⟨h1, h2, h3, h4⟩ := ho
 have e := Fy h2
 have := Bp h1
 cases hd : Be R i with
 | some d => rw [hd] at h4; cases h4
 | none =>
  rw [hd] at this
  refine RWP.unit this rfl ?_ k
  rw [e]; exact J9 hx hp h3 hC
theorem Cl' {fid : FuncId} {args : List Value} {post : Mem -> Value -> Prop} (hok : An P fid) (hs : HS w0 F0 w F L) (hc : Calls P fid args.toArray w (AU w F post))
  (k : ∀ v F1 w1, HS w0 F0 w1 F1 L -> R5 F F1 -> post F1 v -> RWP P ro n R Q rest (AX f (Be R i) v) w1) (ha : clV f (Al R i) = some (fid, args) := by kernel_rfl) (ho : ung R i = true := by kernel_rfl) : RWP P ro n R Q (i :: rest) f w := by
 refine R2 (Bp ho) rfl (GM ha hok) hc ?_
 rintro e w' ⟨r, F', rfl, h1, h2⟩
 exact k r F' w' (hs.call h1) h1.le h2
theorem Cg {fid : FuncId} {args : List Value} {post : Mem -> Value -> Prop} {b c : Bool} (hg : c = b) (hok : An P fid) (hs : HS w0 F0 w F L) (hc : Calls P fid args.toArray w (AU w F post))
  (k : ∀ v F1 w1, HS w0 F0 w1 F1 L -> R5 F F1 -> post F1 v -> RWP P ro n R Q rest (AX f (Be R i) v) w1) (ha : clV f (Al R i) = some (fid, args) := by kernel_rfl)
  (ho : KS R (gj R [i]) b i = true := by kernel_rfl) (hj : Fd R (gj R [i]) = some (gq R [i]) := by kernel_rfl) (hf : f (gq R [i]) = .bool c := by kernel_rfl) : RWP P ro n R Q (i :: rest) f w := by
 have hE : ∀ e w', AU w F post e w' -> match e with
   | .returned v => RWP P ro n R Q rest (AX f (Be R i) v) w'
   | .panicked chain => Q (.panic chain) f w'
   | .outgrown => False := by
  rintro e w' ⟨r, F', rfl, h1, h2⟩
  exact k r F' w' (hs.call h1) h1.le h2
 rcases Kl ho with e | e
 ·exact R2 e rfl (GM ha hok) hc hE
 ·exact R2 e (K5 hj hf hg) (GM ha hok) hc hE
theorem CB {fid : FuncId} {args : List Value} {wb : World} {Fb : Mem} {post : Mem -> Value -> Own -> Prop} (hok : An P fid) (hc : Calls P fid args.toArray w (NV wb Fb F post))
  (k : ∀ v F1 w1 L', HS wb Fb w1 F1 L' -> R5 F F1 -> post F1 v L' -> RWP P ro n R Q rest (AX f (Be R i) v) w1) (ha : clV f (Al R i) = some (fid, args) := by kernel_rfl) (ho : ung R i = true := by kernel_rfl) : RWP P ro n R Q (i :: rest) f w := by
 refine R2 (Bp ho) rfl (GM ha hok) hc ?_
 rintro e w' ⟨F', r, L', rfl, h1, h2, h3⟩
 exact k r F' w' L' h1 h2 h3
theorem CP {fid : FuncId} {args : List Value} {wb : World} {Fb : Mem} {α β : Type} {Lf : Own} {res : β ⊕ α} {bv : β -> Value} {post : α -> Mem -> Value -> Own -> Prop} (hok : An P fid) (hc : Calls P fid args.toArray w (BH wb Fb F Lf res bv post))
  (k : ∀ r v F1 w1 L', res = .inr r -> HS wb Fb w1 F1 L' -> R5 F F1 -> post r F1 v L' -> RWP P ro n R Q rest (AX f (Be R i) v) w1)
  (kp : ∀ b F1 w1, res = .inl b -> HS wb Fb w1 F1 Lf -> R5 F F1 -> Q (.panic [{ v := bv b, recovered := false }]) f w1) (ha : clV f (Al R i) = some (fid, args) := by kernel_rfl) (ho : ung R i = true := by kernel_rfl) : RWP P ro n R Q (i :: rest) f w := by
 refine R2 (Bp ho) rfl (GM ha hok) hc ?_
 rintro e w' (⟨r, F', v, L', h0, rfl, h1, h2, h3⟩ | ⟨b, F', h0, rfl, h1, h2⟩)
 ·exact k r v F' w' L' h0 h1 h2 h3
 ·exact kp b F' w' h0 h1 h2
def clQ (f : Fr) : Op -> Option (FuncId × List Value)
 | .call c => (match c.callee with
  | .value f0 => (match fev f f0 with
   | .func (.func g) fi ca => some (g, fi.toList ++ (c.args.toList.map (fev f) ++ ca.toList))
   | _ => none)
  | _ => none)
 | _ => none
theorem NK (f : Fr) (op : Op) : clQ f op = clV f op := by
 unfold clQ clV
 split <;> try rfl
 split <;> try rfl
 split <;> try rfl
 simp [List.append_assoc]
theorem Cq {fid : FuncId} {args : List Value} {post : Mem -> Value -> Prop} (hok : An P fid) (hs : HS w0 F0 w F L) (hc : Calls P fid args.toArray w (AU w F post))
  (k : ∀ v F1 w1, HS w0 F0 w1 F1 L -> R5 F F1 -> post F1 v -> RWP P ro n R Q rest (AX f (Be R i) v) w1) (ha : clQ f (Al R i) = some (fid, args) := by kernel_rfl) (ho : ung R i = true := by kernel_rfl) : RWP P ro n R Q (i :: rest) f w := Cl' hok hs hc k (NK f _ ▸ ha) ho
theorem CBq {fid : FuncId} {args : List Value} {wb : World} {Fb : Mem} {post : Mem -> Value -> Own -> Prop} (hok : An P fid) (hc : Calls P fid args.toArray w (NV wb Fb F post))
  (k : ∀ v F1 w1 L', HS wb Fb w1 F1 L' -> R5 F F1 -> post F1 v L' -> RWP P ro n R Q rest (AX f (Be R i) v) w1) (ha : clQ f (Al R i) = some (fid, args) := by kernel_rfl) (ho : ung R i = true := by kernel_rfl) : RWP P ro n R Q (i :: rest) f w := CB hok hc k (NK f _ ▸ ha) ho
theorem CPq {fid : FuncId} {args : List Value} {wb : World} {Fb : Mem} {α β : Type} {Lf : Own} {res : β ⊕ α} {bv : β -> Value} {post : α -> Mem -> Value -> Own -> Prop} (hok : An P fid) (hc : Calls P fid args.toArray w (BH wb Fb F Lf res bv post))
  (k : ∀ r v F1 w1 L', res = .inr r -> HS wb Fb w1 F1 L' -> R5 F F1 -> post r F1 v L' -> RWP P ro n R Q rest (AX f (Be R i) v) w1)
  (kp : ∀ b F1 w1, res = .inl b -> HS wb Fb w1 F1 Lf -> R5 F F1 -> Q (.panic [{ v := bv b, recovered := false }]) f w1) (ha : clQ f (Al R i) = some (fid, args) := by kernel_rfl) (ho : ung R i = true := by kernel_rfl) : RWP P ro n R Q (i :: rest) f w := CP hok hc k kp (NK f _ ▸ ha) ho
theorem Go (m : Nat) {fid : FuncId} {fn : Func} {args : List Value} {S : Ending -> World -> Prop} (hf : P.funcs[fid]? = some fn) (h : CWP P none m (B7 fn) (Rh P fn.results S) (f0 args) w)
  (hk : (Nat.beq fn.ntmps m && (decide (args.length <= m) && isS fn.body)) = true := by kernel_rfl) : Calls P fid args.toArray w S := by
 simp only [Bool.and_eq_true] at hk
 have h1 := Gu (d := .skip) hk.2.2
 exact Ea hf h1 (Nat.eq_of_beq_eq_true hk.1) hk.2.1 h
theorem Sd {α : Type} {t : Bool} {x y r : α} (h : (bif t then x else y) = r) {PQ : List PanicEntry -> List Deferred -> World -> Prop} {Post : Fr -> World -> Prop} {z : Nat} {Sw : Bool -> World -> Prop} {fuel : Nat} {l : List Bool}
  (ht : t = true -> x = r -> DWP P n R PQ Post z Sw fuel l f w) (hf : t = false -> y = r -> DWP P n R PQ Post z Sw fuel l f w) : DWP P n R PQ Post z Sw fuel l f w :=
 DWP.split t (fun e => ht e (NI h e)) (fun e => hf e (NJ h e))
variable {c : Code} {Q' : Exit -> Fr -> World -> Prop}
theorem Cd {α : Type} {t : Bool} {x y r : α} (h : (bif t then x else y) = r) (ht : t = true -> x = r -> CWP P ro n (PI c) Q f w) (hf : t = false -> y = r -> CWP P ro n (PJ c) Q f w) (hc : fev f (NH c) = .bool t := by kernel_rfl) (hk : kin c = 4 := by kernel_rfl) : CWP P ro n c Q f w :=
 CWP.cond hk hc (fun e => ht e (NI h e)) (fun e => hf e (NJ h e))
theorem Cp (t : Bool) (ht : t = true -> CWP P ro n (PI c) Q f w) (hf : t = false -> CWP P ro n (PJ c) Q f w) (hc : fev f (NH c) = .bool t := by kernel_rfl) (hk : kin c = 4 := by kernel_rfl) : CWP P ro n c Q f w := CWP.cond hk hc ht hf
theorem C1 {t : Bool} (e : t = true) (h : CWP P ro n (PI c) Q f w) (hc : fev f (NH c) = .bool t := by kernel_rfl) (hk : kin c = 4 := by kernel_rfl) : CWP P ro n c Q f w := CWP.cond1 hk hc e h
theorem C0 {t : Bool} (e : t = false) (h : CWP P ro n (PJ c) Q f w) (hc : fev f (NH c) = .bool t := by kernel_rfl) (hk : kin c = 4 := by kernel_rfl) : CWP P ro n c Q f w := CWP.cond0 hk hc e h
theorem Sp {α : Type} {t : Bool} {x y r : α} (h : (bif t then x else y) = r) {l : List Nat} (ht : t = true -> x = r -> RWP P ro n R Q l f w) (hf : t = false -> y = r -> RWP P ro n R Q l f w) : RWP P ro n R Q l f w :=
 Sa t (fun e => ht e (NI h e)) (fun e => hf e (NJ h e))
theorem Rt (h : Q .ret f w) (hk : kin c = 8 := by kernel_rfl) : CWP P ro n c Q f w := CWP.ret hk h
theorem Ex (h : Q (.exit (cid c)) f w) (hk : kin c = 7 := by kernel_rfl) : CWP P ro n c Q f w := CWP.exit hk h
end
def Np (f : Fr) : List ResultVar -> Option (List Value)
 | [] => some []
 | .tmp t :: rs => (match Np f rs with | some l => some (f t :: l) | none => none)
 | _ => none
theorem GY {P : Program} {w : World} {f : Fr} : ∀ {rs : List ResultVar} {vs : List Value}, Np f rs = some vs -> PR P w f rs vs
 | [], _, h => by cases h; trivial
 | .tmp t :: rs, vs, h => by
  unfold Np at h
  split at h
  ·rename_i l hl; cases h; exact ⟨rfl, GY hl⟩
  ·cases h
 | .cell _ _ :: rs, vs, h => by simp [Np] at h
theorem Re {P : Program} {rs : Array ResultVar} {w w0 : World} {F0 F : Mem} {f : Fr} {L : List (Option Nat × Obj)} {post : Mem -> Value -> Prop} (vs : List Value) (hs : HS w0 F0 w F L) (hp : post F (E9 vs)) (hr : Np f rs.toList = some vs := by kernel_rfl) (hd : f.d = [] := by kernel_rfl) :
  f.d = [] /\ ∃ v, (Cs rs f).run P w = .ok v w /\ AU w0 F0 post (.returned v) w :=
 ⟨hd, E9 vs, Av rfl (GY hr), E9 vs, F, rfl, hs.clear, hp⟩
theorem ReB {P : Program} {rs : Array ResultVar} {w wb : World} {Fb F0 F : Mem} {f : Fr} {L : Own} {post : Mem -> Value -> Own -> Prop} (vs : List Value) (hs : HS wb Fb w F L) (hl : R5 F0 F) (hp : post F (E9 vs) L) (hr : Np f rs.toList = some vs := by kernel_rfl) (hd : f.d = [] := by kernel_rfl) :
  f.d = [] /\ ∃ v, (Cs rs f).run P w = .ok v w /\ NV wb Fb F0 post (.returned v) w :=
 ⟨hd, E9 vs, Av rfl (GY hr), F, E9 vs, L, rfl, hs, hl, hp⟩
theorem ReP {P : Program} {rs : Array ResultVar} {w wb : World} {Fb F0 F : Mem} {f : Fr} {L Lf : Own} {α β : Type} {a : α} {bv : β -> Value} {post : α -> Mem -> Value -> Own -> Prop} (vs : List Value) (hs : HS wb Fb w F L) (hl : R5 F0 F) (hp : post a F (E9 vs) L) (hr : Np f rs.toList = some vs := by kernel_rfl) (hd : f.d = [] := by kernel_rfl) :
  f.d = [] /\ ∃ v, (Cs rs f).run P w = .ok v w /\ BH wb Fb F0 Lf (.inr a) bv post (.returned v) w :=
 ⟨hd, E9 vs, Av rfl (GY hr), .inl ⟨a, F, E9 vs, L, rfl, rfl, hs, hl, hp⟩⟩
theorem Cw {w wb : World} {Fb F0 F : Mem} {f : Fr} {Lf : Own} {α β : Type} {b : β} {bv : β -> Value} {post : α -> Mem -> Value -> Own -> Prop} (hs : HS wb Fb w F Lf) (hl : R5 F0 F) (hd : f.d = [] := by kernel_rfl) :
  f.d = [] /\ BH wb Fb F0 Lf (.inl b) bv post (.panicked [{ v := bv b, recovered := false }]) w := ⟨hd, .inr ⟨b, F, rfl, rfl, hs, hl⟩⟩
section
variable {w0 w : World} {F0 F : Mem} {L : List (Option Nat × Obj)} {e : Option Nat × Obj}
theorem HS.dr0 (h : HS w0 F0 w F (e :: L)) : HS w0 F0 w F (L) := h.drop 0
theorem HS.at0 {b : Nat} {o : Obj} (h : HS w0 F0 w F ((some b, o) :: L)) : w.heap[b]? = some o := h.ownAt (k := 0) rfl
theorem HS.fc0 {b : Nat} {o : Obj} (h : HS w0 F0 w F ((some b, o) :: L)) : ∃ F1, HS w0 F0 w F1 (L) /\ R5 F F1 /\ F1 b = some o := h.freezeC (k := 0) rfl
theorem HS.fr0 {α : Type} {T : Ty α} {E : TypeId} {a : Sy} {cap : Nat} {l : List α} (h : HS w0 F0 w F (e :: L)) (hr : Au T E F a cap l e) : ∃ F1, HS w0 F0 w F1 (L) /\ R5 F F1 /\ SlA T F1 a l := h.freezeRow (k := 0) rfl hr
theorem HS.rd0 {α : Type} {T : Ty α} {E : TypeId} {a : Sy} {cap : Nat} {l : List α} (h : HS w0 F0 w F (e :: L)) (hr : Au T E F a cap l e) : Rd T F w a l := Au.rd h (k := 0) rfl hr
theorem HS.dr1 {e0 : Option Nat × Obj} (h : HS w0 F0 w F (e0 :: e :: L)) : HS w0 F0 w F (e0 :: L) := h.drop 1
theorem HS.pk1 {e0 : Option Nat × Obj} (h : HS w0 F0 w F (e0 :: e :: L)) : HS w0 F0 w F (e :: e0 :: L) := h.pick (k := 1) rfl
theorem HS.at1 {e0 : Option Nat × Obj} {b : Nat} {o : Obj} (h : HS w0 F0 w F (e0 :: (some b, o) :: L)) : w.heap[b]? = some o := h.ownAt (k := 1) rfl
theorem HS.fc1 {e0 : Option Nat × Obj} {b : Nat} {o : Obj} (h : HS w0 F0 w F (e0 :: (some b, o) :: L)) : ∃ F1, HS w0 F0 w F1 (e0 :: L) /\ R5 F F1 /\ F1 b = some o := h.freezeC (k := 1) rfl
theorem HS.dr2 {e0 e1 : Option Nat × Obj} (h : HS w0 F0 w F (e0 :: e1 :: e :: L)) : HS w0 F0 w F (e0 :: e1 :: L) := h.drop 2
theorem HS.pk2 {e0 e1 : Option Nat × Obj} (h : HS w0 F0 w F (e0 :: e1 :: e :: L)) : HS w0 F0 w F (e :: e0 :: e1 :: L) := h.pick (k := 2) rfl
theorem HS.at2 {e0 e1 : Option Nat × Obj} {b : Nat} {o : Obj} (h : HS w0 F0 w F (e0 :: e1 :: (some b, o) :: L)) : w.heap[b]? = some o := h.ownAt (k := 2) rfl
theorem HS.dr3 {e0 e1 e2 : Option Nat × Obj} (h : HS w0 F0 w F (e0 :: e1 :: e2 :: e :: L)) : HS w0 F0 w F (e0 :: e1 :: e2 :: L) := h.drop 3
theorem HS.pk3 {e0 e1 e2 : Option Nat × Obj} (h : HS w0 F0 w F (e0 :: e1 :: e2 :: e :: L)) : HS w0 F0 w F (e :: e0 :: e1 :: e2 :: L) := h.pick (k := 3) rfl
theorem HS.at3 {e0 e1 e2 : Option Nat × Obj} {b : Nat} {o : Obj} (h : HS w0 F0 w F (e0 :: e1 :: e2 :: (some b, o) :: L)) : w.heap[b]? = some o := h.ownAt (k := 3) rfl
theorem HS.pk4 {e0 e1 e2 e3 : Option Nat × Obj} (h : HS w0 F0 w F (e0 :: e1 :: e2 :: e3 :: e :: L)) : HS w0 F0 w F (e :: e0 :: e1 :: e2 :: e3 :: L) := h.pick (k := 4) rfl
theorem HS.at4 {e0 e1 e2 e3 : Option Nat × Obj} {b : Nat} {o : Obj} (h : HS w0 F0 w F (e0 :: e1 :: e2 :: e3 :: (some b, o) :: L)) : w.heap[b]? = some o := h.ownAt (k := 4) rfl
theorem HS.pk5 {e0 e1 e2 e3 e4 : Option Nat × Obj} (h : HS w0 F0 w F (e0 :: e1 :: e2 :: e3 :: e4 :: e :: L)) : HS w0 F0 w F (e :: e0 :: e1 :: e2 :: e3 :: e4 :: L) := h.pick (k := 5) rfl
theorem HS.at5 {e0 e1 e2 e3 e4 : Option Nat × Obj} {b : Nat} {o : Obj} (h : HS w0 F0 w F (e0 :: e1 :: e2 :: e3 :: e4 :: (some b, o) :: L)) : w.heap[b]? = some o := h.ownAt (k := 5) rfl
theorem HS.pk6 {e0 e1 e2 e3 e4 e5 : Option Nat × Obj} (h : HS w0 F0 w F (e0 :: e1 :: e2 :: e3 :: e4 :: e5 :: e :: L)) : HS w0 F0 w F (e :: e0 :: e1 :: e2 :: e3 :: e4 :: e5 :: L) := h.pick (k := 6) rfl
theorem HS.pk7 {e0 e1 e2 e3 e4 e5 e6 : Option Nat × Obj} (h : HS w0 F0 w F (e0 :: e1 :: e2 :: e3 :: e4 :: e5 :: e6 :: e :: L)) : HS w0 F0 w F (e :: e0 :: e1 :: e2 :: e3 :: e4 :: e5 :: e6 :: L) := h.pick (k := 7) rfl
variable {P : Program} {ro : Option Nat} {n : Nat} {R : Array Oper} {Q : Exit -> Fr -> World -> Prop} {i : Nat} {rest : List Nat} {f : Fr} {α : Type} {T : Ty α} {E : TypeId} {a : Sy} {cap : Nat} {l m : List α}
def apX : Op -> Operand | .call c => c.args[0]?.getD (.tmp 0) | _ => .tmp 0
def apY : Op -> Operand | .call c => c.args[1]?.getD (.tmp 0) | _ => .tmp 0
def apK (P : Program) (E : TypeId) (sz : Nat) : Op -> Bool
 | .call c => (match c.callee with
  | .builtin .append => (match c.args.toList, c.argTypes.toList with
   | [_, _], [t, t2] => (match AZ P t, Bw P E with
    | some (E', s, by_), some z => Nat.beq E E' && (Nat.beq s sz && (decide (by_ <= 1024) && (MR P t2 && Nat.beq z.cells.size sz)))
    | _, _ => false)
   | _, _ => false)
  | _ => false)
 | _ => false
theorem GW {op : Op} {sz : Nat} (h : apK P E sz op = true) : ∃ t t2 by_ z, op = .call { callee := .builtin .append, args := #[apX op, apY op], argTypes := #[t, t2] } /\ AZ P t = some (E, sz, by_) /\ decide (by_ <= 1024) = true /\ MR P t2 = true /\ Bw P E = some z /\ z.cells.size = sz := by
 unfold apK at h
 split at h
 ·rename_i c
  obtain ⟨callee, aos, ats⟩ := c
  simp only at h
  split at h
  ·split at h
   ·rename_i x y t t2 h1 h2
    split at h
    ·rename_i E' s by_ z he hz
     simp only [Bool.and_eq_true] at h
     obtain ⟨e1, e2, e3, e4, e5⟩ := h
     have e1 := Nat.eq_of_beq_eq_true e1
     have e2 := Nat.eq_of_beq_eq_true e2
     subst e1; subst e2
     have ha : aos = #[x, y] := by cases aos; simpa using h1
     have hb : ats = #[t, t2] := by cases ats; simpa using h2
     subst ha; subst hb
     exact ⟨t, t2, by_, z, rfl, he, e3, e4, hz, Nat.eq_of_beq_eq_true e5⟩
    ·cases h
   ·cases h
  ·cases h
 ·cases h
theorem St0 {b : Nat} {C : Array Value} {E : TypeId} (C' : Array Value) (hs : HS w0 F0 w F ((some b, .cells C E (0, 0)) :: L)) (k : ∀ w', HS w0 F0 w' F ((some b, .cells C' E (0, 0)) :: L) -> RWP P ro n R Q rest f w')
  (hx : fev f (stX (Al R i)) = .pointer (some ⟨b, pO (fev f (stX (Al R i))), none⟩) := by kernel_rfl) (hC : Dr C (pO (fev f (stX (Al R i)))) (fev f (stY (Al R i))).cells.toList = C' := by kernel_rfl)
  (ho : (ung R i && (I6 (Al R i) && (DL P (stT (Al R i)) (fev f (stY (Al R i))) (pO (fev f (stX (Al R i)))) C && (match Be R i with | none => true | some _ => false)))) = true := by kernel_rfl) : RWP P ro n R Q (i :: rest) f w :=
 Jl (hs.ownAt (k := 0) rfl) (k _ (hs.put (k := 0) rfl _)) hx hC ho
theorem Ap0 {a2 : Sy} (h1 : T.One) (hs : HS w0 F0 w F (e :: L)) (hr : Au T E F a cap l e) (hm : Rd T F w a2 m) {r : List α} (hap : EQ l m = some r)
  (k : ∀ a' cap' e' w', HS w0 F0 w' F (e' :: L) -> Au T E F a' cap' r e' -> RWP P ro n R Q rest (AX f (Be R i) (.slice a' r.length cap')) w')
  (hx : fev f (apX (Al R i)) = .slice a l.length cap := by kernel_rfl) (hy : fev f (apY (Al R i)) = .slice a2 m.length (sC (fev f (apY (Al R i)))) := by kernel_rfl) (ho : (ung R i && apK P E T.sz (Al R i)) = true := by kernel_rfl) : RWP P ro n R Q (i :: rest) f w := by
 simp only [Bool.and_eq_true] at ho
 obtain ⟨t, t2, by_, z, e1, he, hb, hni, hz, hzs⟩ := GW ho.2
 have := Bp ho.1
 rw [e1] at this
 exact RWP.append this rfl hx hy he hb hni hz hzs h1 hs (k := 0) rfl hr hm hap k
theorem St1 {e0 : Option Nat × Obj} {b : Nat} {C : Array Value} {E : TypeId} (C' : Array Value) (hs : HS w0 F0 w F (e0 :: (some b, .cells C E (0, 0)) :: L)) (k : ∀ w', HS w0 F0 w' F (e0 :: (some b, .cells C' E (0, 0)) :: L) -> RWP P ro n R Q rest f w')
  (hx : fev f (stX (Al R i)) = .pointer (some ⟨b, pO (fev f (stX (Al R i))), none⟩) := by kernel_rfl) (hC : Dr C (pO (fev f (stX (Al R i)))) (fev f (stY (Al R i))).cells.toList = C' := by kernel_rfl)
  (ho : (ung R i && (I6 (Al R i) && (DL P (stT (Al R i)) (fev f (stY (Al R i))) (pO (fev f (stX (Al R i)))) C && (match Be R i with | none => true | some _ => false)))) = true := by kernel_rfl) : RWP P ro n R Q (i :: rest) f w :=
 Jl (hs.ownAt (k := 1) rfl) (k _ (hs.put (k := 1) rfl _)) hx hC ho
theorem St2 {e0 e1 : Option Nat × Obj} {b : Nat} {C : Array Value} {E : TypeId} (C' : Array Value) (hs : HS w0 F0 w F (e0 :: e1 :: (some b, .cells C E (0, 0)) :: L)) (k : ∀ w', HS w0 F0 w' F (e0 :: e1 :: (some b, .cells C' E (0, 0)) :: L) -> RWP P ro n R Q rest f w')
  (hx : fev f (stX (Al R i)) = .pointer (some ⟨b, pO (fev f (stX (Al R i))), none⟩) := by kernel_rfl) (hC : Dr C (pO (fev f (stX (Al R i)))) (fev f (stY (Al R i))).cells.toList = C' := by kernel_rfl)
  (ho : (ung R i && (I6 (Al R i) && (DL P (stT (Al R i)) (fev f (stY (Al R i))) (pO (fev f (stX (Al R i)))) C && (match Be R i with | none => true | some _ => false)))) = true := by kernel_rfl) : RWP P ro n R Q (i :: rest) f w :=
 Jl (hs.ownAt (k := 2) rfl) (k _ (hs.put (k := 2) rfl _)) hx hC ho
theorem Ap2 {e0 e1 : Option Nat × Obj} {a2 : Sy} (h1 : T.One) (hs : HS w0 F0 w F (e0 :: e1 :: e :: L)) (hr : Au T E F a cap l e) (hm : Rd T F w a2 m) {r : List α} (hap : EQ l m = some r)
  (k : ∀ a' cap' e' w', HS w0 F0 w' F (e0 :: e1 :: e' :: L) -> Au T E F a' cap' r e' -> RWP P ro n R Q rest (AX f (Be R i) (.slice a' r.length cap')) w')
  (hx : fev f (apX (Al R i)) = .slice a l.length cap := by kernel_rfl) (hy : fev f (apY (Al R i)) = .slice a2 m.length (sC (fev f (apY (Al R i)))) := by kernel_rfl) (ho : (ung R i && apK P E T.sz (Al R i)) = true := by kernel_rfl) : RWP P ro n R Q (i :: rest) f w := by
 simp only [Bool.and_eq_true] at ho
 obtain ⟨t, t2, by_, z, e1, he, hb, hni, hz, hzs⟩ := GW ho.2
 have := Bp ho.1
 rw [e1] at this
 exact RWP.append this rfl hx hy he hb hni hz hzs h1 hs (k := 2) rfl hr hm hap k
theorem St3 {e0 e1 e2 : Option Nat × Obj} {b : Nat} {C : Array Value} {E : TypeId} (C' : Array Value) (hs : HS w0 F0 w F (e0 :: e1 :: e2 :: (some b, .cells C E (0, 0)) :: L)) (k : ∀ w', HS w0 F0 w' F (e0 :: e1 :: e2 :: (some b, .cells C' E (0, 0)) :: L) -> RWP P ro n R Q rest f w')
  (hx : fev f (stX (Al R i)) = .pointer (some ⟨b, pO (fev f (stX (Al R i))), none⟩) := by kernel_rfl) (hC : Dr C (pO (fev f (stX (Al R i)))) (fev f (stY (Al R i))).cells.toList = C' := by kernel_rfl)
  (ho : (ung R i && (I6 (Al R i) && (DL P (stT (Al R i)) (fev f (stY (Al R i))) (pO (fev f (stX (Al R i)))) C && (match Be R i with | none => true | some _ => false)))) = true := by kernel_rfl) : RWP P ro n R Q (i :: rest) f w :=
 Jl (hs.ownAt (k := 3) rfl) (k _ (hs.put (k := 3) rfl _)) hx hC ho
theorem St4 {e0 e1 e2 e3 : Option Nat × Obj} {b : Nat} {C : Array Value} {E : TypeId} (C' : Array Value) (hs : HS w0 F0 w F (e0 :: e1 :: e2 :: e3 :: (some b, .cells C E (0, 0)) :: L)) (k : ∀ w', HS w0 F0 w' F (e0 :: e1 :: e2 :: e3 :: (some b, .cells C' E (0, 0)) :: L) -> RWP P ro n R Q rest f w')
  (hx : fev f (stX (Al R i)) = .pointer (some ⟨b, pO (fev f (stX (Al R i))), none⟩) := by kernel_rfl) (hC : Dr C (pO (fev f (stX (Al R i)))) (fev f (stY (Al R i))).cells.toList = C' := by kernel_rfl)
  (ho : (ung R i && (I6 (Al R i) && (DL P (stT (Al R i)) (fev f (stY (Al R i))) (pO (fev f (stX (Al R i)))) C && (match Be R i with | none => true | some _ => false)))) = true := by kernel_rfl) : RWP P ro n R Q (i :: rest) f w :=
 Jl (hs.ownAt (k := 4) rfl) (k _ (hs.put (k := 4) rfl _)) hx hC ho
theorem St6 {e0 e1 e2 e3 e4 e5 : Option Nat × Obj} {b : Nat} {C : Array Value} {E : TypeId} (C' : Array Value) (hs : HS w0 F0 w F (e0 :: e1 :: e2 :: e3 :: e4 :: e5 :: (some b, .cells C E (0, 0)) :: L)) (k : ∀ w', HS w0 F0 w' F (e0 :: e1 :: e2 :: e3 :: e4 :: e5 :: (some b, .cells C' E (0, 0)) :: L) -> RWP P ro n R Q rest f w')
  (hx : fev f (stX (Al R i)) = .pointer (some ⟨b, pO (fev f (stX (Al R i))), none⟩) := by kernel_rfl) (hC : Dr C (pO (fev f (stX (Al R i)))) (fev f (stY (Al R i))).cells.toList = C' := by kernel_rfl)
  (ho : (ung R i && (I6 (Al R i) && (DL P (stT (Al R i)) (fev f (stY (Al R i))) (pO (fev f (stX (Al R i)))) C && (match Be R i with | none => true | some _ => false)))) = true := by kernel_rfl) : RWP P ro n R Q (i :: rest) f w :=
 Jl (hs.ownAt (k := 6) rfl) (k _ (hs.put (k := 6) rfl _)) hx hC ho
end
section
variable {P : Program} {n : Nat} {R : Array Oper} {Q : Exit -> Fr -> World -> Prop} {PQ : List PanicEntry -> List Deferred -> World -> Prop} {Post : Fr -> World -> Prop} {z fuel : Nat} {Sw : Bool -> World -> Prop} {i : Nat} {f : Fr} {w w' w0 : World} {F0 F Fs : Mem} {l : List Bool} {L Lc Lz : List (Option Nat × Obj)} {e : Option Nat × Obj}
def rdy (R : Array Oper) (z i : Nat) (l : List Bool) : Bool := Region.free .any R l.toArray i && ((Region.ready .any R l.toArray).contains i && HL R z i)
def dvf (P : Program) (R : Array Oper) : List Nat -> Fr -> Fr
 | [], f => f
 | i :: is, f => dvf P R is (AX f (Be R i) ((pv P (fev f) (Al R i)).getD undef))
def dvl : List Nat -> List Bool -> List Bool
 | [], l => l
 | i :: is, l => dvl is (l.set i true)
def PF (P : Program) (R : Array Oper) (z : Nat) : List Nat -> List Bool -> Fr -> Bool
 | [], _, _ => true
 | i :: is, l, f => ung R i && (isS (pv P (fev f) (Al R i)) && (rdy R z i l && PF P R z is (l.set i true) (AX f (Be R i) ((pv P (fev f) (Al R i)).getD undef))))
theorem PU : ∀ (is : List Nat) {l : List Bool} {f : Fr} {fuel : Nat}, DWP P n R PQ Post z Sw fuel (dvl is l) (dvf P R is f) w -> PF P R z is l f = true -> DWP P n R PQ Post z Sw (fuel + is.length) l f w
 | [], _, _, _, k, _ => k
 | i :: is, l, f, fuel, k, h => by
  simp only [PF, rdy, Bool.and_eq_true] at h
  obtain ⟨h1, h2, ⟨h3, h4, h5⟩, h6⟩ := h
  exact Si (Bp h1) h3 h4 h5 rfl rfl (fun _ _ => LX (Gu h2)) rfl (PU is k h6)
theorem Dv (is : List Nat) {fu : Nat} (k : DWP P n R PQ Post z Sw (fu - is.length) (dvl is l) (dvf P R is f) w) (h : PF P R z is l f = true := by kernel_rfl) (hfu : Nat.beq fu ((fu - is.length) + is.length) = true := by kernel_rfl) : DWP P n R PQ Post z Sw fu l f w := by
 have := Nat.eq_of_beq_eq_true hfu; rw [this]
 exact PU is k h
theorem Dvl (is : List Nat) (l' : List Bool) {fu : Nat} (k : DWP P n R PQ Post z Sw (fu - is.length) l' (dvf P R is f) w) (h : PF P R z is l f = true := by kernel_rfl) (hl : dvl is l = l' := by kernel_rfl) (hfu : Nat.beq fu ((fu - is.length) + is.length) = true := by kernel_rfl) : DWP P n R PQ Post z Sw fu l f w := by
 subst hl; exact Dv is k h hfu
theorem DWP.tk {v : Value} (i : Nat) {fu : Nat} (hy : ∀ w', Sw (l.toArray.getD z true) w' -> (Am (fev f) (Al R i) (FC R i)).run P w' = .ok (.value v) w') (k : DWP P n R PQ Post z Sw (fu - 1) (l.set i true) (AX f (Be R i) v) w) (ho : ung R i = true) (hr : rdy R z i l = true)
  (hfu : Nat.beq fu ((fu - 1) + 1) = true) : DWP P n R PQ Post z Sw fu l f w := by
 simp only [rdy, Bool.and_eq_true] at hr
 have := Nat.eq_of_beq_eq_true hfu; rw [this]
 exact Si (Bp ho) hr.1 hr.2.1 hr.2.2 rfl rfl hy rfl k
theorem Dl (i : Nat) {fu : Nat} {b : Nat} {C : Array Value} {E : TypeId} {fz : Nat × Nat} (hp : ∀ w', Sw (l.toArray.getD z true) w' -> w'.heap[b]? = some (.cells C E fz)) (k : DWP P n R PQ Post z Sw (fu - 1) (l.set i true) (AX f (Be R i) (ldV P (ldT (Al R i)) C (pO (fev f (ldX (Al R i)))))) w)
  (hx : fev f (ldX (Al R i)) = .pointer (some ⟨b, pO (fev f (ldX (Al R i))), none⟩) := by kernel_rfl) (ho : (ung R i && (MS (Al R i) && ldK P (ldT (Al R i)) C (pO (fev f (ldX (Al R i)))))) = true := by kernel_rfl) (hr : rdy R z i l = true := by kernel_rfl)
  (hfu : Nat.beq fu ((fu - 1) + 1) = true := by kernel_rfl) : DWP P n R PQ Post z Sw fu l f w := by
 simp only [Bool.and_eq_true] at ho
 refine DWP.tk i (fun w' hw => ?_) k ho.1 hr hfu
 have := EC ho.2.1
 rw [this]; exact Nl hx (hp w' hw) ho.2.2
theorem Dx (i j : Nat) {fu : Nat} {b o kk : Nat} {C : Array Value} {E : TypeId} {fz : Nat × Nat} {cs : List Value} (hp : ∀ w', Sw (l.toArray.getD z true) w' -> w'.heap[b]? = some (.cells C E fz)) (hc : As C o kk = cs) (k : DWP P n R PQ Post z Sw (fu - 1) (l.set i true) (AX f (Be R i) (lxV P (ldT (Al R i)) cs j)) w)
  (hx : fev f (ldX (Al R i)) = .pointer (some ⟨b, o + j, none⟩) := by kernel_rfl) (ho : (ung R i && (MS (Al R i) && lxK P (ldT (Al R i)) cs j kk)) = true := by kernel_rfl) (hr : rdy R z i l = true := by kernel_rfl)
  (hfu : Nat.beq fu ((fu - 1) + 1) = true := by kernel_rfl) : DWP P n R PQ Post z Sw fu l f w := by
 simp only [Bool.and_eq_true] at ho
 refine DWP.tk i (fun w' hw => ?_) k ho.1 hr hfu
 have := EC ho.2.1
 rw [this]; exact Ni hx (hp w' hw) hc ho.2.2
theorem Di (i : Nat) {fu m : Nat} {q : Int} (hi : 0 <= q /\ q < (m : Int)) (k : DWP P n R PQ Post z Sw (fu - 1) (l.set i true) (AX f (Be R i) (.pointer (some ⟨sB (fev f (ixX (Al R i))), sO (fev f (ixX (Al R i))) + q.toNat * elS P (ixT (Al R i)), none⟩))) w)
  (hx : fev f (ixX (Al R i)) = .slice (some ⟨sB (fev f (ixX (Al R i))), sO (fev f (ixX (Al R i))), none⟩) m (sC (fev f (ixX (Al R i)))) := by kernel_rfl) (hy : fev f (ixY (Al R i)) = .int (iK (fev f (ixY (Al R i)))) q := by kernel_rfl)
  (ho : (ung R i && (ND (Al R i) && slQ P (ixT (Al R i)))) = true := by kernel_rfl) (hr : rdy R z i l = true := by kernel_rfl) (hfu : Nat.beq fu ((fu - 1) + 1) = true := by kernel_rfl) : DWP P n R PQ Post z Sw fu l f w := by
 simp only [Bool.and_eq_true] at ho
 refine DWP.tk i (fun w' hw => ?_) k ho.1 hr hfu
 have e := Fz ho.2.1
 have := Pc (P := P) (w := w') (ty := FC R i) hi hx hy ho.2.2
 rw [<- e] at this; exact this
theorem Dj (i : Nat) {fu m : Nat} {q : Int} (hi : 0 <= q /\ q < (m : Int)) (k : DWP P n R PQ Post z Sw (fu - 1) (l.set i true) (AX f (Be R i) (.pointer (some ⟨sB (fev f (ixX (Al R i))), q.toNat * elS P (ixT (Al R i)), none⟩))) w)
  (hx : fev f (ixX (Al R i)) = .slice (some ⟨sB (fev f (ixX (Al R i))), 0, none⟩) m (sC (fev f (ixX (Al R i)))) := by kernel_rfl) (hy : fev f (ixY (Al R i)) = .int (iK (fev f (ixY (Al R i)))) q := by kernel_rfl)
  (ho : (ung R i && (ND (Al R i) && slQ P (ixT (Al R i)))) = true := by kernel_rfl) (hr : rdy R z i l = true := by kernel_rfl) (hfu : Nat.beq fu ((fu - 1) + 1) = true := by kernel_rfl) : DWP P n R PQ Post z Sw fu l f w := by
 simp only [Bool.and_eq_true] at ho
 refine DWP.tk i (fun w' hw => ?_) k ho.1 hr hfu
 have e := Fz ho.2.1
 have := P5 (P := P) (w := w') (ty := FC R i) hi hx hy ho.2.2
 rw [<- e] at this; exact this
theorem D1 (i : Nat) {fu : Nat} (h : Az P n R PQ Post z Sw (fu - 1) l i f w) (hr : Region.ready .any R l.toArray = [i] := by kernel_rfl) (hfu : Nat.beq fu ((fu - 1) + 1) = true := by kernel_rfl) : DWP P n R PQ Post z Sw fu l f w := by
 have := Nat.eq_of_beq_eq_true hfu; rw [this]
 exact Sj hr h
theorem zdT {zd : Bool} {A : Prop} (h : zd = true) : zd = false -> A := fun e => by rw [h] at e; cases e
theorem DCl {fid : FuncId} {args : List Value} {post : Mem -> Value -> Prop} (hok : An P fid) (hs : HS w0 F0 w F L) (hc : Calls P fid args.toArray w (AU w F post))
  (k : ∀ v F1 w1, HS w0 F0 w1 F1 L -> R5 F F1 -> post F1 v -> DWP P n R PQ Post z (DZ Fs Lc Lz) fuel (l.set i true) (AX f (Be R i) v) w1) (ha : clV f (Al R i) = some (fid, args) := by kernel_rfl) (ho : ung R i = true := by kernel_rfl)
  (hz : ((l.set i true).toArray.getD z true == l.toArray.getD z true) = true := by kernel_rfl) : Az P n R PQ Post z (DZ Fs Lc Lz) fuel l i f w := by
 cases e : Al R i with
 | call c =>
  obtain ⟨callee, aos, ats⟩ := c
  have ho' := Bp ho
  rw [e] at ha ho'
  unfold clV at ha
  simp only at ha
  split at ha
  ·split at ha
   ·rename_i hf
    simp only [Option.some.injEq, Prod.mk.injEq] at ha
    obtain ⟨rfl, rfl⟩ := ha
    exact Az.call rfl (by simpa using hz) rfl ho' rfl hf hok rfl hs hc k
   ·cases ha
  ·cases ha
 | _ => rw [e] at ha; simp [clV] at ha
theorem DBs (E : TypeId) (cs : List Value) (hs : HS w0 F0 w F L) (hle : R5 Fs F) (k : ∀ b w', HS w0 F0 w' F ((some b, .cells cs.toArray E (0, 0)) :: L) -> DWP P n R PQ Post z (DZ Fs Lc Lz) fuel (l.set i true) (AX f (Be R i) (.slice (some ⟨b, 0, none⟩) (bsL (Al R i)) (bsL (Al R i)))) w')
  (hb : bsV P f (Al R i) = some (E, cs) := by kernel_rfl) (ho : ung R i = true := by kernel_rfl) (hL : ∀ p, p ∈ Lc -> p ∈ L := by simp) (hLz : (l.set i true).toArray.getD z true = false -> ∀ p, p ∈ Lz -> p ∈ L := by first | (intro _; simp; done) | exact zdT (by kernel_rfl)) : Az P n R PQ Post z (DZ Fs Lc Lz) fuel l i f w := by
 have := Bp ho
 cases e : Al R i with
 | buildSlice t len parts =>
  rw [e] at hb this k
  exact Az.buildSlice rfl rfl this rfl rfl hb hs hle hL hLz k
 | _ => rw [e] at hb; simp [bsV] at hb
theorem DCP {fid : FuncId} {args : List Value} {wb : World} {Fb : Mem} {α β : Type} {Lf : Own} {res : β ⊕ α} {bv : β -> Value} {post : α -> Mem -> Value -> Own -> Prop} (hok : An P fid) (hc : Calls P fid args.toArray w (BH wb Fb F Lf res bv post))
  (k : ∀ r v F1 w1 L', res = .inr r -> HS wb Fb w1 F1 L' -> R5 F F1 -> post r F1 v L' -> DZ Fs Lc Lz ((l.set i true).toArray.getD z true) w1 /\ DWP P n R PQ Post z (DZ Fs Lc Lz) fuel (l.set i true) (AX f (Be R i) v) w1)
  (kp : ∀ b F1 w1, res = .inl b -> HS wb Fb w1 F1 Lf -> R5 F F1 -> PQ [{ v := bv b, recovered := false }] f.d w1) (ha : clV f (Al R i) = some (fid, args) := by kernel_rfl) (ho : ung R i = true := by kernel_rfl) : Az P n R PQ Post z (DZ Fs Lc Lz) fuel l i f w := by
 cases e : Al R i with
 | call c =>
  obtain ⟨callee, aos, ats⟩ := c
  have ho' := Bp ho
  rw [e] at ha ho'
  unfold clV at ha
  simp only at ha
  split at ha
  ·split at ha
   ·rename_i hf
    simp only [Option.some.injEq, Prod.mk.injEq] at ha
    obtain ⟨rfl, rfl⟩ := ha
    exact Az.callBP rfl rfl ho' rfl hf hok rfl hc k kp
   ·cases ha
  ·cases ha
 | _ => rw [e] at ha; simp [clV] at ha
def fls : Nat -> List Bool
 | 0 => []
 | n + 1 => false :: fls n
variable {c : Code}
def Qk (R : Array Oper) : Bool := R.all fun o => !H5 o.op
def QL (P : Program) (n m : Nat) (c : Code) : Bool := Nat.beq (kin c) 2 && (okR n (D7 c) && (Region.noSelect (D7 c) && (Qk (D7 c) && Nat.beq (D7 c).size m)))
theorem QW : ∀ n, Array.replicate n false = (fls n).toArray := fun n => by
 have : List.replicate n false = fls n := by induction n with
  | zero => rfl
  | succ n ih => rw [List.replicate_succ, ih]; rfl
 rw [<- this]; simp
theorem Qg {R : Array Oper} (hd : Qk R = true) (ro : Option Nat) {Q : Exit -> Act -> World -> Prop} {i : Nat} {K K' : Act -> World -> Prop} (hK : ∀ a w, K a w -> K' a w) {a : Act} {w : World} (h : wpOpIn (FW none) 0 P R Q i K a w) : wpOpIn (FW ro) 0 P R Q i K' a w := by
 have h := wpOpIn_mono hK h
 unfold wpOpIn at h ⊢
 cases ho : R[i]? with
 | none => simp only [ho] at h ⊢; exact h
 | some o =>
  simp only [ho] at h ⊢
  split
  ·rename_i hw
   simp only [hw, if_true] at h
   have hi : i < R.size := by
    rcases Nat.lt_or_ge i R.size with h' | h'
    ·exact h'
    ·simp [Array.getElem?_eq_none h'] at ho
   have hnd : H5 o.op = false := by
    unfold Qk at hd
    rw [Array.all_eq_true] at hd
    have := hd i hi
    have e : R[i] = o := by simpa [Array.getElem?_eq_getElem hi] using ho
    rw [e] at this; simpa using this
   unfold Oper.wpIn at h ⊢
   refine ⟨fun _ _ => trivial, ?_⟩
   have e : ∀ r, Oper.semAt r a.eval o = execOp a.eval o := fun r => Fl hnd r a.eval o rfl
   have h2 := h.2
   rw [e] at h2 ⊢
   exact h2
  ·rename_i hw
   simp only [hw, if_false] at h
   exact ⟨fun _ _ => trivial, h.2⟩
theorem PM {R : Array Oper} (hd : Qk R = true) (ro : Option Nat) {Q : Exit -> Act -> World -> Prop} : ∀ (fuel : Nat) (l : Array Bool) (a : Act) (w : World), wpAnyIn (FW none) 0 P .any R Q fuel l a w -> wpAnyIn (FW ro) 0 P .any R Q fuel l a w
 | 0, _, _, _, h => h
 | fuel + 1, _, _, _, h => ⟨h.1, fun i hi => Qg hd ro (fun a w => PM hd ro fuel _ a w) (h.2 i hi)⟩
variable {ro : Option Nat}
theorem RDP (z m : Nat) (Lc Lz : List (Option Nat × Obj)) (hs : HS w0 F0 w F L) (PQ : List PanicEntry -> List Deferred -> World -> Prop) (Post : Fr -> World -> Prop)
  (h : ∀ w', HS w0 F0 w' F L -> DWP P n (D7 c) PQ Post z (DZ F Lc Lz) m (fls m) f w') (k : ∀ f w, Post f w -> Q .normal f w) (kp : ∀ c f w, PQ c f.d w -> Q (.panic c) f w) (hm : P.follows .mixedOrders = true := by kernel_rfl) (ho : QL P n m c = true := by kernel_rfl) (hc : ∀ p, p ∈ Lc -> p ∈ L := by simp) (hz : ∀ p, p ∈ Lz -> p ∈ L := by simp) : CWP P ro n c Q f w := by
 simp only [QL, Bool.and_eq_true] at ho
 obtain ⟨hk, hok, hns, hnd, hfu⟩ := ho
 replace hk := Nat.eq_of_beq_eq_true hk
 replace hfu := Nat.eq_of_beq_eq_true hfu
 subst hfu
 cases c <;> simp [kin] at hk
 rename_i id ops d
 cases d <;> simp [kin] at hk
 intro a ha
 have hs' : HS w0 F0 { w with drawn := w.drawn + 1 } F L := hs.heap rfl
 refine wpIn_mono (wpIn_region_any hm (PM hnd ro _ _ _ _ (Hy (z := z) (S := DZ F Lc Lz) _ _ _ _ ?_))) (Q := lq n (nq PQ Post)) ?_
 ·simp only [D7] at *
  rw [QW]
  exact h _ hs' hok hns (BF hs' (R6 F) hc fun _ => hz) a ha
 ·rintro e a w ⟨f, hf, hP⟩
  cases e with
  | normal => exact ⟨f, hf, k _ _ hP⟩
  | panic c => exact ⟨f, hf, kp _ _ _ hP⟩
  | _ => exact hP.elim
theorem RD (z m : Nat) (Lc Lz : List (Option Nat × Obj)) (hs : HS w0 F0 w F L) (Post : Fr -> World -> Prop)
  (h : ∀ w', HS w0 F0 w' F L -> DWP P n (D7 c) (fun _ _ _ => False) Post z (DZ F Lc Lz) m (fls m) f w') (k : ∀ f w, Post f w -> Q .normal f w) (hm : P.follows .mixedOrders = true := by kernel_rfl) (ho : QL P n m c = true := by kernel_rfl) (hc : ∀ p, p ∈ Lc -> p ∈ L := by simp) (hz : ∀ p, p ∈ Lz -> p ∈ L := by simp) : CWP P ro n c Q f w :=
 RDP z m Lc Lz hs (fun _ _ _ => False) Post h k (fun _ _ _ h => h.elim) hm ho hc hz
variable {α : Type} {T : Ty α} {E : TypeId} {a : Sy} {cap : Nat} {ls m : List α}
theorem RU {e0 e1 : Option Nat × Obj} {b : Nat} {C : Array Value} {E : TypeId} (C' : Array Value) (hs : HS w0 F0 w F (e0 :: e1 :: (some b, .cells C E (0, 0)) :: L)) (hle : R5 Fs F) (k : ∀ w', HS w0 F0 w' F (e0 :: e1 :: (some b, .cells C' E (0, 0)) :: L) -> DWP P n R PQ Post z (DZ Fs Lc Lz) fuel (l.set i true) f w')
  (hx : fev f (stX (Al R i)) = .pointer (some ⟨b, pO (fev f (stX (Al R i))), none⟩) := by kernel_rfl) (hC : Dr C (pO (fev f (stX (Al R i)))) (fev f (stY (Al R i))).cells.toList = C' := by kernel_rfl)
  (ho : (ung R i && (I6 (Al R i) && (DL P (stT (Al R i)) (fev f (stY (Al R i))) (pO (fev f (stX (Al R i)))) C && (match Be R i with | none => true | some _ => false)))) = true := by kernel_rfl)
  (hL : ∀ p, p ∈ Lc -> p ∈ e0 :: e1 :: (some b, .cells C' E (0, 0)) :: L := by simp) (hLz : (l.set i true).toArray.getD z true = false -> ∀ p, p ∈ Lz -> p ∈ e0 :: e1 :: (some b, .cells C' E (0, 0)) :: L := by first | (intro _; simp; done) | exact zdT (by kernel_rfl)) : Az P n R PQ Post z (DZ Fs Lc Lz) fuel l i f w := by
 simp only [Bool.and_eq_true] at ho
 obtain ⟨h1, h2, h3, h4⟩ := ho
 have e := Fy h2
 have := Bp h1
 cases hd : Be R i with
 | some d => rw [hd] at h4; cases h4
 | none =>
  rw [hd] at this
  have hp := hs.put (k := 2) rfl (.cells C' E (0, 0))
  refine Sl rfl rfl this rfl ?_ (BF hp hle hL hLz) (k _ hp)
  have hr := J9 (P := P) (ty := FC R i) (w := w) hx (hs.ownAt (k := 2) rfl) h3 hC
  rw [<- e] at hr; exact hr
theorem RW {e0 e1 : Option Nat × Obj} {a2 : Sy} (h1 : T.One) (hs : HS w0 F0 w F (e0 :: e1 :: e :: L)) (hr : Au T E F a cap ls e) (hm : Rd T F w a2 m) {r : List α} (hap : EQ ls m = some r) (hle : R5 Fs F)
  (k : ∀ a' cap' e' w', HS w0 F0 w' F (e0 :: e1 :: e' :: L) -> Au T E F a' cap' r e' -> DWP P n R PQ Post z (DZ Fs Lc Lz) fuel (l.set i true) (AX f (Be R i) (.slice a' r.length cap')) w')
  (hx : fev f (apX (Al R i)) = .slice a ls.length cap := by kernel_rfl) (hy : fev f (apY (Al R i)) = .slice a2 m.length (sC (fev f (apY (Al R i)))) := by kernel_rfl) (ho : (ung R i && apK P E T.sz (Al R i)) = true := by kernel_rfl)
  (hL : ∀ e' p, p ∈ Lc -> p ∈ e0 :: e1 :: e' :: L := by (intro _; simp)) (hLz : (l.set i true).toArray.getD z true = false -> ∀ e' p, p ∈ Lz -> p ∈ e0 :: e1 :: e' :: L := by first | (intro _ _; simp; done) | exact zdT (by kernel_rfl)) : Az P n R PQ Post z (DZ Fs Lc Lz) fuel l i f w := by
 simp only [Bool.and_eq_true] at ho
 obtain ⟨t, t2, by_, zz, e1, he, hb, hni, hz, hzs⟩ := GW ho.2
 have := Bp ho.1
 rw [e1] at this
 exact Az.append rfl rfl this rfl hx hy he hb hni hz hzs h1 hs (k := 2) rfl hr hm hap hle hL hLz k
theorem Q6 {e0 e1 e2 : Option Nat × Obj} {b : Nat} {C : Array Value} {E : TypeId} (C' : Array Value) (hs : HS w0 F0 w F (e0 :: e1 :: e2 :: (some b, .cells C E (0, 0)) :: L)) (hle : R5 Fs F) (k : ∀ w', HS w0 F0 w' F (e0 :: e1 :: e2 :: (some b, .cells C' E (0, 0)) :: L) -> DWP P n R PQ Post z (DZ Fs Lc Lz) fuel (l.set i true) f w')
  (hx : fev f (stX (Al R i)) = .pointer (some ⟨b, pO (fev f (stX (Al R i))), none⟩) := by kernel_rfl) (hC : Dr C (pO (fev f (stX (Al R i)))) (fev f (stY (Al R i))).cells.toList = C' := by kernel_rfl)
  (ho : (ung R i && (I6 (Al R i) && (DL P (stT (Al R i)) (fev f (stY (Al R i))) (pO (fev f (stX (Al R i)))) C && (match Be R i with | none => true | some _ => false)))) = true := by kernel_rfl)
  (hL : ∀ p, p ∈ Lc -> p ∈ e0 :: e1 :: e2 :: (some b, .cells C' E (0, 0)) :: L := by simp) (hLz : (l.set i true).toArray.getD z true = false -> ∀ p, p ∈ Lz -> p ∈ e0 :: e1 :: e2 :: (some b, .cells C' E (0, 0)) :: L := by first | (intro _; simp; done) | exact zdT (by kernel_rfl)) : Az P n R PQ Post z (DZ Fs Lc Lz) fuel l i f w := by
 simp only [Bool.and_eq_true] at ho
 obtain ⟨h1, h2, h3, h4⟩ := ho
 have e := Fy h2
 have := Bp h1
 cases hd : Be R i with
 | some d => rw [hd] at h4; cases h4
 | none =>
  rw [hd] at this
  have hp := hs.put (k := 3) rfl (.cells C' E (0, 0))
  refine Sl rfl rfl this rfl ?_ (BF hp hle hL hLz) (k _ hp)
  have hr := J9 (P := P) (ty := FC R i) (w := w) hx (hs.ownAt (k := 3) rfl) h3 hC
  rw [<- e] at hr; exact hr
theorem RT {e0 e1 e2 e3 : Option Nat × Obj} {b : Nat} {C : Array Value} {E : TypeId} (C' : Array Value) (hs : HS w0 F0 w F (e0 :: e1 :: e2 :: e3 :: (some b, .cells C E (0, 0)) :: L)) (hle : R5 Fs F) (k : ∀ w', HS w0 F0 w' F (e0 :: e1 :: e2 :: e3 :: (some b, .cells C' E (0, 0)) :: L) -> DWP P n R PQ Post z (DZ Fs Lc Lz) fuel (l.set i true) f w')
  (hx : fev f (stX (Al R i)) = .pointer (some ⟨b, pO (fev f (stX (Al R i))), none⟩) := by kernel_rfl) (hC : Dr C (pO (fev f (stX (Al R i)))) (fev f (stY (Al R i))).cells.toList = C' := by kernel_rfl)
  (ho : (ung R i && (I6 (Al R i) && (DL P (stT (Al R i)) (fev f (stY (Al R i))) (pO (fev f (stX (Al R i)))) C && (match Be R i with | none => true | some _ => false)))) = true := by kernel_rfl)
  (hL : ∀ p, p ∈ Lc -> p ∈ e0 :: e1 :: e2 :: e3 :: (some b, .cells C' E (0, 0)) :: L := by simp) (hLz : (l.set i true).toArray.getD z true = false -> ∀ p, p ∈ Lz -> p ∈ e0 :: e1 :: e2 :: e3 :: (some b, .cells C' E (0, 0)) :: L := by first | (intro _; simp; done) | exact zdT (by kernel_rfl)) : Az P n R PQ Post z (DZ Fs Lc Lz) fuel l i f w := by
 simp only [Bool.and_eq_true] at ho
 obtain ⟨h1, h2, h3, h4⟩ := ho
 have e := Fy h2
 have := Bp h1
 cases hd : Be R i with
 | some d => rw [hd] at h4; cases h4
 | none =>
  rw [hd] at this
  have hp := hs.put (k := 4) rfl (.cells C' E (0, 0))
  refine Sl rfl rfl this rfl ?_ (BF hp hle hL hLz) (k _ hp)
  have hr := J9 (P := P) (ty := FC R i) (w := w) hx (hs.ownAt (k := 4) rfl) h3 hC
  rw [<- e] at hr; exact hr
theorem Qv {e0 e1 e2 e3 e4 : Option Nat × Obj} {b : Nat} {C : Array Value} {E : TypeId} (C' : Array Value) (hs : HS w0 F0 w F (e0 :: e1 :: e2 :: e3 :: e4 :: (some b, .cells C E (0, 0)) :: L)) (hle : R5 Fs F) (k : ∀ w', HS w0 F0 w' F (e0 :: e1 :: e2 :: e3 :: e4 :: (some b, .cells C' E (0, 0)) :: L) -> DWP P n R PQ Post z (DZ Fs Lc Lz) fuel (l.set i true) f w')
  (hx : fev f (stX (Al R i)) = .pointer (some ⟨b, pO (fev f (stX (Al R i))), none⟩) := by kernel_rfl) (hC : Dr C (pO (fev f (stX (Al R i)))) (fev f (stY (Al R i))).cells.toList = C' := by kernel_rfl)
  (ho : (ung R i && (I6 (Al R i) && (DL P (stT (Al R i)) (fev f (stY (Al R i))) (pO (fev f (stX (Al R i)))) C && (match Be R i with | none => true | some _ => false)))) = true := by kernel_rfl)
  (hL : ∀ p, p ∈ Lc -> p ∈ e0 :: e1 :: e2 :: e3 :: e4 :: (some b, .cells C' E (0, 0)) :: L := by simp) (hLz : (l.set i true).toArray.getD z true = false -> ∀ p, p ∈ Lz -> p ∈ e0 :: e1 :: e2 :: e3 :: e4 :: (some b, .cells C' E (0, 0)) :: L := by first | (intro _; simp; done) | exact zdT (by kernel_rfl)) : Az P n R PQ Post z (DZ Fs Lc Lz) fuel l i f w := by
 simp only [Bool.and_eq_true] at ho
 obtain ⟨h1, h2, h3, h4⟩ := ho
 have e := Fy h2
 have := Bp h1
 cases hd : Be R i with
 | some d => rw [hd] at h4; cases h4
 | none =>
  rw [hd] at this
  have hp := hs.put (k := 5) rfl (.cells C' E (0, 0))
  refine Sl rfl rfl this rfl ?_ (BF hp hle hL hLz) (k _ hp)
  have hr := J9 (P := P) (ty := FC R i) (w := w) hx (hs.ownAt (k := 5) rfl) h3 hC
  rw [<- e] at hr; exact hr
theorem RV {e0 e1 e2 e3 e4 : Option Nat × Obj} {a2 : Sy} (h1 : T.One) (hs : HS w0 F0 w F (e0 :: e1 :: e2 :: e3 :: e4 :: e :: L)) (hr : Au T E F a cap ls e) (hm : Rd T F w a2 m) {r : List α} (hap : EQ ls m = some r) (hle : R5 Fs F)
  (k : ∀ a' cap' e' w', HS w0 F0 w' F (e0 :: e1 :: e2 :: e3 :: e4 :: e' :: L) -> Au T E F a' cap' r e' -> DWP P n R PQ Post z (DZ Fs Lc Lz) fuel (l.set i true) (AX f (Be R i) (.slice a' r.length cap')) w')
  (hx : fev f (apX (Al R i)) = .slice a ls.length cap := by kernel_rfl) (hy : fev f (apY (Al R i)) = .slice a2 m.length (sC (fev f (apY (Al R i)))) := by kernel_rfl) (ho : (ung R i && apK P E T.sz (Al R i)) = true := by kernel_rfl)
  (hL : ∀ e' p, p ∈ Lc -> p ∈ e0 :: e1 :: e2 :: e3 :: e4 :: e' :: L := by (intro _; simp)) (hLz : (l.set i true).toArray.getD z true = false -> ∀ e' p, p ∈ Lz -> p ∈ e0 :: e1 :: e2 :: e3 :: e4 :: e' :: L := by first | (intro _ _; simp; done) | exact zdT (by kernel_rfl)) : Az P n R PQ Post z (DZ Fs Lc Lz) fuel l i f w := by
 simp only [Bool.and_eq_true] at ho
 obtain ⟨t, t2, by_, zz, e1, he, hb, hni, hz, hzs⟩ := GW ho.2
 have := Bp ho.1
 rw [e1] at this
 exact Az.append rfl rfl this rfl hx hy he hb hni hz hzs h1 hs (k := 5) rfl hr hm hap hle hL hLz k
theorem RF {e0 e1 e2 e3 e4 e5 e6 : Option Nat × Obj} {a2 : Sy} (h1 : T.One) (hs : HS w0 F0 w F (e0 :: e1 :: e2 :: e3 :: e4 :: e5 :: e6 :: e :: L)) (hr : Au T E F a cap ls e) (hm : Rd T F w a2 m) {r : List α} (hap : EQ ls m = some r) (hle : R5 Fs F)
  (k : ∀ a' cap' e' w', HS w0 F0 w' F (e0 :: e1 :: e2 :: e3 :: e4 :: e5 :: e6 :: e' :: L) -> Au T E F a' cap' r e' -> DWP P n R PQ Post z (DZ Fs Lc Lz) fuel (l.set i true) (AX f (Be R i) (.slice a' r.length cap')) w')
  (hx : fev f (apX (Al R i)) = .slice a ls.length cap := by kernel_rfl) (hy : fev f (apY (Al R i)) = .slice a2 m.length (sC (fev f (apY (Al R i)))) := by kernel_rfl) (ho : (ung R i && apK P E T.sz (Al R i)) = true := by kernel_rfl)
  (hL : ∀ e' p, p ∈ Lc -> p ∈ e0 :: e1 :: e2 :: e3 :: e4 :: e5 :: e6 :: e' :: L := by (intro _; simp)) (hLz : (l.set i true).toArray.getD z true = false -> ∀ e' p, p ∈ Lz -> p ∈ e0 :: e1 :: e2 :: e3 :: e4 :: e5 :: e6 :: e' :: L := by first | (intro _ _; simp; done) | exact zdT (by kernel_rfl)) : Az P n R PQ Post z (DZ Fs Lc Lz) fuel l i f w := by
 simp only [Bool.and_eq_true] at ho
 obtain ⟨t, t2, by_, zz, e1, he, hb, hni, hz, hzs⟩ := GW ho.2
 have := Bp ho.1
 rw [e1] at this
 exact Az.append rfl rfl this rfl hx hy he hb hni hz hzs h1 hs (k := 7) rfl hr hm hap hle hL hLz k
end
theorem YP.mono {P : Program} {l : Nat} {args : List Value} {w : World} {S S' : Ending -> World -> Prop} (h : YP P l args w S) (hi : ∀ e w', S e w' -> S' e w') : YP P l args w S' :=
 let ⟨fn, t, a, b, h1, h2⟩ := h; ⟨fn, t, a, b, h1, h2.mono hi⟩
section
variable {P : Program} {n : Nat} {R : Array Oper} {Q : Exit -> Fr -> World -> Prop} {w w0 : World} {F0 F : Mem} {L : Own} {f : Fr} {i : Nat} {rest : List Nat} {dst : Option Nat} {ty : TypeId} {g : Option (Nat × Bool)} {ρ : Operand -> Value}
end
structure Expr where
 Op : Int
 Value : Int
 Kids : (List Expr)
structure Clause where
 When : Expr
 Then : Expr
structure Du where
 Points : (List Clause)
 Multipliers : (List Clause)
 Penalties : (List Clause)
 Repeats : (List Expr)
structure Qt where
 Lo : Int
 Hi : Int
 deriving DecidableEq
structure N8 where
 I : Int
 K : Int
 deriving DecidableEq
structure Aq where
 kind_ : Int
 at_ : Int
 text_ : Sx
 deriving DecidableEq
structure Ab where
 l_ : (List Aq)
 open_ : Int
 deriving DecidableEq
structure HV where
 Kind : Int
 At : Int
 Text : Sx
 deriving DecidableEq
structure Nu where
 L : (List HV)
 At : Int
 Open : Int
 Bad : Int
 Where : Int
 deriving DecidableEq
structure Bo where
 Expr : Expr
 at_ : Int
structure Key where
 Clause : Int
 Value : Int
 deriving DecidableEq
structure Aj where
 e_ : Int
 at_ : Int
 deriving DecidableEq
structure B2 where
 text_ : Sx
 rank_ : Int
 left_ : Int
 right_ : Int
 deriving DecidableEq
structure BM where
 most_ : Int
 own_ : Int
 kids_ : (List Int)
 deriving DecidableEq
structure RX where
 word_ : Sx
 l_ : (List Clause)
inductive Iu (F : Mem) : List Value -> Expr -> Prop
 | leaf (op value : Int) (a : Sy) (c : Nat) (hc : LC 0 c) : Iu F [.int .i64 op, .int .i64 value, .slice a 0 c] ⟨op, value, []⟩
 | node (op value : Int) (b ob : Nat) (C : Array Value) (E : Nat) (fz : Nat × Nat) (c : Nat) (k : List Expr) (hc : LC k.length c) (hF : F b = some (.cells C E fz))
   (hk : ∀ i x, k[i]? = some x -> Iu F (As C (ob + i * 3) 3) x) : Iu F [.int .i64 op, .int .i64 value, .slice (some ⟨b, ob, none⟩) k.length c] ⟨op, value, k⟩
theorem Iu.len {F : Mem} {cs : List Value} {x : Expr} (h : Iu F cs x) : cs.length = 3 := by cases h <;> rfl
theorem Iu.mono {F F' : Mem} (hl : R5 F F') {cs : List Value} {x : Expr} (h : Iu F cs x) : Iu F' cs x := by
 induction h with
 | leaf op value a c hc => exact .leaf op value a c hc
 | node op value b ob C E fz c k hc hF hk ih => exact .node op value b ob C E fz c k hc (hl _ _ hF) ih
def Ao : Ty Expr := ⟨3, true, Iu, fun h => h.len, fun hl h => h.mono hl, rfl⟩
theorem AR {F : Mem} {cs : List Value} {x : Expr} (h : Ao.R F cs x) : ∃ (a : Sy) (c : Nat), cs = [.int .i64 x.Op, .int .i64 x.Value, .slice a x.Kids.length c] /\ LC x.Kids.length c /\ SlA Ao F a x.Kids := by
 cases h with
 | leaf op value a c hc => exact ⟨a, c, rfl, hc, .inl rfl⟩
 | node op value b ob C E fz c k hc hF hk => exact ⟨_, c, rfl, hc, .inr ⟨b, ob, C, E, fz, rfl, hF, hk⟩⟩
theorem A6 {F : Mem} {cs : List Value} {x : Expr} (h : ∃ (a : Sy) (c : Nat), cs = [.int .i64 x.Op, .int .i64 x.Value, .slice a x.Kids.length c] /\ LC x.Kids.length c /\ SlA Ao F a x.Kids) : Ao.R F cs x := by
 obtain ⟨a, c, rfl, hc, hs⟩ := h
 obtain ⟨op, value, k⟩ := x
 rcases hs with rfl | ⟨b, o, C, E, fz, rfl, hF, hx⟩
 ·exact .leaf op value a c hc
 ·exact .node op value b o C E fz c k hc hF hx
theorem Pj : Ao.One := fun h => by obtain ⟨a, c, rfl, _⟩ := AR h; rfl
def AB : Ty Clause := ⟨6, true, fun F cs x => ∃ (a_2 : Sy) (n_2 : Nat) (a_5 : Sy) (n_5 : Nat), cs = [(.int .i64 x.When.Op), (.int .i64 x.When.Value), (.slice a_2 x.When.Kids.length n_2), (.int .i64 x.Then.Op), (.int .i64 x.Then.Value), (.slice a_5 x.Then.Kids.length n_5)] /\ LC x.When.Kids.length n_2 /\ SlA Ao F a_2 x.When.Kids /\ LC x.Then.Kids.length n_5 /\ SlA Ao F a_5 x.Then.Kids,
 fun h => by obtain ⟨a_2, n_2, a_5, n_5, rfl, _, _, _, _⟩ := h; rfl,
 fun hl h => by obtain ⟨a_2, n_2, a_5, n_5, hc, hb_2, hs_2, hb_5, hs_5⟩ := h; exact ⟨a_2, n_2, a_5, n_5, hc, hb_2, hs_2.mono hl, hb_5, hs_5.mono hl⟩, rfl⟩
theorem Oa : AB.One := fun h => by first | (subst h; rfl) | (obtain ⟨a_2, n_2, a_5, n_5, rfl, _, _, _, _⟩ := h; rfl)
def Ag : Ty Aq := ⟨3, true, fun _ cs x => cs = [(.int .i64 x.kind_), (.int .i64 x.at_), (.string ⟨(x.text_).toArray⟩)],
 fun h => by subst h; rfl,
 fun _ h => h, rfl⟩
theorem LY : Ag.One := fun h => by first | (subst h; rfl) | (obtain rfl := h; rfl)
def M7 (F : Mem) (gq : FuncId) (fq kq : List Value) (q : Int -> Option Bool) : Prop := ∀ (w' : World) (F' : Mem) (y0 : Int) (r : Bool), R5 F F' -> (∀ b o, F' b = some o -> w'.heap[b]? = some o) -> q y0 = some r -> Calls Tryz.prog gq ((fq : List Value) ++ (([(.int .i64 y0)] : List Value) ++ kq)).toArray w' (AU w' F' fun F'' v => v = (.bool r))
theorem M7.mono {F F1 : Mem} {gq : FuncId} {fq kq : List Value} {q : Int -> Option Bool} (h : M7 F gq fq kq q) (hl : R5 F F1) : M7 F1 gq fq kq q := fun w1 F2 y0 r le1 pe1 hr1 => h w1 F2 y0 r (hl.trans le1) pe1 hr1
def Oo (F : Mem) (gq : FuncId) (fq kq : List Value) (q : Clause -> Option Bool) : Prop := ∀ (w' : World) (F' : Mem) (y0 : Clause) (ay0_2 : Sy) (ny0_2 : Nat) (hby0_2 : LC y0.When.Kids.length ny0_2) (hsy0_2 : SlA Ao F' ay0_2 y0.When.Kids) (ay0_5 : Sy) (ny0_5 : Nat) (hby0_5 : LC y0.Then.Kids.length ny0_5) (hsy0_5 : SlA Ao F' ay0_5 y0.Then.Kids) (r : Bool), R5 F F' -> (∀ b o, F' b = some o -> w'.heap[b]? = some o) -> q y0 = some r -> Calls Tryz.prog gq ((fq : List Value) ++ (([(.agg #[(.int .i64 y0.When.Op), (.int .i64 y0.When.Value), (.slice ay0_2 y0.When.Kids.length ny0_2), (.int .i64 y0.Then.Op), (.int .i64 y0.Then.Value), (.slice ay0_5 y0.Then.Kids.length ny0_5)])] : List Value) ++ kq)).toArray w' (AU w' F' fun F'' v => v = (.bool r))
theorem Oo.mono {F F1 : Mem} {gq : FuncId} {fq kq : List Value} {q : Clause -> Option Bool} (h : Oo F gq fq kq q) (hl : R5 F F1) : Oo F1 gq fq kq q := fun w1 F2 y0 ay0_2 ny0_2 hby0_2 hsy0_2 ay0_5 ny0_5 hby0_5 hsy0_5 r le1 pe1 hr1 => h w1 F2 y0 ay0_2 ny0_2 hby0_2 hsy0_2 ay0_5 ny0_5 hby0_5 hsy0_5 r (hl.trans le1) pe1 hr1
def Qu (F : Mem) (gq : FuncId) (fq kq : List Value) (q : Expr -> Expr -> Option Bool) : Prop := ∀ (w' : World) (F' : Mem) (y0 : Expr) (ay0_2 : Sy) (ny0_2 : Nat) (hby0_2 : LC y0.Kids.length ny0_2) (hsy0_2 : SlA Ao F' ay0_2 y0.Kids) (y1 : Expr) (ay1_2 : Sy) (ny1_2 : Nat) (hby1_2 : LC y1.Kids.length ny1_2) (hsy1_2 : SlA Ao F' ay1_2 y1.Kids) (r : Bool), R5 F F' -> (∀ b o, F' b = some o -> w'.heap[b]? = some o) -> q y0 y1 = some r -> Calls Tryz.prog gq ((fq : List Value) ++ (([(.agg #[(.int .i64 y0.Op), (.int .i64 y0.Value), (.slice ay0_2 y0.Kids.length ny0_2)]), (.agg #[(.int .i64 y1.Op), (.int .i64 y1.Value), (.slice ay1_2 y1.Kids.length ny1_2)])] : List Value) ++ kq)).toArray w' (AU w' F' fun F'' v => v = (.bool r))
theorem Qu.mono {F F1 : Mem} {gq : FuncId} {fq kq : List Value} {q : Expr -> Expr -> Option Bool} (h : Qu F gq fq kq q) (hl : R5 F F1) : Qu F1 gq fq kq q := fun w1 F2 y0 ay0_2 ny0_2 hby0_2 hsy0_2 y1 ay1_2 ny1_2 hby1_2 hsy1_2 r le1 pe1 hr1 => h w1 F2 y0 ay0_2 ny0_2 hby0_2 hsy0_2 y1 ay1_2 ny1_2 hby1_2 hsy1_2 r (hl.trans le1) pe1 hr1
def On (F : Mem) (gq : FuncId) (fq kq : List Value) (q : Int -> Int -> Int -> Option Sx) : Prop := ∀ (w' : World) (F' : Mem) (y0 : Int) (y1 : Int) (y2 : Int) (r : Sx), R5 F F' -> (∀ b o, F' b = some o -> w'.heap[b]? = some o) -> q y0 y1 y2 = some r -> Calls Tryz.prog gq ((fq : List Value) ++ (([(.int .i64 y0), (.int .u8 y1), (.int .u8 y2)] : List Value) ++ kq)).toArray w' (AU w' F' fun F'' v => v = (.string ⟨(r).toArray⟩))
theorem On.mono {F F1 : Mem} {gq : FuncId} {fq kq : List Value} {q : Int -> Int -> Int -> Option Sx} (h : On F gq fq kq q) (hl : R5 F F1) : On F1 gq fq kq q := fun w1 F2 y0 y1 y2 r le1 pe1 hr1 => h w1 F2 y0 y1 y2 r (hl.trans le1) pe1 hr1
def PS (F : Mem) (gq : FuncId) (fq kq : List Value) (q : (List Int) -> Option Bool) : Prop := ∀ (w' : World) (F' : Mem) (y0 : (List Int)) (ay0_0 : Sy) (ny0_0 : Nat) (hby0_0 : LC y0.length ny0_0) (hsy0_0 : SlA Bu F' ay0_0 y0) (r : Bool), R5 F F' -> (∀ b o, F' b = some o -> w'.heap[b]? = some o) -> q y0 = some r -> Calls Tryz.prog gq ((fq : List Value) ++ (([(.slice ay0_0 y0.length ny0_0)] : List Value) ++ kq)).toArray w' (AU w' F' fun F'' v => v = (.bool r))
theorem PS.mono {F F1 : Mem} {gq : FuncId} {fq kq : List Value} {q : (List Int) -> Option Bool} (h : PS F gq fq kq q) (hl : R5 F F1) : PS F1 gq fq kq q := fun w1 F2 y0 ay0_0 ny0_0 hby0_0 hsy0_0 r le1 pe1 hr1 => h w1 F2 y0 ay0_0 ny0_0 hby0_0 hsy0_0 r (hl.trans le1) pe1 hr1
def Q5 (bp : Nat) (gq : FuncId) (fq kq : List Value) (q : Ab -> Option (Aj ⊕ (Ab × Expr))) : Prop := ∀ {wb w0 : World} {Fb F0 : Mem} {Lf : Own} (hG : CI F0) (y : Ab) (ay_0 : Sy) (ny_0 : Nat) (hby_0 : LC y.l_.length ny_0) (hsy_0 : SlA Ag F0 ay_0 y.l_) (hs0 : HS wb Fb w0 F0 ((some bp, (.cells #[(.slice ay_0 y.l_.length ny_0), (.int .i64 y.open_)] 100 (0, 0))) :: Lf)) (r : (Aj ⊕ (Ab × Expr))), q y = some r -> Calls Tryz.prog gq ((fq : List Value) ++ (([] : List Value) ++ kq)).toArray w0 (BH wb Fb F0 Lf r (fun b => (.iface 158 (.agg #[(.int .i64 b.e_), (.int .i64 b.at_)]))) fun a F' v L' => ∃ (aq0_0 : Sy) (nq0_0 : Nat) (aq1_2 : Sy) (nq1_2 : Nat), v = (.agg #[(.int .i64 a.2.Op), (.int .i64 a.2.Value), (.slice aq1_2 a.2.Kids.length nq1_2)]) /\ L' = (some bp, (.cells #[(.slice aq0_0 a.1.l_.length nq0_0), (.int .i64 a.1.open_)] 100 (0, 0))) :: Lf /\ LC a.1.l_.length nq0_0 /\ SlA Ag F' aq0_0 a.1.l_ /\ LC a.2.Kids.length nq1_2 /\ SlA Ao F' aq1_2 a.2.Kids)
abbrev Ae (x : Expr) (a2 : Sy) (n2 : Nat) : Array Value := #[.int .i64 x.Op, .int .i64 x.Value, .slice a2 x.Kids.length n2]
abbrev H3 (x : Clause) (a2 : Sy) (n2 : Nat) (a5 : Sy) (n5 : Nat) : Array Value := #[.int .i64 x.When.Op, .int .i64 x.When.Value, .slice a2 x.When.Kids.length n2, .int .i64 x.Then.Op, .int .i64 x.Then.Value, .slice a5 x.Then.Kids.length n5]
abbrev Bx (x : Du) (a0 : Sy) (n0 : Nat) (a1 : Sy) (n1 : Nat) (a2 : Sy) (n2 : Nat) (a3 : Sy) (n3 : Nat) : Array Value := #[.slice a0 x.Points.length n0, .slice a1 x.Multipliers.length n1, .slice a2 x.Penalties.length n2, .slice a3 x.Repeats.length n3]
abbrev Bc (x : Aq) : Array Value := #[.int .i64 x.kind_, .int .i64 x.at_, .string ⟨(x.text_).toArray⟩]
abbrev Ad (x : Ab) (a0 : Sy) (n0 : Nat) : Array Value := #[.slice a0 x.l_.length n0, .int .i64 x.open_]
abbrev Aw (x : Bo) (a2 : Sy) (n2 : Nat) : Array Value := #[.int .i64 x.Expr.Op, .int .i64 x.Expr.Value, .slice a2 x.Expr.Kids.length n2, .int .i64 x.at_]
abbrev AH (x : Aj) : Array Value := #[.int .i64 x.e_, .int .i64 x.at_]
abbrev E0 (x : B2) : Array Value := #[.string ⟨(x.text_).toArray⟩, .int .i64 x.rank_, .int .i64 x.left_, .int .i64 x.right_]
abbrev CS (x : BM) (a2 : Sy) (n2 : Nat) : Array Value := #[.int .i64 x.most_, .int .i64 x.own_, .slice a2 x.kids_.length n2]
abbrev Ok : (Expr × Sy × Nat) -> List Value := fun (y0, ay0_2, ny0_2) => [(.agg #[(.int .i64 y0.Op), (.int .i64 y0.Value), (.slice ay0_2 y0.Kids.length ny0_2)])]
abbrev Qi (F : Mem) : (Expr × Sy × Nat) -> Prop := fun (y0, ay0_2, ny0_2) => LC y0.Kids.length ny0_2 /\ SlA Ao F ay0_2 y0.Kids
abbrev Qd : (Expr × Sy × Nat) -> Expr := fun (y0, ay0_2, ny0_2) => (y0)
abbrev Mb (x : Aq) : List Value := [(.agg #[(.int .i64 x.kind_), (.int .i64 x.at_), (.string ⟨(x.text_).toArray⟩)])]
abbrev N9 (_ : Mem) (_ : Aq) : Prop := True
abbrev N7 (x : Aq) : Aq := x
theorem kl9 : KL Tryz.prog 9 Fk := KL.ofString (by kernel_rfl)
def Ew (N : Nat) (x0 : Int) : Option (BM × Bool) :=
 (bif (x0 == 1) then some (({ most_ := 1000000, own_ := 1, kids_ := ([] : List Int) } : BM), true) else (bif (x0 == 2) then some (({ most_ := 13, own_ := 1, kids_ := ([] : List Int) } : BM), true) else (bif (x0 == 3) then some (({ most_ := 0, own_ := 2, kids_ := [2] } : BM), true) else (bif (bif (x0 == 4) then (x0 == 4) else (x0 == 5)) then some (({ most_ := 0, own_ := 2, kids_ := [2, 2] } : BM), true) else (bif (bif (x0 == 6) then (x0 == 6) else (x0 == 7)) then some (({ most_ := 0, own_ := 2, kids_ := [1, 1] } : BM), true) else (bif (bif (x0 == 8) then (x0 == 8) else (bif (x0 == 9) then (x0 == 9) else (x0 == 10))) then some (({ most_ := 0, own_ := 1, kids_ := [1, 1] } : BM), true) else (bif (x0 == 11) then some (({ most_ := 0, own_ := 1, kids_ := [2, 1, 1] } : BM), true) else some (({ most_ := 0, own_ := 0, kids_ := ([] : List Int) } : BM), false))))))))
theorem JQ : An Tryz.prog 168 := fun _ _ => by kernel_rfl
theorem KH (N : Nat) (w0 : World) (F0 : Mem) (hF : Sz w0 F0) (x0 : Int) (r : (BM × Bool)) (h : Ew N x0 = some r) :
  Calls Tryz.prog 168 ([(vi x0)] : List Value).toArray w0 (AU w0 F0 fun F' v => ∃ (aq0_2 : Sy) (nq0_2 : Nat), v = (.tuple #[(.agg (CS r.1 aq0_2 nq0_2)), (.bool r.2)]) /\ LC r.1.kids_.length nq0_2 /\ SlA Bu F' aq0_2 r.1.kids_) := by
 have hs0 := R7 hF
 refine Go 36 Tryz.func168 ?_
 refine Sq (Rg [0, 1] ?_)
 refine Al' 186 #[(vi 0), (vi 0), (.slice none ([] : List Int).length 0)] hs0 (fun b21 w22 hs23 => ?_)
 refine Vs 1 ?_
 refine Nss ?_
 refine Sq (Rg [0] ?_)
 refine Vs 1 ?_
 refine Nt ?_
 refine Bk ?_
 refine Sq (Rg [0, 1] ?_)
 refine Vs 2 ?_
 refine Nt ?_
 refine Cd h (fun hb24 h25 => ?_) (fun hb24 h26 => ?_)
 ·refine Sq (Rg [0, 1, 2] ?_)
  refine Vs 1 ?_
  refine St0 #[(vi 1000000), (vi 1), (.slice none ([] : List Int).length 0)] hs23 (fun w27 hs28 => ?_)
  refine Vs 1 ?_
  refine Nt ?_
  refine Rt ?_
  refine Ah ?_
  refine Af ?_
  obtain rfl := Aa h25
  exact ⟨rfl, (.tuple #[(.agg #[(vi 1000000), (vi 1), (.slice none ([] : List Int).length 0)]), (.bool true)]), Av (l := [.cell 2 186, .tmp 3]) (by kernel_rfl) (vs := [(.agg #[(vi 1000000), (vi 1), (.slice none ([] : List Int).length 0)]), (.bool true)]) ⟨b21, 0, rfl, Ai (t := 186) (g := true) (s := 3) (by kernel_rfl) hs28.at0 rfl (by decide), ⟨rfl, trivial⟩⟩, (.tuple #[(.agg #[(vi 1000000), (vi 1), (.slice none ([] : List Int).length 0)]), (.bool true)]), F0, rfl, hs28.clear, ⟨none, 0, rfl, R9, (.inl rfl)⟩⟩
 ·refine Sq (Rg [0, 1] ?_)
  refine Vs 2 ?_
  refine Nt ?_
  refine Cd h26 (fun hb29 h30 => ?_) (fun hb29 h31 => ?_)
  ·refine Sq (Rg [0, 1, 2] ?_)
   refine Vs 1 ?_
   refine St0 #[(vi 13), (vi 1), (.slice none ([] : List Int).length 0)] hs23 (fun w32 hs33 => ?_)
   refine Vs 1 ?_
   refine Nt ?_
   refine Rt ?_
   refine Ah ?_
   refine Af ?_
   obtain rfl := Aa h30
   exact ⟨rfl, (.tuple #[(.agg #[(vi 13), (vi 1), (.slice none ([] : List Int).length 0)]), (.bool true)]), Av (l := [.cell 2 186, .tmp 3]) (by kernel_rfl) (vs := [(.agg #[(vi 13), (vi 1), (.slice none ([] : List Int).length 0)]), (.bool true)]) ⟨b21, 0, rfl, Ai (t := 186) (g := true) (s := 3) (by kernel_rfl) hs33.at0 rfl (by decide), ⟨rfl, trivial⟩⟩, (.tuple #[(.agg #[(vi 13), (vi 1), (.slice none ([] : List Int).length 0)]), (.bool true)]), F0, rfl, hs33.clear, ⟨none, 0, rfl, R9, (.inl rfl)⟩⟩
  ·refine Sq (Rg [0, 1] ?_)
   refine Vs 2 ?_
   refine Nt ?_
   refine Cd h31 (fun hb34 h35 => ?_) (fun hb34 h36 => ?_)
   ·refine Sq (Rg [0, 1, 2, 3] ?_)
    refine Bs 3 [(vi 2)] hs23 (fun b37 w38 hs39 => ?_)
    have hr41 : Au Bu 3 F0 (some ⟨b37, 0, none⟩) 1 [2] (some b37, .cells ([(vi 2)] : List Value).toArray 3 (0, 0)) := Sr ⟨rfl, rfl⟩ (by simp)
    refine Vs 1 ?_
    refine St1 #[(vi 0), (vi 2), (.slice (some ⟨b37, 0, none⟩) [2].length 1)] hs39 (fun w42 hs43 => ?_)
    refine Vs 1 ?_
    refine Nt ?_
    refine Rt ?_
    refine Ah ?_
    refine Af ?_
    have hb47 := Sn hr41
    obtain ⟨F1, hs44, le45, hs46⟩ := hs43.fr0 hr41
    obtain rfl := Aa h35
    exact ⟨rfl, (.tuple #[(.agg #[(vi 0), (vi 2), (.slice (some ⟨b37, 0, none⟩) [2].length 1)]), (.bool true)]), Av (l := [.cell 2 186, .tmp 3]) (by kernel_rfl) (vs := [(.agg #[(vi 0), (vi 2), (.slice (some ⟨b37, 0, none⟩) [2].length 1)]), (.bool true)]) ⟨b21, 0, rfl, Ai (t := 186) (g := true) (s := 3) (by kernel_rfl) hs44.at0 rfl (by decide), ⟨rfl, trivial⟩⟩, (.tuple #[(.agg #[(vi 0), (vi 2), (.slice (some ⟨b37, 0, none⟩) [2].length 1)]), (.bool true)]), F1, rfl, hs44.clear, ⟨(some ⟨b37, 0, none⟩), 1, rfl, hb47, hs46⟩⟩
   ·refine Sq ?_
    refine Sq (Rg [0, 1] ?_)
    refine Vs 2 ?_
    refine Nt ?_
    refine Se (fun f w => ∃ (F2 : Mem), HS w0 F0 w F2 [(sb b21 #[(vi 0), (vi 0), (.slice none ([] : List Int).length 0)] 186)] /\ R5 F0 F2 /\ FI f [] [(2, (pt b21 0)), (4, (vi x0)), (15, (.bool (bif (x0 == 4) then (x0 == 4) else (x0 == 5))))]) ?_ ?_
    ·refine Cp (x0 == 4) (fun hb55 => ?_) (fun hb55 => ?_)
     ·refine Sc ?_
      exact .inl ⟨rfl, F0, hs23, (R6 _), (fJ ⟨rfl, rfl, (congrArg Value.bool (Is hb55 rfl)), trivial⟩)⟩
     ·refine Rg [0, 1] ?_
      refine Vs 2 ?_
      refine RY ?_
      exact .inl ⟨rfl, F0, hs23, (R6 _), (fJ ⟨rfl, rfl, (congrArg Value.bool (It hb55 rfl)), trivial⟩)⟩
    ·rintro f w48 ⟨F2, hs49, le50, ⟨_, rfl⟩⟩
     refine Ac ?_
     refine Cd h36 (fun hb56 h57 => ?_) (fun hb56 h58 => ?_)
     ·refine Sq (Rg [0, 1, 2, 3] ?_)
      refine Bs 3 [(vi 2), (vi 2)] hs49 (fun b59 w60 hs61 => ?_)
      have hr63 : Au Bu 3 F2 (some ⟨b59, 0, none⟩) 2 [2, 2] (some b59, .cells ([(vi 2), (vi 2)] : List Value).toArray 3 (0, 0)) := Sr ⟨rfl, ⟨rfl, rfl⟩⟩ (by simp)
      refine Vs 1 ?_
      refine St1 #[(vi 0), (vi 2), (.slice (some ⟨b59, 0, none⟩) [2, 2].length 2)] hs61 (fun w64 hs65 => ?_)
      refine Vs 1 ?_
      refine Nt ?_
      refine Rt ?_
      refine Ah ?_
      refine Af ?_
      have hb69 := Sn hr63
      obtain ⟨F3, hs66, le67, hs68⟩ := hs65.fr0 hr63
      obtain rfl := Aa h57
      exact ⟨rfl, (.tuple #[(.agg #[(vi 0), (vi 2), (.slice (some ⟨b59, 0, none⟩) [2, 2].length 2)]), (.bool true)]), Av (l := [.cell 2 186, .tmp 3]) (by kernel_rfl) (vs := [(.agg #[(vi 0), (vi 2), (.slice (some ⟨b59, 0, none⟩) [2, 2].length 2)]), (.bool true)]) ⟨b21, 0, rfl, Ai (t := 186) (g := true) (s := 3) (by kernel_rfl) hs66.at0 rfl (by decide), ⟨rfl, trivial⟩⟩, (.tuple #[(.agg #[(vi 0), (vi 2), (.slice (some ⟨b59, 0, none⟩) [2, 2].length 2)]), (.bool true)]), F3, rfl, hs66.clear, ⟨(some ⟨b59, 0, none⟩), 2, rfl, hb69, hs68⟩⟩
     ·refine Sq ?_
      refine Sq (Rg [0, 1] ?_)
      refine Vs 2 ?_
      refine Nt ?_
      refine Se (fun f w => ∃ (F4 : Mem), HS w0 F0 w F4 [(sb b21 #[(vi 0), (vi 0), (.slice none ([] : List Int).length 0)] 186)] /\ R5 F2 F4 /\ FI f [] [(2, (pt b21 0)), (4, (vi x0)), (20, (.bool (bif (x0 == 6) then (x0 == 6) else (x0 == 7))))]) ?_ ?_
      ·refine Cp (x0 == 6) (fun hb77 => ?_) (fun hb77 => ?_)
       ·refine Sc ?_
        exact .inl ⟨rfl, F2, hs49, (R6 _), (fJ ⟨rfl, rfl, (congrArg Value.bool (Is hb77 rfl)), trivial⟩)⟩
       ·refine Rg [0, 1] ?_
        refine Vs 2 ?_
        refine RY ?_
        exact .inl ⟨rfl, F2, hs49, (R6 _), (fJ ⟨rfl, rfl, (congrArg Value.bool (It hb77 rfl)), trivial⟩)⟩
      ·rintro f w70 ⟨F4, hs71, le72, ⟨_, rfl⟩⟩
       refine Ac ?_
       refine Cd h58 (fun hb78 h79 => ?_) (fun hb78 h80 => ?_)
       ·refine Sq (Rg [0, 1, 2, 3] ?_)
        refine Bs 3 [(vi 1), (vi 1)] hs71 (fun b81 w82 hs83 => ?_)
        have hr85 : Au Bu 3 F4 (some ⟨b81, 0, none⟩) 2 [1, 1] (some b81, .cells ([(vi 1), (vi 1)] : List Value).toArray 3 (0, 0)) := Sr ⟨rfl, ⟨rfl, rfl⟩⟩ (by simp)
        refine Vs 1 ?_
        refine St1 #[(vi 0), (vi 2), (.slice (some ⟨b81, 0, none⟩) [1, 1].length 2)] hs83 (fun w86 hs87 => ?_)
        refine Vs 1 ?_
        refine Nt ?_
        refine Rt ?_
        refine Ah ?_
        refine Af ?_
        have hb91 := Sn hr85
        obtain ⟨F5, hs88, le89, hs90⟩ := hs87.fr0 hr85
        obtain rfl := Aa h79
        exact ⟨rfl, (.tuple #[(.agg #[(vi 0), (vi 2), (.slice (some ⟨b81, 0, none⟩) [1, 1].length 2)]), (.bool true)]), Av (l := [.cell 2 186, .tmp 3]) (by kernel_rfl) (vs := [(.agg #[(vi 0), (vi 2), (.slice (some ⟨b81, 0, none⟩) [1, 1].length 2)]), (.bool true)]) ⟨b21, 0, rfl, Ai (t := 186) (g := true) (s := 3) (by kernel_rfl) hs88.at0 rfl (by decide), ⟨rfl, trivial⟩⟩, (.tuple #[(.agg #[(vi 0), (vi 2), (.slice (some ⟨b81, 0, none⟩) [1, 1].length 2)]), (.bool true)]), F5, rfl, hs88.clear, ⟨(some ⟨b81, 0, none⟩), 2, rfl, hb91, hs90⟩⟩
       ·refine Sq ?_
        refine Sq (Rg [0, 1] ?_)
        refine Vs 2 ?_
        refine Nt ?_
        refine Se (fun f w => ∃ (F6 : Mem), HS w0 F0 w F6 [(sb b21 #[(vi 0), (vi 0), (.slice none ([] : List Int).length 0)] 186)] /\ R5 F4 F6 /\ FI f [] [(2, (pt b21 0)), (4, (vi x0)), (25, (.bool (bif (x0 == 8) then (x0 == 8) else (bif (x0 == 9) then (x0 == 9) else (x0 == 10)))))]) ?_ ?_
        ·refine Cp (x0 == 8) (fun hb99 => ?_) (fun hb99 => ?_)
         ·refine Sc ?_
          exact .inl ⟨rfl, F4, hs71, (R6 _), (fJ ⟨rfl, rfl, (congrArg Value.bool (Is hb99 rfl)), trivial⟩)⟩
         ·refine Sq (Rg [0, 1] ?_)
          refine Vs 2 ?_
          refine Nt ?_
          refine Se (fun f w => ∃ (F7 : Mem), HS w0 F0 w F7 [(sb b21 #[(vi 0), (vi 0), (.slice none ([] : List Int).length 0)] 186)] /\ R5 F4 F7 /\ FI f [] [(2, (pt b21 0)), (4, (vi x0)), (25, (.bool (bif (x0 == 9) then (x0 == 9) else (x0 == 10))))]) ?_ ?_
          ·refine Cp (x0 == 9) (fun hb107 => ?_) (fun hb107 => ?_)
           ·refine Sc ?_
            exact .inl ⟨rfl, F4, hs71, (R6 _), (fJ ⟨rfl, rfl, (congrArg Value.bool (Is hb107 rfl)), trivial⟩)⟩
           ·refine Rg [0, 1] ?_
            refine Vs 2 ?_
            refine RY ?_
            exact .inl ⟨rfl, F4, hs71, (R6 _), (fJ ⟨rfl, rfl, (congrArg Value.bool (It hb107 rfl)), trivial⟩)⟩
          ·rintro f w100 ⟨F7, hs101, le102, ⟨_, rfl⟩⟩
           exact .inl ⟨rfl, F7, hs101, le102, (fJ ⟨rfl, rfl, (congrArg Value.bool (It hb99 rfl)), trivial⟩)⟩
        ·rintro f w92 ⟨F6, hs93, le94, ⟨_, rfl⟩⟩
         refine Ac ?_
         refine Cd h80 (fun hb108 h109 => ?_) (fun hb108 h110 => ?_)
         ·refine Sq (Rg [0, 1, 2, 3] ?_)
          refine Bs 3 [(vi 1), (vi 1)] hs93 (fun b111 w112 hs113 => ?_)
          have hr115 : Au Bu 3 F6 (some ⟨b111, 0, none⟩) 2 [1, 1] (some b111, .cells ([(vi 1), (vi 1)] : List Value).toArray 3 (0, 0)) := Sr ⟨rfl, ⟨rfl, rfl⟩⟩ (by simp)
          refine Vs 1 ?_
          refine St1 #[(vi 0), (vi 1), (.slice (some ⟨b111, 0, none⟩) [1, 1].length 2)] hs113 (fun w116 hs117 => ?_)
          refine Vs 1 ?_
          refine Nt ?_
          refine Rt ?_
          refine Ah ?_
          refine Af ?_
          have hb121 := Sn hr115
          obtain ⟨F8, hs118, le119, hs120⟩ := hs117.fr0 hr115
          obtain rfl := Aa h109
          exact ⟨rfl, (.tuple #[(.agg #[(vi 0), (vi 1), (.slice (some ⟨b111, 0, none⟩) [1, 1].length 2)]), (.bool true)]), Av (l := [.cell 2 186, .tmp 3]) (by kernel_rfl) (vs := [(.agg #[(vi 0), (vi 1), (.slice (some ⟨b111, 0, none⟩) [1, 1].length 2)]), (.bool true)]) ⟨b21, 0, rfl, Ai (t := 186) (g := true) (s := 3) (by kernel_rfl) hs118.at0 rfl (by decide), ⟨rfl, trivial⟩⟩, (.tuple #[(.agg #[(vi 0), (vi 1), (.slice (some ⟨b111, 0, none⟩) [1, 1].length 2)]), (.bool true)]), F8, rfl, hs118.clear, ⟨(some ⟨b111, 0, none⟩), 2, rfl, hb121, hs120⟩⟩
         ·refine Sq (Rg [0, 1] ?_)
          refine Vs 2 ?_
          refine Nt ?_
          refine Cd h110 (fun hb122 h123 => ?_) (fun hb122 h124 => ?_)
          ·refine Sq (Rg [0, 1, 2, 3] ?_)
           refine Bs 3 [(vi 2), (vi 1), (vi 1)] hs93 (fun b125 w126 hs127 => ?_)
           have hr129 : Au Bu 3 F6 (some ⟨b125, 0, none⟩) 3 [2, 1, 1] (some b125, .cells ([(vi 2), (vi 1), (vi 1)] : List Value).toArray 3 (0, 0)) := Sr ⟨rfl, ⟨rfl, ⟨rfl, rfl⟩⟩⟩ (by simp)
           refine Vs 1 ?_
           refine St1 #[(vi 0), (vi 1), (.slice (some ⟨b125, 0, none⟩) [2, 1, 1].length 3)] hs127 (fun w130 hs131 => ?_)
           refine Vs 1 ?_
           refine Nt ?_
           refine Rt ?_
           refine Ah ?_
           refine Af ?_
           have hb135 := Sn hr129
           obtain ⟨F9, hs132, le133, hs134⟩ := hs131.fr0 hr129
           obtain rfl := Aa h123
           exact ⟨rfl, (.tuple #[(.agg #[(vi 0), (vi 1), (.slice (some ⟨b125, 0, none⟩) [2, 1, 1].length 3)]), (.bool true)]), Av (l := [.cell 2 186, .tmp 3]) (by kernel_rfl) (vs := [(.agg #[(vi 0), (vi 1), (.slice (some ⟨b125, 0, none⟩) [2, 1, 1].length 3)]), (.bool true)]) ⟨b21, 0, rfl, Ai (t := 186) (g := true) (s := 3) (by kernel_rfl) hs132.at0 rfl (by decide), ⟨rfl, trivial⟩⟩, (.tuple #[(.agg #[(vi 0), (vi 1), (.slice (some ⟨b125, 0, none⟩) [2, 1, 1].length 3)]), (.bool true)]), F9, rfl, hs132.clear, ⟨(some ⟨b125, 0, none⟩), 3, rfl, hb135, hs134⟩⟩
          ·refine Sc ?_
           refine Ap ?_
           refine Ac ?_
           refine Sq (Rg [0, 1, 2] ?_)
           refine Vs 1 ?_
           refine St0 #[(vi 0), (vi 0), (.slice none ([] : List Int).length 0)] hs93 (fun w136 hs137 => ?_)
           refine Vs 1 ?_
           refine Nt ?_
           refine Rt ?_
           obtain rfl := Aa h124
           exact ⟨rfl, (.tuple #[(.agg #[(vi 0), (vi 0), (.slice none ([] : List Int).length 0)]), (.bool false)]), Av (l := [.cell 2 186, .tmp 3]) (by kernel_rfl) (vs := [(.agg #[(vi 0), (vi 0), (.slice none ([] : List Int).length 0)]), (.bool false)]) ⟨b21, 0, rfl, Ai (t := 186) (g := true) (s := 3) (by kernel_rfl) hs137.at0 rfl (by decide), ⟨rfl, trivial⟩⟩, (.tuple #[(.agg #[(vi 0), (vi 0), (.slice none ([] : List Int).length 0)]), (.bool false)]), F6, rfl, hs137.clear, ⟨none, 0, rfl, R9, (.inl rfl)⟩⟩
def Mq (sR113 : Expr -> Option Int) : Prop := ∀ (w0 : World) (F0 : Mem) (hF : Sz w0 F0) (x0 : Expr) (a0_2 : Sy) (n0_2 : Nat) (hb0_2 : LC x0.Kids.length n0_2) (hs0_2 : SlA Ao F0 a0_2 x0.Kids) (r : Int), sR113 x0 = some r -> Calls Tryz.prog 113 ([(.agg #[(.int .i64 x0.Op), (.int .i64 x0.Value), (.slice a0_2 x0.Kids.length n0_2)])] : List Value).toArray w0 (AU w0 F0 fun F' v => v = (.int .i64 r))
theorem CF : An Tryz.prog 113 := fun _ _ => by kernel_rfl
def CC (N : Nat) (sR113 : Expr -> Option Int) (x0 : Expr) (r24 : (BM × Bool)) : Int -> Option (BX Int Int) := fun s53 =>
 (bif (decide (s53 < (x0.Kids.length : Int))) then ((idx x0.Kids s53).bind fun x77 => (((idx r24.1.kids_ s53).bind fun x110 => ((sR113 x77).bind fun r124 => some (r124 != x110))).bind fun j101 => (bif j101 then some (.ret 0) else some (.next (W64 (s53 + 1)))))) else some (.done s53))
def Dz (N : Nat) (sR113 : Expr -> Option Int) (x0 : Expr) : Option Int :=
 ((Ew N x0.Op).bind fun r24 => (bif ((!r24.2) || ((decide (x0.Value < 0)) || ((decide (x0.Value > r24.1.most_)) || ((x0.Kids.length : Int) != (r24.1.kids_.length : Int))))) then some 0 else ((Br (CC N sR113 x0 r24) N 0).bind fun o => o.k (fun r => some r) (fun s62 => some r24.1.own_))))
theorem JZ (N : Nat) (sR113 : Expr -> Option Int) (hsR113 : Mq sR113) (w0 : World) (F0 : Mem) (hF : Sz w0 F0) (x0 : Expr) (a0_2 : Sy) (n0_2 : Nat) (hb0_2 : LC x0.Kids.length n0_2) (hs0_2 : SlA Ao F0 a0_2 x0.Kids) (r : Int) (h : Dz N sR113 x0 = some r) :
  Calls Tryz.prog 113 ([(.agg (Ae x0 a0_2 n0_2))] : List Value).toArray w0 (AU w0 F0 fun F' v => v = (vi r)) := by
 have hs0 := R7 hF
 refine Go 55 Tryz.func113 ?_
 refine Sq (Rg [0, 1] ?_)
 refine Bx' 33 (Ae x0 a0_2 n0_2) hs0 (fun b21 w22 hs23 => ?_)
 refine Vs 1 ?_
 refine Nss (Rg [0, 1, 2, 3, 4, 5, 6, 7, 8] ?_)
 refine Vs 1 ?_
 refine Ld hs23.at0 ?_
 obtain ⟨r24, hr25, h26⟩ := bind_some h
 refine Cl' JQ hs23 (KH N w22 F0 hs23.pers x0.Op _ hr25) ?_
 rintro _ F1 w28 hs29 le30 ⟨ar24_0_2, nr24_0_2, rfl, hbr24_0_2, hsr24_0_2⟩
 refine Vs 3 ?_
 refine Al' 186 #[(vi 0), (vi 0), (.slice none ([] : List Int).length 0)] hs29 (fun b32 w33 hs34 => ?_)
 refine St0 (CS r24.1 ar24_0_2 nr24_0_2) hs34 (fun w35 hs36 => ?_)
 refine Vs 1 ?_
 refine Nss ?_
 refine Sq (Rg [0, 1, 2, 3, 4, 5, 6, 7, 8, 9, 10, 11, 12, 13, 14, 15, 16, 17, 18, 19, 20, 21, 22] ?_)
 refine Sb (fun f w => ∃ (F2 : Mem), HS w0 F0 w F2 [(sb b32 (CS r24.1 ar24_0_2 nr24_0_2) 186), (sb b21 (Ae x0 a0_2 n0_2) 33)] /\ R5 F1 F2 /\ FI f [] [(1, (pt b21 0)), (3, (pt b32 0)), (35, (.bool ((!r24.2) || ((decide (x0.Value < 0)) || ((decide (x0.Value > r24.1.most_)) || ((x0.Kids.length : Int) != (r24.1.kids_.length : Int)))))))]) ?_ ?_
 ·refine Vs 3 ?_
  refine Sa (!r24.2) (fun hb44 => ?_) (fun hb44 => ?_)
  ·refine Ss hb44 3 ?_
   refine Pk1 hb44 ?_
   refine Vs 1 ?_
   refine Ss (rfl : true = true) 5 ?_
   refine Pk1 (rfl : true = true) ?_
   refine Vs 1 ?_
   refine Ss (rfl : true = true) 7 ?_
   refine Pk1 (rfl : true = true) ?_
   exact RY ⟨rfl, F1, hs36, (R6 _), (fJ ⟨rfl, rfl, (congrArg Value.bool (Gs hb44 rfl)), trivial⟩)⟩
  ·refine Vgs hb44 1 ?_
   refine Lg hb44 hs36.at1 ?_
   refine Vgs hb44 1 ?_
   refine Pk0 hb44 ?_
   refine Vs 1 ?_
   refine Sa (decide (x0.Value < 0)) (fun hb45 => ?_) (fun hb45 => ?_)
   ·refine Ss hb45 5 ?_
    refine Pk1 hb45 ?_
    refine Vs 1 ?_
    refine Ss (rfl : true = true) 7 ?_
    refine Pk1 (rfl : true = true) ?_
    exact RY ⟨rfl, F1, hs36, (R6 _), (fJ ⟨rfl, rfl, (congrArg Value.bool (Cc hb44 (Gs hb45 rfl))), trivial⟩)⟩
   ·refine Vgs hb45 1 ?_
    refine Lg hb45 hs36.at1 ?_
    refine Vgs hb45 1 ?_
    refine Lg hb45 hs36.at0 ?_
    refine Vgs hb45 1 ?_
    refine Pk0 hb45 ?_
    refine Vs 1 ?_
    refine Sa (decide (x0.Value > r24.1.most_)) (fun hb46 => ?_) (fun hb46 => ?_)
    ·refine Ss hb46 7 ?_
     refine Pk1 hb46 ?_
     exact RY ⟨rfl, F1, hs36, (R6 _), (fJ ⟨rfl, rfl, (congrArg Value.bool (Cc hb44 (Cc hb45 (Gs hb46 rfl)))), trivial⟩)⟩
    ·refine Vgs hb46 1 ?_
     refine Lg hb46 hs36.at1 ?_
     refine Vgs hb46 2 ?_
     refine Lg hb46 hs36.at0 ?_
     refine Vgs hb46 2 ?_
     refine Pk0 hb46 ?_
     exact RY ⟨rfl, F1, hs36, (R6 _), (fJ ⟨rfl, rfl, (congrArg Value.bool (Cc hb44 (Cc hb45 (Cc hb46 rfl)))), trivial⟩)⟩
 ·rintro f w37 ⟨F2, hs38, le39, ⟨_, rfl⟩⟩
  refine Ac ?_
  refine Cd h26 (fun hb47 h48 => ?_) (fun hb47 h49 => ?_)
  ·refine Sq (Rg [0] ?_)
   refine Vs 1 ?_
   refine Nt ?_
   refine Rt ?_
   refine Af ?_
   obtain rfl := Aa h48
   exact Re [(vi 0)] hs38 rfl
  ·refine Sc ?_
   refine Ac ?_
   refine Sq ?_
   refine Sq (Rg [0, 1, 2, 3] ?_)
   refine Vs 1 ?_
   refine Ld hs38.at1 ?_
   refine Vs 2 ?_
   refine Nt ?_
   obtain ⟨o50, ho51, h52⟩ := bind_some h49
   refine Se (fun f w => ∃ (s62 : Int) (F4 : Mem), o50 = .done s62 /\ HS w0 F0 w F4 [(sb b32 (CS r24.1 ar24_0_2 nr24_0_2) 186)] /\ R5 F2 F4 /\ FI f [] [(3, (pt b32 0))]) ?_ ?_
   ·refine Bk ?_
    refine R4 (by kernel_rfl) (fun m f w => ∃ (s53 : Int) (F3 : Mem), Br (CC N sR113 x0 r24) m s53 = some o50 /\ HS w0 F0 w F3 [(sb b32 (CS r24.1 ar24_0_2 nr24_0_2) 186)] /\ R5 F2 F3 /\ FI f [] [(3, (pt b32 0)), (37, (.slice a0_2 x0.Kids.length n0_2)), (38, (vi (x0.Kids.length : Int))), (39, (vi s53))]) N ⟨0, F2, ho51, hs38.dr1, (R6 _), fI⟩ ?_
    rintro m68 f w54 ⟨s53, F3, hit69, hs55, le56, ⟨_, rfl⟩⟩
    obtain ⟨m70, fl71, rfl, hb72, hnx73⟩ := A7 hit69
    refine Sq (Rg [0] ?_)
    refine Vs 1 ?_
    refine Nss ?_
    refine Cd hb72 (fun hb74 h75 => ?_) (fun hb74 h76 => ?_)
    ·refine Sc ?_
     refine Ac ?_
     refine Sq ?_
     refine Bk ?_
     refine Sq (Rg [0, 1, 2, 3, 4, 5] ?_)
     refine Vs 1 ?_
     obtain ⟨x77, hx78, h80⟩ := bind_some h75
     obtain ⟨hi79, hx78'⟩ := Ay hx78
     obtain ⟨b81, o82, C83, E84, fz85, rfl, hF87, hE88⟩ := Sh (R8 hs0_2 ((le30.trans le39).trans le56)) hx78'
     obtain ⟨ae89_2, ne89_2, hc90, hbe89_2, hse89_2⟩ := (AR (hE88 _ _ hx78'))
     refine Ix hi79 ?_
     refine Lx 0 (hs55.pers _ _ hF87) hc90 ?_
     refine Al' 33 #[(vi 0), (vi 0), (.slice none ([] : List Expr).length 0)] hs55 (fun b91 w92 hs93 => ?_)
     refine Vs 1 ?_
     refine St0 (Ae x77 ae89_2 ne89_2) hs93 (fun w94 hs95 => ?_)
     refine Nss ?_
     obtain ⟨j101, hj108, h109⟩ := bind_some h80
     refine RD 8 8 [(sb b91 (Ae x77 ae89_2 ne89_2) 33), (sb b32 (CS r24.1 ar24_0_2 nr24_0_2) 186)] [] hs95 (fun f w => ∃ (F5 : Mem), HS w0 F0 w F5 [(sb b32 (CS r24.1 ar24_0_2 nr24_0_2) 186)] /\ R5 F3 F5 /\ FI f [] [(3, (pt b32 0)), (37, (.slice (some ⟨b81, o82, none⟩) x0.Kids.length n0_2)), (38, (vi (x0.Kids.length : Int))), (39, (vi s53)), (51, (.bool j101))]) (fun wd96 hw97 => ?_) ?_
     ·refine Dl 0 (fun _ hq => (hq.1.2 0 _ _ rfl)) ?_
      refine Dv [2] ?_
      refine Dl 3 (fun _ hq => (hq.1.2 1 _ _ rfl)) ?_
      refine Dv [4] ?_
      obtain ⟨x110, hx111, h113⟩ := bind_some hj108
      obtain ⟨hi112, hx111'⟩ := Ay hx111
      obtain ⟨b114, o115, C116, E117, fz118, rfl, hF120, hE121⟩ := Sh (R8 hsr24_0_2 (le39.trans le56)) hx111'
      have hc123 := hE121 _ _ hx111'
      refine Di 5 hi112 ?_
      refine Dx 6 0 (fun _ hq => hq.1.1 _ _ hF120) hc123 ?_
      refine D1 1 ?_
      obtain ⟨r124, hr125, h126⟩ := bind_some h113
      refine DCl CF hw97 (hsR113 wd96 F3 hw97.pers x77 ae89_2 ne89_2 hbe89_2 hse89_2 _ hr125) ?_
      rintro _ F6 w128 hs129 le130 rfl
      refine Dv [7] ?_
      obtain rfl := Aa h126
      exact Sm (by kernel_rfl) ⟨F6, hs129.dr0, le130, fI⟩
     ·rintro f w98 ⟨F5, hs99, le100, ⟨_, rfl⟩⟩
      refine Ac ?_
      refine Cd h109 (fun hb132 h133 => ?_) (fun hb132 h134 => ?_)
      ·refine Sq (Rg [0] ?_)
       refine Vs 1 ?_
       refine Nt ?_
       refine Rt ?_
       refine Ah ?_
       refine Af ?_
       refine Af ?_
       refine Ah ?_
       have hret := Cf h133 hnx73
       subst hret
       refine .inr ?_
       refine Af ?_
       obtain rfl := Aa h52
       exact Re [(vi 0)] hs99 rfl
      ·refine Sc ?_
       refine Ap ?_
       refine Ac ?_
       refine Rg [0, 1] ?_
       refine Vs 2 ?_
       refine RY ?_
       have hn135 := A0 h134 hnx73
       exact ⟨m70, Nat.lt_succ_self _, (W64 (s53 + 1)), F5, hn135, hs99, (le56.trans le100), fI⟩
    ·refine Ex ?_
     refine AC ?_
     refine AC ?_
     refine AV rfl ?_
     have ho136 := Bd h76 hnx73
     exact .inl ⟨rfl, s53, F3, ho136, hs55, le56, fI⟩
   ·rintro f w63 ⟨s62, F4, rfl, hs64, le65, ⟨_, rfl⟩⟩
    have h137 := Cu h52
    refine Ac ?_
    refine Sq (Rg [0, 1, 2] ?_)
    refine Vs 1 ?_
    refine Ld hs64.at0 ?_
    refine Vs 1 ?_
    refine Nt ?_
    refine Rt ?_
    obtain rfl := Aa h137
    exact Re [(vi r24.1.own_)] hs64 rfl
structure Q3 where
 q113 : Expr -> Option Int
def HC (N : Nat) : Nat -> Q3
 | 0 => ⟨fun _ => none⟩
 | k + 1 => ⟨Dz N (HC N k).q113⟩
theorem Lv (N : Nat) : ∀ k, Mq (HC N k).q113
 | 0 => (by unfold Mq; intros; rename_i h; cases h)
 | k + 1 => by
  have ih := Lv N k
  exact @JZ N (HC N k).q113 ih
def CZ (N : Nat) (x0 : Expr) : Option Int := (HC N N).q113 x0
theorem DD (N : Nat) (w0 : World) (F0 : Mem) (hF : Sz w0 F0) (x0 : Expr) (a0_2 : Sy) (n0_2 : Nat) (hb0_2 : LC x0.Kids.length n0_2) (hs0_2 : SlA Ao F0 a0_2 x0.Kids) (r : Int) (h : CZ N x0 = some r) :
  Calls Tryz.prog 113 ([(.agg #[(.int .i64 x0.Op), (.int .i64 x0.Value), (.slice a0_2 x0.Kids.length n0_2)])] : List Value).toArray w0 (AU w0 F0 fun F' v => v = (.int .i64 r)) := (Lv N N) w0 F0 hF x0 a0_2 n0_2 hb0_2 hs0_2 r h





def NR (sR32 : Expr -> Option Int) : Prop := ∀ (w0 : World) (F0 : Mem) (hF : Sz w0 F0) (x0 : Expr) (a0_2 : Sy) (n0_2 : Nat) (hb0_2 : LC x0.Kids.length n0_2) (hs0_2 : SlA Ao F0 a0_2 x0.Kids) (r : Int), sR32 x0 = some r -> Calls Tryz.prog 32 ([(.agg #[(.int .i64 x0.Op), (.int .i64 x0.Value), (.slice a0_2 x0.Kids.length n0_2)])] : List Value).toArray w0 (AU w0 F0 fun F' v => v = (.int .i64 r))
theorem CV : An Tryz.prog 32 := fun _ _ => by kernel_rfl
def Gi (N : Nat) (sR32 : Expr -> Option Int) (x0 : Expr) : (Int × Int) -> Option (BX Int (Int × Int)) := fun s27 =>
 (bif (decide (s27.2 < (x0.Kids.length : Int))) then ((idx x0.Kids s27.2).bind fun x51 => ((sR32 x51).bind fun r70 => some (.next ((max s27.1 r70), (W64 (s27.2 + 1)))))) else some (.done (s27.1, s27.2)))
def DV (N : Nat) (sR32 : Expr -> Option Int) (x0 : Expr) : Option Int :=
 ((Br (Gi N sR32 x0) N (0, 0)).bind fun o => o.k (fun r => some r) (fun s36 => some (W64 (s36.1 + 1))))
theorem KM (N : Nat) (sR32 : Expr -> Option Int) (hsR32 : NR sR32) (w0 : World) (F0 : Mem) (hF : Sz w0 F0) (x0 : Expr) (a0_2 : Sy) (n0_2 : Nat) (hb0_2 : LC x0.Kids.length n0_2) (hs0_2 : SlA Ao F0 a0_2 x0.Kids) (r : Int) (h : DV N sR32 x0 = some r) :
  Calls Tryz.prog 32 ([(.agg (Ae x0 a0_2 n0_2))] : List Value).toArray w0 (AU w0 F0 fun F' v => v = (vi r)) := by
 have hs0 := R7 hF
 refine Go 20 Tryz.func32 ?_
 refine Sq (Rg [0, 1] ?_)
 refine Bx' 33 (Ae x0 a0_2 n0_2) hs0 (fun b21 w22 hs23 => ?_)
 refine Vs 1 ?_
 refine Nss (Rg [0] ?_)
 refine Vs 1 ?_
 refine Nss ?_
 refine Sq (Rg [0, 1, 2, 3] ?_)
 refine Vs 1 ?_
 refine Ld hs23.at0 ?_
 refine Vs 2 ?_
 refine Nt ?_
 obtain ⟨o24, ho25, h26⟩ := bind_some h
 refine Se (fun f w => ∃ (s36 : (Int × Int)) (F2 : Mem), o24 = .done s36 /\ HS w0 F0 w F2 [] /\ R5 F0 F2 /\ FI f [] [(3, (vi s36.1))]) ?_ ?_
 ·refine Bk ?_
  refine R4 (by kernel_rfl) (fun m f w => ∃ (s27 : (Int × Int)) (F1 : Mem), Br (Gi N sR32 x0) m s27 = some o24 /\ HS w0 F0 w F1 [] /\ R5 F0 F1 /\ FI f [] [(3, (vi s27.1)), (7, (.slice a0_2 x0.Kids.length n0_2)), (8, (vi (x0.Kids.length : Int))), (9, (vi s27.2))]) N ⟨(0, 0), F0, ho25, hs23.dr0, (R6 _), fI⟩ ?_
  rintro m42 f w28 ⟨s27, F1, hit43, hs29, le30, ⟨_, rfl⟩⟩
  obtain ⟨m44, fl45, rfl, hb46, hnx47⟩ := A7 hit43
  refine Sq (Rg [0] ?_)
  refine Vs 1 ?_
  refine Nss ?_
  refine Cd hb46 (fun hb48 h49 => ?_) (fun hb48 h50 => ?_)
  ·refine Sc ?_
   refine Ac ?_
   refine Sq ?_
   refine Bk ?_
   refine Sq (Rg [0, 1, 2, 3] ?_)
   obtain ⟨x51, hx52, h54⟩ := bind_some h49
   obtain ⟨hi53, hx52'⟩ := Ay hx52
   obtain ⟨b55, o56, C57, E58, fz59, rfl, hF61, hE62⟩ := Sh (R8 hs0_2 le30) hx52'
   obtain ⟨ae63_2, ne63_2, hc64, hbe63_2, hse63_2⟩ := (AR (hE62 _ _ hx52'))
   refine Ix hi53 ?_
   refine Lx 0 (hs29.pers _ _ hF61) hc64 ?_
   refine Al' 33 #[(vi 0), (vi 0), (.slice none ([] : List Expr).length 0)] hs29 (fun b65 w66 hs67 => ?_)
   refine St0 (Ae x51 ae63_2 ne63_2) hs67 (fun w68 hs69 => ?_)
   refine Nt ?_
   refine Rg [0, 1, 2, 3, 4] ?_
   refine Vs 1 ?_
   refine Ld hs69.at0 ?_
   obtain ⟨r70, hr71, h72⟩ := bind_some h54
   refine Cl' CV hs69 (hsR32 w68 F1 hs69.pers x51 ae63_2 ne63_2 hbe63_2 hse63_2 _ hr71) ?_
   rintro _ F3 w74 hs75 le76 rfl
   refine Vs 2 ?_
   refine RY ?_
   refine Ap ?_
   refine Ac ?_
   refine Rg [0, 1] ?_
   refine Vs 2 ?_
   refine RY ?_
   have hn78 := A0 h72 hnx47
   exact ⟨m44, Nat.lt_succ_self _, ((max s27.1 r70), (W64 (s27.2 + 1))), F3, hn78, hs75.dr0, (le30.trans le76), fI⟩
  ·refine Ex ?_
   refine AC ?_
   refine AC ?_
   refine AV rfl ?_
   have ho79 := Bd h50 hnx47
   exact .inl ⟨rfl, (s27.1, s27.2), F1, ho79, hs29, le30, fI⟩
 ·rintro f w37 ⟨s36, F2, rfl, hs38, le39, ⟨_, rfl⟩⟩
  have h80 := Cu h26
  refine Ac ?_
  refine Sq (Rg [0, 1, 2] ?_)
  refine Vs 3 ?_
  refine Nt ?_
  refine Rt ?_
  obtain rfl := Aa h80
  exact Re [(vi (W64 (s36.1 + 1)))] hs38 rfl
structure RA where
 q32 : Expr -> Option Int
def Ki (N : Nat) : Nat -> RA
 | 0 => ⟨fun _ => none⟩
 | k + 1 => ⟨DV N (Ki N k).q32⟩
theorem MH (N : Nat) : ∀ k, NR (Ki N k).q32
 | 0 => (by unfold NR; intros; rename_i h; cases h)
 | k + 1 => by
  have ih := MH N k
  exact @KM N (Ki N k).q32 ih
def Do (N : Nat) (x0 : Expr) : Option Int := (Ki N N).q32 x0
theorem D2 (N : Nat) (w0 : World) (F0 : Mem) (hF : Sz w0 F0) (x0 : Expr) (a0_2 : Sy) (n0_2 : Nat) (hb0_2 : LC x0.Kids.length n0_2) (hs0_2 : SlA Ao F0 a0_2 x0.Kids) (r : Int) (h : Do N x0 = some r) :
  Calls Tryz.prog 32 ([(.agg #[(.int .i64 x0.Op), (.int .i64 x0.Value), (.slice a0_2 x0.Kids.length n0_2)])] : List Value).toArray w0 (AU w0 F0 fun F' v => v = (.int .i64 r)) := (MH N N) w0 F0 hF x0 a0_2 n0_2 hb0_2 hs0_2 r h



def NQ (sR92 : Expr -> Option Int) : Prop := ∀ (w0 : World) (F0 : Mem) (hF : Sz w0 F0) (x0 : Expr) (a0_2 : Sy) (n0_2 : Nat) (hb0_2 : LC x0.Kids.length n0_2) (hs0_2 : SlA Ao F0 a0_2 x0.Kids) (r : Int), sR92 x0 = some r -> Calls Tryz.prog 92 ([(.agg #[(.int .i64 x0.Op), (.int .i64 x0.Value), (.slice a0_2 x0.Kids.length n0_2)])] : List Value).toArray w0 (AU w0 F0 fun F' v => v = (.int .i64 r))
theorem GK : An Tryz.prog 92 := fun _ _ => by kernel_rfl
def Gm (N : Nat) (sR92 : Expr -> Option Int) (x0 : Expr) : (Int × Int) -> Option (BX Int (Int × Int)) := fun s27 =>
 (bif (decide (s27.2 < (x0.Kids.length : Int))) then ((idx x0.Kids s27.2).bind fun x50 => ((sR92 x50).bind fun r64 => some (.next ((W64 (s27.1 + r64)), (W64 (s27.2 + 1)))))) else some (.done (s27.1, s27.2)))
def DW (N : Nat) (sR92 : Expr -> Option Int) (x0 : Expr) : Option Int :=
 ((Br (Gm N sR92 x0) N (1, 0)).bind fun o => o.k (fun r => some r) (fun s35 => some s35.1))
theorem KN (N : Nat) (sR92 : Expr -> Option Int) (hsR92 : NQ sR92) (w0 : World) (F0 : Mem) (hF : Sz w0 F0) (x0 : Expr) (a0_2 : Sy) (n0_2 : Nat) (hb0_2 : LC x0.Kids.length n0_2) (hs0_2 : SlA Ao F0 a0_2 x0.Kids) (r : Int) (h : DW N sR92 x0 = some r) :
  Calls Tryz.prog 92 ([(.agg (Ae x0 a0_2 n0_2))] : List Value).toArray w0 (AU w0 F0 fun F' v => v = (vi r)) := by
 have hs0 := R7 hF
 refine Go 21 Tryz.func92 ?_
 refine Sq (Rg [0, 1] ?_)
 refine Bx' 33 (Ae x0 a0_2 n0_2) hs0 (fun b21 w22 hs23 => ?_)
 refine Vs 1 ?_
 refine Nss (Rg [0] ?_)
 refine Vs 1 ?_
 refine Nss ?_
 refine Sq (Rg [0] ?_)
 refine Vs 1 ?_
 refine Nt ?_
 obtain ⟨o24, ho25, h26⟩ := bind_some h
 refine Se (fun f w => ∃ (s35 : (Int × Int)) (F2 : Mem), o24 = .done s35 /\ HS w0 F0 w F2 [] /\ R5 F0 F2 /\ FI f [] [(3, (vi s35.1))]) ?_ ?_
 ·refine Bk ?_
  refine R4 (by kernel_rfl) (fun m f w => ∃ (s27 : (Int × Int)) (F1 : Mem), Br (Gm N sR92 x0) m s27 = some o24 /\ HS w0 F0 w F1 [(sb b21 (Ae x0 a0_2 n0_2) 33)] /\ R5 F0 F1 /\ FI f [] [(1, (pt b21 0)), (3, (vi s27.1)), (4, (vi s27.2))]) N ⟨(1, 0), F0, ho25, hs23, (R6 _), fI⟩ ?_
  rintro m41 f w28 ⟨s27, F1, hit42, hs29, le30, ⟨_, rfl⟩⟩
  obtain ⟨m43, fl44, rfl, hb45, hnx46⟩ := A7 hit42
  refine Sq ?_
  refine Sq (Rg [0, 1, 2, 3, 4] ?_)
  refine Vs 2 ?_
  refine Ld hs29.at0 ?_
  refine Vs 2 ?_
  refine Nt ?_
  refine Cd hb45 (fun hb47 h48 => ?_) (fun hb47 h49 => ?_)
  ·refine Sc ?_
   refine Ac ?_
   refine Sq ?_
   refine Bk ?_
   refine Rg [0, 1, 2, 3, 4, 5, 6, 7, 8] ?_
   refine Vs 2 ?_
   refine Ld hs29.at0 ?_
   refine Vs 1 ?_
   obtain ⟨x50, hx51, h53⟩ := bind_some h48
   obtain ⟨hi52, hx51'⟩ := Ay hx51
   obtain ⟨b54, o55, C56, E57, fz58, rfl, hF60, hE61⟩ := Sh (R8 hs0_2 le30) hx51'
   obtain ⟨ae62_2, ne62_2, hc63, hbe62_2, hse62_2⟩ := (AR (hE61 _ _ hx51'))
   refine Ix hi52 ?_
   refine Lx 0 (hs29.pers _ _ hF60) hc63 ?_
   obtain ⟨r64, hr65, h66⟩ := bind_some h53
   refine Cl' GK hs29 (hsR92 w28 F1 hs29.pers x50 ae62_2 ne62_2 hbe62_2 hse62_2 _ hr65) ?_
   rintro _ F3 w68 hs69 le70 rfl
   refine Vs 2 ?_
   refine RY ?_
   refine Ap ?_
   refine Ac ?_
   refine Rg [0, 1, 2] ?_
   refine Vs 3 ?_
   refine RY ?_
   have hn72 := A0 h66 hnx46
   exact ⟨m43, Nat.lt_succ_self _, ((W64 (s27.1 + r64)), (W64 (s27.2 + 1))), F3, hn72, hs69, (le30.trans le70), fI⟩
  ·refine Ex ?_
   refine AC ?_
   refine AC ?_
   refine AV rfl ?_
   have ho73 := Bd h49 hnx46
   exact .inl ⟨rfl, (s27.1, s27.2), F1, ho73, hs29.dr0, le30, fI⟩
 ·rintro f w36 ⟨s35, F2, rfl, hs37, le38, ⟨_, rfl⟩⟩
  have h74 := Cu h26
  refine Ac ?_
  refine Sq (Rg [0, 1] ?_)
  refine Vs 2 ?_
  refine Nt ?_
  refine Rt ?_
  obtain rfl := Aa h74
  exact Re [(vi s35.1)] hs37 rfl
structure Rz where
 q92 : Expr -> Option Int
def Kh (N : Nat) : Nat -> Rz
 | 0 => ⟨fun _ => none⟩
 | k + 1 => ⟨DW N (Kh N k).q92⟩
theorem MG (N : Nat) : ∀ k, NQ (Kh N k).q92
 | 0 => (by unfold NQ; intros; rename_i h; cases h)
 | k + 1 => by
  have ih := MG N k
  exact @KN N (Kh N k).q92 ih
def Gn (N : Nat) (x0 : Expr) : Option Int := (Kh N N).q92 x0
theorem Lb (N : Nat) (w0 : World) (F0 : Mem) (hF : Sz w0 F0) (x0 : Expr) (a0_2 : Sy) (n0_2 : Nat) (hb0_2 : LC x0.Kids.length n0_2) (hs0_2 : SlA Ao F0 a0_2 x0.Kids) (r : Int) (h : Gn N x0 = some r) :
  Calls Tryz.prog 92 ([(.agg #[(.int .i64 x0.Op), (.int .i64 x0.Value), (.slice a0_2 x0.Kids.length n0_2)])] : List Value).toArray w0 (AU w0 F0 fun F' v => v = (.int .i64 r)) := (MG N N) w0 F0 hF x0 a0_2 n0_2 hb0_2 hs0_2 r h
def NS (sR27 : Expr -> Expr -> Option Bool) : Prop := ∀ (w0 : World) (F0 : Mem) (hF : Sz w0 F0) (x0 : Expr) (a0_2 : Sy) (n0_2 : Nat) (hb0_2 : LC x0.Kids.length n0_2) (hs0_2 : SlA Ao F0 a0_2 x0.Kids) (x1 : Expr) (a1_2 : Sy) (n1_2 : Nat) (hb1_2 : LC x1.Kids.length n1_2) (hs1_2 : SlA Ao F0 a1_2 x1.Kids) (r : Bool), sR27 x0 x1 = some r -> Calls Tryz.prog 27 ([(.agg #[(.int .i64 x0.Op), (.int .i64 x0.Value), (.slice a0_2 x0.Kids.length n0_2)]), (.agg #[(.int .i64 x1.Op), (.int .i64 x1.Value), (.slice a1_2 x1.Kids.length n1_2)])] : List Value).toArray w0 (AU w0 F0 fun F' v => v = (.bool r))
theorem GL : An Tryz.prog 27 := fun _ _ => by kernel_rfl
def CR (N : Nat) (sR27 : Expr -> Expr -> Option Bool) (x0 : Expr) (x1 : Expr) : Int -> Option (BX Bool Int) := fun s42 =>
 (bif (decide (s42 < (x0.Kids.length : Int))) then (((idx x0.Kids s42).bind fun x77 => ((idx x1.Kids s42).bind fun x91 => ((sR27 x77 x91).bind fun r105 => some (!r105)))).bind fun j69 => (bif j69 then some (.ret false) else some (.next (W64 (s42 + 1))))) else some (.done s42))
def DX (N : Nat) (sR27 : Expr -> Expr -> Option Bool) (x0 : Expr) (x1 : Expr) : Option Bool :=
 (bif ((x0.Op != x1.Op) || ((x0.Value != x1.Value) || ((x0.Kids.length : Int) != (x1.Kids.length : Int)))) then some false else ((Br (CR N sR27 x0 x1) N 0).bind fun o => o.k (fun r => some r) (fun s50 => some true)))
theorem KO (N : Nat) (sR27 : Expr -> Expr -> Option Bool) (hsR27 : NS sR27) (w0 : World) (F0 : Mem) (hF : Sz w0 F0) (x0 : Expr) (a0_2 : Sy) (n0_2 : Nat) (hb0_2 : LC x0.Kids.length n0_2) (hs0_2 : SlA Ao F0 a0_2 x0.Kids) (x1 : Expr) (a1_2 : Sy) (n1_2 : Nat) (hb1_2 : LC x1.Kids.length n1_2) (hs1_2 : SlA Ao F0 a1_2 x1.Kids) (r : Bool) (h : DX N sR27 x0 x1 = some r) :
  Calls Tryz.prog 27 ([(.agg (Ae x0 a0_2 n0_2)), (.agg (Ae x1 a1_2 n1_2))] : List Value).toArray w0 (AU w0 F0 fun F' v => v = (.bool r)) := by
 have hs0 := R7 hF
 refine Go 46 Tryz.func27 ?_
 refine Sq (Rg [0, 1, 2] ?_)
 refine Bx' 33 (Ae x0 a0_2 n0_2) hs0 (fun b21 w22 hs23 => ?_)
 refine Bx' 33 (Ae x1 a1_2 n1_2) hs23 (fun b24 w25 hs26 => ?_)
 refine Vs 1 ?_
 refine Nss ?_
 refine Sq (Rg [0, 1, 2, 3, 4, 5, 6, 7, 8, 9, 10, 11, 12, 13, 14, 15, 16, 17, 18, 19, 20] ?_)
 refine Sb (fun f w => ∃ (F1 : Mem), HS w0 F0 w F1 [(sb b24 (Ae x1 a1_2 n1_2) 33), (sb b21 (Ae x0 a0_2 n0_2) 33)] /\ R5 F0 F1 /\ FI f [] [(2, (pt b21 0)), (3, (pt b24 0)), (26, (.bool ((x0.Op != x1.Op) || ((x0.Value != x1.Value) || ((x0.Kids.length : Int) != (x1.Kids.length : Int))))))]) ?_ ?_
 ·refine Vs 1 ?_
  refine Ld hs26.at1 ?_
  refine Vs 1 ?_
  refine Ld hs26.at0 ?_
  refine Vs 2 ?_
  refine Sa (x0.Op != x1.Op) (fun hb34 => ?_) (fun hb34 => ?_)
  ·refine Ss hb34 5 ?_
   refine Pk1 hb34 ?_
   refine Vs 1 ?_
   refine Ss (rfl : true = true) 7 ?_
   refine Pk1 (rfl : true = true) ?_
   exact RY ⟨rfl, F0, hs26, (R6 _), (fJ ⟨rfl, rfl, (congrArg Value.bool (Gs hb34 rfl)), trivial⟩)⟩
  ·refine Vgs hb34 1 ?_
   refine Lg hb34 hs26.at1 ?_
   refine Vgs hb34 1 ?_
   refine Lg hb34 hs26.at0 ?_
   refine Vgs hb34 1 ?_
   refine Pk0 hb34 ?_
   refine Vs 1 ?_
   refine Sa (x0.Value != x1.Value) (fun hb35 => ?_) (fun hb35 => ?_)
   ·refine Ss hb35 7 ?_
    refine Pk1 hb35 ?_
    exact RY ⟨rfl, F0, hs26, (R6 _), (fJ ⟨rfl, rfl, (congrArg Value.bool (Cc hb34 (Gs hb35 rfl))), trivial⟩)⟩
   ·refine Vgs hb35 1 ?_
    refine Lg hb35 hs26.at1 ?_
    refine Vgs hb35 2 ?_
    refine Lg hb35 hs26.at0 ?_
    refine Vgs hb35 2 ?_
    refine Pk0 hb35 ?_
    exact RY ⟨rfl, F0, hs26, (R6 _), (fJ ⟨rfl, rfl, (congrArg Value.bool (Cc hb34 (Cc hb35 rfl))), trivial⟩)⟩
 ·rintro f w27 ⟨F1, hs28, le29, ⟨_, rfl⟩⟩
  refine Ac ?_
  refine Cd h (fun hb36 h37 => ?_) (fun hb36 h38 => ?_)
  ·refine Sq (Rg [0] ?_)
   refine Vs 1 ?_
   refine Nt ?_
   refine Rt ?_
   refine Af ?_
   obtain rfl := Aa h37
   exact Re [(.bool false)] hs28 rfl
  ·refine Sc ?_
   refine Ac ?_
   refine Sq ?_
   refine Sq (Rg [0] ?_)
   refine Vs 1 ?_
   refine Nt ?_
   obtain ⟨o39, ho40, h41⟩ := bind_some h38
   refine Se (fun f w => ∃ (s50 : Int) (F3 : Mem), o39 = .done s50 /\ HS w0 F0 w F3 [] /\ R5 F1 F3 /\ FI f [] []) ?_ ?_
   ·refine Bk ?_
    refine R4 (by kernel_rfl) (fun m f w => ∃ (s42 : Int) (F2 : Mem), Br (CR N sR27 x0 x1) m s42 = some o39 /\ HS w0 F0 w F2 [(sb b24 (Ae x1 a1_2 n1_2) 33), (sb b21 (Ae x0 a0_2 n0_2) 33)] /\ R5 F1 F2 /\ FI f [] [(2, (pt b21 0)), (3, (pt b24 0)), (5, (vi s42))]) N ⟨0, F1, ho40, hs28, (R6 _), fI⟩ ?_
    rintro m55 f w43 ⟨s42, F2, hit56, hs44, le45, ⟨_, rfl⟩⟩
    obtain ⟨m57, fl58, rfl, hb59, hnx60⟩ := A7 hit56
    refine Sq ?_
    refine Sq (Rg [0, 1, 2, 3, 4] ?_)
    refine Vs 2 ?_
    refine Ld hs44.at1 ?_
    refine Vs 2 ?_
    refine Nt ?_
    refine Cd hb59 (fun hb61 h62 => ?_) (fun hb61 h63 => ?_)
    ·refine Sc ?_
     refine Ac ?_
     refine Sq ?_
     refine Bk ?_
     refine Sq ?_
     obtain ⟨j69, hj75, h76⟩ := bind_some h62
     refine RD 12 12 [(sb b24 (Ae x1 a1_2 n1_2) 33), (sb b21 (Ae x0 a0_2 n0_2) 33)] [] hs44 (fun f w => ∃ (F4 : Mem), HS w0 F0 w F4 [(sb b24 (Ae x1 a1_2 n1_2) 33), (sb b21 (Ae x0 a0_2 n0_2) 33)] /\ R5 F2 F4 /\ FI f [] [(2, (pt b21 0)), (3, (pt b24 0)), (5, (vi s42)), (45, (.bool j69))]) (fun wd64 hw65 => ?_) ?_
     ·refine Dv [0] ?_
      refine Dl 1 (fun _ hq => (hq.1.2 1 _ _ rfl)) ?_
      refine Dv [2] ?_
      obtain ⟨x77, hx78, h80⟩ := bind_some hj75
      obtain ⟨hi79, hx78'⟩ := Ay hx78
      obtain ⟨b81, o82, C83, E84, fz85, rfl, hF87, hE88⟩ := Sh (R8 hs0_2 (le29.trans le45)) hx78'
      obtain ⟨ae89_2, ne89_2, hc90, hbe89_2, hse89_2⟩ := (AR (hE88 _ _ hx78'))
      refine Di 3 hi79 ?_
      refine Dx 4 0 (fun _ hq => hq.1.1 _ _ hF87) hc90 ?_
      refine Dv [5] ?_
      refine Dl 6 (fun _ hq => (hq.1.2 0 _ _ rfl)) ?_
      refine Dv [7] ?_
      obtain ⟨x91, hx92, h94⟩ := bind_some h80
      obtain ⟨hi93, hx92'⟩ := Ay hx92
      obtain ⟨b95, o96, C97, E98, fz99, rfl, hF101, hE102⟩ := Sh (R8 hs1_2 (le29.trans le45)) hx92'
      obtain ⟨ae103_2, ne103_2, hc104, hbe103_2, hse103_2⟩ := (AR (hE102 _ _ hx92'))
      refine Di 8 hi93 ?_
      refine Dx 9 0 (fun _ hq => hq.1.1 _ _ hF101) hc104 ?_
      refine D1 10 ?_
      obtain ⟨r105, hr106, h107⟩ := bind_some h94
      refine DCl GL hw65 (hsR27 wd64 F2 hw65.pers x77 ae89_2 ne89_2 hbe89_2 hse89_2 x91 ae103_2 ne103_2 hbe103_2 hse103_2 _ hr106) ?_
      rintro _ F5 w109 hs110 le111 rfl
      refine Dv [11] ?_
      obtain rfl := Aa h107
      exact Sm (by kernel_rfl) ⟨F5, hs110, le111, fI⟩
     ·rintro f w66 ⟨F4, hs67, le68, ⟨_, rfl⟩⟩
      refine Ac ?_
      refine Cd h76 (fun hb113 h114 => ?_) (fun hb113 h115 => ?_)
      ·refine Sq (Rg [0] ?_)
       refine Vs 1 ?_
       refine Nt ?_
       refine Rt ?_
       refine Ah ?_
       refine Af ?_
       refine Af ?_
       refine Ah ?_
       have hret := Cf h114 hnx60
       subst hret
       refine .inr ?_
       refine Af ?_
       obtain rfl := Aa h41
       exact Re [(.bool false)] hs67 rfl
      ·refine Sc ?_
       refine Ap ?_
       refine Ac ?_
       refine Rg [0, 1, 2] ?_
       refine Vs 3 ?_
       refine RY ?_
       have hn116 := A0 h115 hnx60
       exact ⟨m57, Nat.lt_succ_self _, (W64 (s42 + 1)), F4, hn116, hs67, (le45.trans le68), fI⟩
    ·refine Ex ?_
     refine AC ?_
     refine AC ?_
     refine AV rfl ?_
     have ho117 := Bd h63 hnx60
     exact .inl ⟨rfl, s42, F2, ho117, hs44.dr0.dr0, le45, fI⟩
   ·rintro f w51 ⟨s50, F3, rfl, hs52, le53, ⟨_, rfl⟩⟩
    have h118 := Cu h41
    refine Ac ?_
    refine Sq (Rg [0] ?_)
    refine Vs 1 ?_
    refine Nt ?_
    refine Rt ?_
    obtain rfl := Aa h118
    exact Re [(.bool true)] hs52 rfl
structure RB where
 q27 : Expr -> Expr -> Option Bool
def Kj (N : Nat) : Nat -> RB
 | 0 => ⟨fun _ _ => none⟩
 | k + 1 => ⟨DX N (Kj N k).q27⟩
theorem MI (N : Nat) : ∀ k, NS (Kj N k).q27
 | 0 => (by unfold NS; intros; rename_i h; cases h)
 | k + 1 => by
  have ih := MI N k
  exact @KO N (Kj N k).q27 ih
def AW (N : Nat) (x0 : Expr) (x1 : Expr) : Option Bool := (Kj N N).q27 x0 x1
theorem Le (N : Nat) (w0 : World) (F0 : Mem) (hF : Sz w0 F0) (x0 : Expr) (a0_2 : Sy) (n0_2 : Nat) (hb0_2 : LC x0.Kids.length n0_2) (hs0_2 : SlA Ao F0 a0_2 x0.Kids) (x1 : Expr) (a1_2 : Sy) (n1_2 : Nat) (hb1_2 : LC x1.Kids.length n1_2) (hs1_2 : SlA Ao F0 a1_2 x1.Kids) (r : Bool) (h : AW N x0 x1 = some r) :
  Calls Tryz.prog 27 ([(.agg #[(.int .i64 x0.Op), (.int .i64 x0.Value), (.slice a0_2 x0.Kids.length n0_2)]), (.agg #[(.int .i64 x1.Op), (.int .i64 x1.Value), (.slice a1_2 x1.Kids.length n1_2)])] : List Value).toArray w0 (AU w0 F0 fun F' v => v = (.bool r)) := (MI N N) w0 F0 hF x0 a0_2 n0_2 hb0_2 hs0_2 x1 a1_2 n1_2 hb1_2 hs1_2 r h



def Ht (M : Nat) : Nat -> Expr -> Prop
 | 0, _ => False
 | n + 1, e => e.Kids.length < M /\ e.Kids.length < 9223372036854775808 /\ ∀ x, x ∈ e.Kids -> Ht M n x
theorem Ht.succ {M : Nat} : ∀ {n : Nat} {e : Expr}, Ht M n e -> Ht M (n + 1) e
 | 0, _, h => h.elim
 | n + 1, e, ⟨h1, h2, h3⟩ => ⟨h1, h2, fun x hx => (h3 x hx).succ⟩
theorem Ht.le {M n m : Nat} {e : Expr} (h : Ht M n e) (hl : n <= m) : Ht M m e := by
 induction hl with
 | refl => exact h
 | step _ ih => exact ih.succ
theorem Ht.wide {M M' : Nat} (hM : M <= M') : ∀ {n : Nat} {e : Expr}, Ht M n e -> Ht M' n e
 | 0, _, h => h.elim
 | n + 1, e, ⟨h1, h2, h3⟩ => ⟨by omega, h2, fun x hx => (h3 x hx).wide hM⟩
section
variable {α β σ ρ : Type}
theorem LA (l : List α) (g : α -> Option β) (gs : α -> β) (f : σ -> β -> σ) {body : σ × Int -> Option (BX ρ (σ × Int))} (hg : ∀ x, x ∈ l -> g x = some (gs x))
  (hb : ∀ s i, body (s, i) = bif decide (i < (l.length : Int)) then ((idx l i).bind fun x => (g x).bind fun r => some (.next (f s r, W64 (i + 1)))) else some (.done (s, i)))
  {N : Nat} (hN : l.length < N) (hL : l.length < 9223372036854775808) (s0 : σ) : Br body N (s0, 0) = some (.done (l.foldl (fun s x => f s (gs x)) s0, (l.length : Int))) := by
 obtain ⟨o, ho, rfl⟩ := E1 (body := body) l.length (fun i s => s = ((l.take i).foldl (fun s x => f s (gs x)) s0, (i : Int))) (fun o => o = .done (l.foldl (fun s x => f s (gs x)) s0, (l.length : Int))) (by
  rintro i s hi rfl
  by_cases h : i < l.length
  ·refine .inl ⟨(f ((l.take i).foldl (fun s x => f s (gs x)) s0) (gs l[i]), ((i + 1 : Nat) : Int)), ?_, ?_, h⟩
   ·rw [hb, KW h, cond_true, CA h, Option.bind_some, hg _ (List.getElem_mem h), Option.bind_some, FB (by omega)]
   ·rw [List.take_succ_eq_append_getElem h, List.foldl_append]; rfl
  ·have : i = l.length := by omega
   subst this
   refine .inr ⟨_, ?_, ?_, rfl⟩
   ·rw [hb, L2, cond_false, List.take_length]
   ·intro s' h; cases h) l.length N 0 (s0, 0) (by omega) (by simp) hN
 exact ho
theorem FM (l : List α) (p : α -> Bool) (ret : Nat -> ρ) {body : Int -> Option (BX ρ Int)}
  (hb : ∀ (i : Nat) (h : i < l.length), body (i : Int) = bif p l[i] then some (.ret (ret i)) else some (.next (W64 ((i : Int) + 1)))) (he : body (l.length : Int) = some (.done (l.length : Int)))
  {N : Nat} (hN : l.length < N) (hL : l.length < 9223372036854775808) :
  Br body N 0 = some (bif l.any p then .ret (ret (l.findIdx p)) else .done (l.length : Int)) := by
 obtain ⟨o, ho, rfl⟩ := E1 (body := body) l.length (fun i s => s = (i : Int) /\ ∀ k (h : k < l.length), k < i -> p l[k] = false) (fun o => o = bif l.any p then .ret (ret (l.findIdx p)) else .done (l.length : Int)) (by
  rintro i s hi ⟨rfl, hk⟩
  by_cases h : i < l.length
  ·cases e : p l[i] with
   | false =>
    refine .inl ⟨_, by rw [hb i h, e, cond_false, FB (by omega)], ⟨rfl, fun k hk' hki => ?_⟩, h⟩
    by_cases hki' : k = i
    ·subst hki'; exact e
    ·exact hk k hk' (by omega)
   | true =>
    refine .inr ⟨_, by rw [hb i h, e, cond_true], fun _ h => (by cases h), ?_⟩
    have h1 : l.any p = true := List.any_eq_true.2 ⟨_, List.getElem_mem h, e⟩
    have h2 : l.findIdx p = i := by
     rw [List.findIdx_eq h]
     exact ⟨e, fun k hk' => hk k (by omega) hk'⟩
    rw [h1, cond_true, h2]
  ·have : i = l.length := by omega
   subst this
   refine .inr ⟨_, he, fun _ h => (by cases h), ?_⟩
   have h1 : l.any p = false := by
    rw [List.any_eq_false]
    intro x hx
    obtain ⟨k, hk', rfl⟩ := List.getElem_of_mem hx
    rw [hk k hk' hk']; simp
   rw [h1, cond_false]) l.length N 0 0 (by omega) ⟨rfl, fun k h hk => by omega⟩ hN
 exact ho
end
def nd (e : Expr) : Int := match e with
 | ⟨_, _, ks⟩ => ks.foldl (fun s x => W64 (s + nd x)) 1
def dp (e : Expr) : Int := match e with
 | ⟨_, _, ks⟩ => W64 (ks.foldl (fun s x => max s (dp x)) 0 + 1)
theorem QB (e : Expr) : nd e = e.Kids.foldl (fun s x => W64 (s + nd x)) 1 := by
 cases e; rw [nd]
theorem QF (e : Expr) : dp e = W64 (e.Kids.foldl (fun s x => max s (dp x)) 0 + 1) := by
 cases e; rw [dp]
section
variable {M : Nat}
theorem Od : ∀ {n k : Nat} {e : Expr}, Ht M n e -> n <= k -> (Kh M k).q92 e = some (nd e)
 | 0, _, _, h, _ => h.elim
 | n + 1, 0, _, _, h => absurd h (by omega)
 | n + 1, k + 1, e, ⟨h1, h2, h3⟩, hk => by
  show DW M (Kh M k).q92 e = _
  unfold DW
  rw [LA e.Kids (Kh M k).q92 nd (fun s r => W64 (s + r)) (fun x hx => Od (h3 x hx) (by omega)) (fun _ _ => rfl) h1 h2 1, QB]
  rfl
theorem Of : ∀ {n k : Nat} {e : Expr}, Ht M n e -> n <= k -> (Ki M k).q32 e = some (dp e)
 | 0, _, _, h, _ => h.elim
 | n + 1, 0, _, _, h => absurd h (by omega)
 | n + 1, k + 1, e, ⟨h1, h2, h3⟩, hk => by
  show DV M (Ki M k).q32 e = _
  unfold DV
  rw [LA e.Kids (Ki M k).q32 dp (fun s r => max s r) (fun x hx => Of (h3 x hx) (by omega)) (fun _ _ => rfl) h1 h2 0, QF]
  rfl
end
def kf (op : Int) : Option (Int × Int × List Int) :=
 if op = 1 then some (1000000, 1, []) else if op = 2 then some (13, 1, []) else if op = 3 then some (0, 2, [2]) else if op = 4 \/ op = 5 then some (0, 2, [2, 2])
 else if op = 6 \/ op = 7 then some (0, 2, [1, 1]) else if op = 8 \/ op = 9 \/ op = 10 then some (0, 1, [1, 1]) else if op = 11 then some (0, 1, [2, 1, 1]) else none
def RN (op v : Int) (m : List Int) : Int := match kf op with
 | none => 0
 | some (most, own, l) => if 0 <= v /\ v <= most /\ m = l then own else 0
def kd (e : Expr) : Int := match e with
 | ⟨op, v, ks⟩ => RN op v (ks.map fun x => kd x)
theorem Ly (e : Expr) : kd e = match kf e.Op with
  | none => 0
  | some (most, own, l) => if 0 <= e.Value /\ e.Value <= most /\ e.Kids.map kd = l then own else 0 := by
 cases e; rw [kd]; rfl
theorem Po (N : Nat) (op : Int) : Ew N op = some (match kf op with | none => ({ most_ := 0, own_ := 0, kids_ := [] }, false) | some (m, o, l) => ({ most_ := m, own_ := o, kids_ := l }, true)) := by
 unfold Ew kf
 by_cases h1 : op = 1
 ·subst h1; rfl
 by_cases h2 : op = 2
 ·subst h2; rfl
 by_cases h3 : op = 3
 ·subst h3; rfl
 by_cases h4 : op = 4
 ·subst h4; rfl
 by_cases h5 : op = 5
 ·subst h5; rfl
 by_cases h6 : op = 6
 ·subst h6; rfl
 by_cases h7 : op = 7
 ·subst h7; rfl
 by_cases h8 : op = 8
 ·subst h8; rfl
 by_cases h9 : op = 9
 ·subst h9; rfl
 by_cases h10 : op = 10
 ·subst h10; rfl
 by_cases h11 : op = 11
 ·subst h11; rfl
 have b : ∀ z : Int, op ≠ z -> (op == z) = false := fun z hz => by simpa using hz
 simp only [b _ h1, b _ h2, b _ h3, b _ h4, b _ h5, b _ h6, b _ h7, b _ h8, b _ h9, b _ h10, b _ h11, cond_false, if_neg h1, if_neg h2, if_neg h3, h4, h5, h6, h7, h8, h9, h10, h11, or_self, if_false]
theorem Nz {α : Type} {l : List α} {f : α -> Int} {m : List Int} (hl : l.length = m.length) : ((List.range l.length).any fun i => decide ((l.map f)[i]? ≠ m[i]?)) = decide (l.map f ≠ m) := by
 rw [Bool.eq_iff_iff]
 simp only [List.any_eq_true, List.mem_range, decide_eq_true_eq]
 constructor
 ·rintro ⟨i, _, h⟩ e; exact h (by rw [e])
 ·intro h
  apply Classical.byContradiction
  intro hn
  apply h
  apply List.ext_getElem?
  intro i
  by_cases hi : i < l.length
  ·exact Classical.byContradiction fun hne => hn ⟨i, hi, hne⟩
  ·rw [List.getElem?_eq_none (by simp; omega), List.getElem?_eq_none (by omega)]
section
variable {M : Nat}
theorem MQ : ∀ {n k : Nat} {e : Expr}, Ht M n e -> n <= k -> (HC M k).q113 e = some (kd e)
 | 0, _, _, h, _ => h.elim
 | n + 1, 0, _, _, h => absurd h (by omega)
 | n + 1, k + 1, e, ⟨h1, h2, h3⟩, hk => by
  show Dz M (HC M k).q113 e = _
  unfold Dz
  rw [Po, Option.bind_some, Ly]
  cases hf : kf e.Op with
  | none => simp only [Bool.not_false, Bool.true_or, cond_true]
  | some x =>
   obtain ⟨m, o, l⟩ := x
   simp only [Bool.not_true, Bool.false_or]
   by_cases hv : 0 <= e.Value /\ e.Value <= m /\ e.Kids.length = l.length
   ·obtain ⟨v1, v2, v3⟩ := hv
    have e1 : (decide (e.Value < 0) || (decide (e.Value > m) || (((e.Kids.length : Int)) != ((l.length : Int))))) = false := by
     simp; exact ⟨by omega, by omega, by omega⟩
    rw [e1, cond_false]
    have hit := FM (List.range e.Kids.length) (fun i => decide ((e.Kids.map kd)[i]? ≠ l[i]?)) (fun _ => (0 : Int)) (body := CC M (HC M k).q113 e ({ most_ := m, own_ := o, kids_ := l }, true)) (N := M)
     (by
      intro i hi
      simp only [List.length_range] at hi
      unfold CC
      rw [KW hi, cond_true, CA hi, Option.bind_some]
      simp only
      rw [CA (show i < l.length by omega), Option.bind_some, MQ (h3 _ (List.getElem_mem hi)) (by omega)]
      simp only [Option.bind_some, List.getElem_range]
      congr 1
      rw [List.getElem?_map, List.getElem?_eq_getElem hi, List.getElem?_eq_getElem (show i < l.length by omega)]
      simp [bne, BEq.beq])
     (by
      unfold CC
      rw [List.length_range, L2, cond_false]) (by rw [List.length_range]; exact h1) (by rw [List.length_range]; exact h2)
    rw [hit, Nz v3]
    by_cases hm : e.Kids.map kd = l
    ·simp [hm, v1, v2, BX.k]
    ·simp [hm, BX.k]
   ·have e1 : (decide (e.Value < 0) || (decide (e.Value > m) || (((e.Kids.length : Int)) != ((l.length : Int))))) = true := by
     simp; omega
    rw [e1, cond_true, if_neg]
    rintro ⟨a, b, c⟩
    exact hv ⟨a, b, by rw [<- c, List.length_map]⟩
end
def Ax (N : Nat) (x0 : (List Expr)) (x1 : (List Expr)) (x2 : (Expr -> Expr -> Option Bool)) : Int -> Option (BX Bool Int) := fun s27 =>
 (bif (decide (s27 < (x0.length : Int))) then ((idx x0 s27).bind fun x51 => ((idx x1 s27).bind fun x70 => ((x2 x51 x70).bind fun r89 => (bif (!r89) then some (.ret false) else some (.next (W64 (s27 + 1))))))) else some (.done s27))
def AN (N : Nat) (x0 : (List Expr)) (x1 : (List Expr)) (x2 : (Expr -> Expr -> Option Bool)) : Option Bool :=
 (bif ((x0.length : Int) != (x1.length : Int)) then some false else ((Br (Ax N x0 x1 x2) N 0).bind fun o => o.k (fun r => some r) (fun s37 => some true)))
theorem BJ : An Tryz.prog 214 := fun _ _ => by kernel_rfl
theorem BN (N : Nat) (w0 : World) (F0 : Mem) (hF : Sz w0 F0) (x0 : (List Expr)) (a0_0 : Sy) (n0_0 : Nat) (hb0_0 : LC x0.length n0_0) (hs0_0 : SlA Ao F0 a0_0 x0) (x1 : (List Expr)) (a1_0 : Sy) (n1_0 : Nat) (hb1_0 : LC x1.length n1_0) (hs1_0 : SlA Ao F0 a1_0 x1) (gx2 : FuncId) (fx2 kx2 : List Value) (x2 : Expr -> Expr -> Option Bool) (hox2 : An Tryz.prog gx2) (hpx2 : Qu F0 gx2 fx2 kx2 x2) (r : Bool) (h : AN N x0 x1 x2 = some r) :
  Calls Tryz.prog 214 ([(.slice a0_0 x0.length n0_0), (.slice a1_0 x1.length n1_0), (.func (.func gx2) fx2.toArray kx2.toArray)] : List Value).toArray w0 (AU w0 F0 fun F' v => v = (.bool r)) := by
 have hs0 := R7 hF
 refine Go 32 Tryz.func214 ?_
 refine Sq (Rg [0] ?_)
 refine Vs 1 ?_
 refine Nss ?_
 refine Sq (Rg [0, 1, 2, 3, 4] ?_)
 refine Vs 5 ?_
 refine Nt ?_
 refine Cd h (fun hb21 h22 => ?_) (fun hb21 h23 => ?_)
 ·refine Sq (Rg [0] ?_)
  refine Vs 1 ?_
  refine Nt ?_
  refine Rt ?_
  refine Af ?_
  obtain rfl := Aa h22
  exact Re [(.bool false)] hs0 rfl
 ·refine Sc ?_
  refine Ac ?_
  refine Sq ?_
  refine Sq (Rg [0, 1, 2] ?_)
  refine Vs 3 ?_
  refine Nt ?_
  obtain ⟨o24, ho25, h26⟩ := bind_some h23
  refine Se (fun f w => ∃ (s37 : Int) (F2 : Mem), o24 = .done s37 /\ HS w0 F0 w F2 [] /\ R5 F0 F2 /\ FI f [] []) ?_ ?_
  ·refine Bk ?_
   refine R4 (by kernel_rfl) (fun m f w => ∃ (s27 : Int) (F1 : Mem), Br (Ax N x0 x1 x2) m s27 = some o24 /\ HS w0 F0 w F1 [] /\ R5 F0 F1 /\ FI f [] [(1, (.slice a1_0 x1.length n1_0)), (2, (.func (.func gx2) fx2.toArray kx2.toArray)), (15, (.slice a0_0 x0.length n0_0)), (16, (vi (x0.length : Int))), (17, (vi s27))]) N ⟨0, F0, ho25, hs0, (R6 _), fI⟩ ?_
   rintro m42 f w28 ⟨s27, F1, hit43, hs29, le30, ⟨_, rfl⟩⟩
   obtain ⟨m44, fl45, rfl, hb46, hnx47⟩ := A7 hit43
   refine Sq (Rg [0] ?_)
   refine Vs 1 ?_
   refine Nss ?_
   refine Cd hb46 (fun hb48 h49 => ?_) (fun hb48 h50 => ?_)
   ·refine Sc ?_
    refine Ac ?_
    refine Sq ?_
    refine Bk ?_
    refine Sq (Rg [0, 1, 2, 3, 4, 5] ?_)
    refine Vs 1 ?_
    obtain ⟨x51, hx52, h54⟩ := bind_some h49
    obtain ⟨hi53, hx52'⟩ := Ay hx52
    obtain ⟨b55, o56, C57, E58, fz59, rfl, hF61, hE62⟩ := Sh (R8 hs0_0 le30) hx52'
    obtain ⟨ae63_2, ne63_2, hc64, hbe63_2, hse63_2⟩ := (AR (hE62 _ _ hx52'))
    refine Ix hi53 ?_
    refine Lx 0 (hs29.pers _ _ hF61) hc64 ?_
    refine Al' 33 #[(vi 0), (vi 0), (.slice none ([] : List Expr).length 0)] hs29 (fun b65 w66 hs67 => ?_)
    refine Vs 1 ?_
    refine St0 (Ae x51 ae63_2 ne63_2) hs67 (fun w68 hs69 => ?_)
    refine Nss (Rg [0, 1, 2, 3, 4, 5] ?_)
    refine Vs 2 ?_
    obtain ⟨x70, hx71, h73⟩ := bind_some h54
    obtain ⟨hi72, hx71'⟩ := Ay hx71
    obtain ⟨b74, o75, C76, E77, fz78, rfl, hF80, hE81⟩ := Sh (R8 hs1_0 le30) hx71'
    obtain ⟨ae82_2, ne82_2, hc83, hbe82_2, hse82_2⟩ := (AR (hE81 _ _ hx71'))
    refine Ix hi72 ?_
    refine Lx 0 (hs69.pers _ _ hF80) hc83 ?_
    refine Al' 33 #[(vi 0), (vi 0), (.slice none ([] : List Expr).length 0)] hs69 (fun b84 w85 hs86 => ?_)
    refine St0 (Ae x70 ae82_2 ne82_2) hs86 (fun w87 hs88 => ?_)
    refine Nss (Rg [0, 1, 2, 3, 4] ?_)
    refine Vs 1 ?_
    refine Ld hs88.at1 ?_
    refine Ld hs88.at0 ?_
    obtain ⟨r89, hr90, h91⟩ := bind_some h73
    refine Cq hox2 hs88 (hpx2 w87 F1 x51 ae63_2 ne63_2 hbe63_2 hse63_2 x70 ae82_2 ne82_2 hbe82_2 hse82_2 _ le30 hs88.pers hr90) ?_
    rintro _ F3 w93 hs94 le95 rfl
    refine Vs 1 ?_
    refine Nt ?_
    refine Cd h91 (fun hb97 h98 => ?_) (fun hb97 h99 => ?_)
    ·refine Sq (Rg [0] ?_)
     refine Vs 1 ?_
     refine Nt ?_
     refine Rt ?_
     refine Ah ?_
     refine Af ?_
     refine Af ?_
     refine Ah ?_
     have hret := Cf h98 hnx47
     subst hret
     refine .inr ?_
     refine Af ?_
     obtain rfl := Aa h26
     exact Re [(.bool false)] hs94 rfl
    ·refine Sc ?_
     refine Ap ?_
     refine Ac ?_
     refine Rg [0, 1] ?_
     refine Vs 2 ?_
     refine RY ?_
     have hn100 := A0 h99 hnx47
     exact ⟨m44, Nat.lt_succ_self _, (W64 (s27 + 1)), F3, hn100, hs94.dr0.dr0, (le30.trans le95), fI⟩
   ·refine Ex ?_
    refine AC ?_
    refine AC ?_
    refine AV rfl ?_
    have ho101 := Bd h50 hnx47
    exact .inl ⟨rfl, s27, F1, ho101, hs29, le30, fI⟩
  ·rintro f w38 ⟨s37, F2, rfl, hs39, le40, ⟨_, rfl⟩⟩
   have h102 := Cu h26
   refine Ac ?_
   refine Sq (Rg [0] ?_)
   refine Vs 1 ?_
   refine Nt ?_
   refine Rt ?_
   obtain rfl := Aa h102
   exact Re [(.bool true)] hs39 rfl
def Ml (sR189 : Expr -> Expr -> Option Bool) : Prop := ∀ (w0 : World) (F0 : Mem) (hF : Sz w0 F0) (x0 : Expr) (a0_2 : Sy) (n0_2 : Nat) (hb0_2 : LC x0.Kids.length n0_2) (hs0_2 : SlA Ao F0 a0_2 x0.Kids) (x1 : Expr) (a1_2 : Sy) (n1_2 : Nat) (hb1_2 : LC x1.Kids.length n1_2) (hs1_2 : SlA Ao F0 a1_2 x1.Kids) (r : Bool), sR189 x0 x1 = some r -> Calls Tryz.prog 189 ([(.agg #[(.int .i64 x0.Op), (.int .i64 x0.Value), (.slice a0_2 x0.Kids.length n0_2)]), (.agg #[(.int .i64 x1.Op), (.int .i64 x1.Value), (.slice a1_2 x1.Kids.length n1_2)])] : List Value).toArray w0 (AU w0 F0 fun F' v => v = (.bool r))
theorem Cl : An Tryz.prog 189 := fun _ _ => by kernel_rfl
def Eu (N : Nat) (sR189 : Expr -> Expr -> Option Bool) (x0 : Expr) (x1 : Expr) : Option Bool :=
 ((bif (x0.Op == x1.Op) then (bif (x0.Value == x1.Value) then ((AN N x0.Kids x1.Kids (fun y0 y1 => sR189 y0 y1)).bind fun r41 => some r41) else some false) else some false).bind fun j30 => some j30)
theorem Li (N : Nat) (sR189 : Expr -> Expr -> Option Bool) (hsR189 : Ml sR189) (w0 : World) (F0 : Mem) (hF : Sz w0 F0) (x0 : Expr) (a0_2 : Sy) (n0_2 : Nat) (hb0_2 : LC x0.Kids.length n0_2) (hs0_2 : SlA Ao F0 a0_2 x0.Kids) (x1 : Expr) (a1_2 : Sy) (n1_2 : Nat) (hb1_2 : LC x1.Kids.length n1_2) (hs1_2 : SlA Ao F0 a1_2 x1.Kids) (r : Bool) (h : Eu N sR189 x0 x1 = some r) :
  Calls Tryz.prog 189 ([(.agg (Ae x0 a0_2 n0_2)), (.agg (Ae x1 a1_2 n1_2))] : List Value).toArray w0 (AU w0 F0 fun F' v => v = (.bool r)) := by
 have hs0 := R7 hF
 refine Go 24 Tryz.func189 ?_
 refine Sq (Rg [0, 1, 2] ?_)
 refine Bx' 33 (Ae x0 a0_2 n0_2) hs0 (fun b21 w22 hs23 => ?_)
 refine Bx' 33 (Ae x1 a1_2 n1_2) hs23 (fun b24 w25 hs26 => ?_)
 refine Vs 1 ?_
 refine Nss (Rg [0, 1, 2, 3, 4, 5, 6, 7, 8, 9, 10, 11, 12, 13, 14, 15, 16, 17, 18, 19] ?_)
 obtain ⟨j30, hj33, h34⟩ := bind_some h
 refine Sb (fun f w => ∃ (F1 : Mem), HS w0 F0 w F1 [] /\ R5 F0 F1 /\ FI f [] [(4, (.bool j30))]) ?_ ?_
 ·refine Vs 1 ?_
  refine Ld hs26.at1 ?_
  refine Vs 1 ?_
  refine Ld hs26.at0 ?_
  refine Vs 2 ?_
  refine Sp hj33 (fun hb35 h36 => ?_) (fun hb35 h37 => ?_)
  ·refine Vgs hb35 1 ?_
   refine Lg hb35 hs26.at1 ?_
   refine Vgs hb35 1 ?_
   refine Lg hb35 hs26.at0 ?_
   refine Vgs hb35 1 ?_
   refine Pk1 hb35 ?_
   refine Vs 1 ?_
   refine Sp h36 (fun hb38 h39 => ?_) (fun hb38 h40 => ?_)
   ·refine Vgs hb38 1 ?_
    refine Lg hb38 hs26.at1 ?_
    refine Vgs hb38 1 ?_
    refine Lg hb38 hs26.at0 ?_
    obtain ⟨r41, hr42, h43⟩ := bind_some h39
    refine Cg hb38 BJ hs26 (BN N w25 F0 hs26.pers x0.Kids a0_2 n0_2 hb0_2 hs0_2 x1.Kids a1_2 n1_2 hb1_2 hs1_2 189 [] [] (fun y0 y1 => sR189 y0 y1) Cl (fun w1 F1 y0 ay0_2 ny0_2 hby0_2 hsy0_2 y1 ay1_2 ny1_2 hby1_2 hsy1_2 r le1 pe1 hr1 => hsR189 w1 F1 pe1  y0 ay0_2 ny0_2 hby0_2 hsy0_2 y1 ay1_2 ny1_2 hby1_2 hsy1_2  r hr1) _ hr42) ?_
    rintro _ F2 w45 hs46 le47 rfl
    refine Pk1 hb38 ?_
    refine Vs 1 ?_
    obtain rfl := Aa h43
    exact RY ⟨rfl, F2, hs46.dr0.dr0, le47, fI⟩
   ·refine Ss hb38 5 ?_
    refine Pk0 hb38 ?_
    refine Vs 1 ?_
    obtain rfl := Aa h40
    exact RY ⟨rfl, F0, hs26.dr0.dr0, (R6 _), fI⟩
  ·refine Ss hb35 5 ?_
   refine Pk0 hb35 ?_
   refine Vs 1 ?_
   refine Ss (rfl : false = false) 5 ?_
   refine Pk0 (rfl : false = false) ?_
   refine Vs 1 ?_
   obtain rfl := Aa h37
   exact RY ⟨rfl, F0, hs26.dr0.dr0, (R6 _), fI⟩
 ·rintro f w27 ⟨F1, hs28, le29, ⟨_, rfl⟩⟩
  refine Ac ?_
  refine Rt ?_
  obtain rfl := Aa h34
  exact Re [(.bool j30)] hs28 rfl
structure QZ where
 q189 : Expr -> Expr -> Option Bool
def Gq (N : Nat) : Nat -> QZ
 | 0 => ⟨fun _ _ => none⟩
 | k + 1 => ⟨Eu N (Gq N k).q189⟩
theorem Ls (N : Nat) : ∀ k, Ml (Gq N k).q189
 | 0 => (by unfold Ml; intros; rename_i h; cases h)
 | k + 1 => by
  have ih := Ls N k
  exact @Li N (Gq N k).q189 ih
def CN (N : Nat) (x0 : Expr) (x1 : Expr) : Option Bool := (Gq N N).q189 x0 x1
theorem C5 (N : Nat) (w0 : World) (F0 : Mem) (hF : Sz w0 F0) (x0 : Expr) (a0_2 : Sy) (n0_2 : Nat) (hb0_2 : LC x0.Kids.length n0_2) (hs0_2 : SlA Ao F0 a0_2 x0.Kids) (x1 : Expr) (a1_2 : Sy) (n1_2 : Nat) (hb1_2 : LC x1.Kids.length n1_2) (hs1_2 : SlA Ao F0 a1_2 x1.Kids) (r : Bool) (h : CN N x0 x1 = some r) :
  Calls Tryz.prog 189 ([(.agg #[(.int .i64 x0.Op), (.int .i64 x0.Value), (.slice a0_2 x0.Kids.length n0_2)]), (.agg #[(.int .i64 x1.Op), (.int .i64 x1.Value), (.slice a1_2 x1.Kids.length n1_2)])] : List Value).toArray w0 (AU w0 F0 fun F' v => v = (.bool r)) := (Ls N N) w0 F0 hF x0 a0_2 n0_2 hb0_2 hs0_2 x1 a1_2 n1_2 hb1_2 hs1_2 r h
def CM (N : Nat) (x0 : Expr) : Option Bool :=
 (((CZ N x0).bind fun r32 => (bif (r32 != 0) then ((Do N x0).bind fun r43 => some (decide (r43 <= 32))) else some false)).bind fun j27 => some j27)
theorem DB : An Tryz.prog 93 := fun _ _ => by kernel_rfl
theorem D0 (N : Nat) (w0 : World) (F0 : Mem) (hF : Sz w0 F0) (x0 : Expr) (a0_2 : Sy) (n0_2 : Nat) (hb0_2 : LC x0.Kids.length n0_2) (hs0_2 : SlA Ao F0 a0_2 x0.Kids) (r : Bool) (h : CM N x0 = some r) :
  Calls Tryz.prog 93 ([(.agg (Ae x0 a0_2 n0_2))] : List Value).toArray w0 (AU w0 F0 fun F' v => v = (.bool r)) := by
 have hs0 := R7 hF
 refine Go 11 Tryz.func93 ?_
 refine Sq (Rg [0, 1] ?_)
 refine Bx' 33 (Ae x0 a0_2 n0_2) hs0 (fun b21 w22 hs23 => ?_)
 refine Vs 1 ?_
 refine Nss (Rg [0, 1, 2, 3, 4, 5, 6, 7, 8] ?_)
 obtain ⟨j27, hj30, h31⟩ := bind_some h
 refine Sb (fun f w => ∃ (F1 : Mem), HS w0 F0 w F1 [] /\ R5 F0 F1 /\ FI f [] [(2, (.bool j27))]) ?_ ?_
 ·refine Ld hs23.at0 ?_
  obtain ⟨r32, hr33, h34⟩ := bind_some hj30
  refine Cl' CF hs23 (DD N w22 F0 hs23.pers x0 a0_2 n0_2 hb0_2 hs0_2 _ hr33) ?_
  rintro _ F2 w36 hs37 le38 rfl
  refine Vs 2 ?_
  refine Sp h34 (fun hb40 h41 => ?_) (fun hb40 h42 => ?_)
  ·refine Lg hb40 hs37.at0 ?_
   obtain ⟨r43, hr44, h45⟩ := bind_some h41
   refine Cg hb40 CV hs37 (D2 N w36 F2 hs37.pers x0 a0_2 n0_2 hb0_2 (R8 hs0_2 le38) _ hr44) ?_
   rintro _ F3 w47 hs48 le49 rfl
   refine Vgs hb40 1 ?_
   refine Pk1 hb40 ?_
   refine Vs 1 ?_
   obtain rfl := Aa h45
   exact RY ⟨rfl, F3, hs48.dr0, (le38.trans le49), fI⟩
  ·refine Ss hb40 3 ?_
   refine Pk0 hb40 ?_
   refine Vs 1 ?_
   obtain rfl := Aa h42
   exact RY ⟨rfl, F2, hs37.dr0, le38, fI⟩
 ·rintro f w24 ⟨F1, hs25, le26, ⟨_, rfl⟩⟩
  refine Ac ?_
  refine Rt ?_
  obtain rfl := Aa h31
  exact Re [(.bool j27)] hs25 rfl

def HR (N : Nat) (x0 : Expr) (x1 : Int) : Option Bool :=
 (((CM N x0).bind fun r32 => (bif r32 then ((CZ N x0).bind fun r43 => some (r43 == x1)) else some false)).bind fun j27 => some j27)
theorem GH : An Tryz.prog 124 := fun _ _ => by kernel_rfl
theorem HH (N : Nat) (w0 : World) (F0 : Mem) (hF : Sz w0 F0) (x0 : Expr) (a0_2 : Sy) (n0_2 : Nat) (hb0_2 : LC x0.Kids.length n0_2) (hs0_2 : SlA Ao F0 a0_2 x0.Kids) (x1 : Int) (r : Bool) (h : HR N x0 x1 = some r) :
  Calls Tryz.prog 124 ([(.agg (Ae x0 a0_2 n0_2)), (vi x1)] : List Value).toArray w0 (AU w0 F0 fun F' v => v = (.bool r)) := by
 have hs0 := R7 hF
 refine Go 13 Tryz.func124 ?_
 refine Sq (Rg [0, 1] ?_)
 refine Bx' 33 (Ae x0 a0_2 n0_2) hs0 (fun b21 w22 hs23 => ?_)
 refine Vs 1 ?_
 refine Nss (Rg [0, 1, 2, 3, 4, 5, 6, 7, 8] ?_)
 obtain ⟨j27, hj30, h31⟩ := bind_some h
 refine Sb (fun f w => ∃ (F1 : Mem), HS w0 F0 w F1 [] /\ R5 F0 F1 /\ FI f [] [(4, (.bool j27))]) ?_ ?_
 ·refine Ld hs23.at0 ?_
  obtain ⟨r32, hr33, h34⟩ := bind_some hj30
  refine Cl' DB hs23 (D0 N w22 F0 hs23.pers x0 a0_2 n0_2 hb0_2 hs0_2 _ hr33) ?_
  rintro _ F2 w36 hs37 le38 rfl
  refine Vs 1 ?_
  refine Sp h34 (fun hb40 h41 => ?_) (fun hb40 h42 => ?_)
  ·refine Lg hb40 hs37.at0 ?_
   obtain ⟨r43, hr44, h45⟩ := bind_some h41
   refine Cg hb40 CF hs37 (DD N w36 F2 hs37.pers x0 a0_2 n0_2 hb0_2 (R8 hs0_2 le38) _ hr44) ?_
   rintro _ F3 w47 hs48 le49 rfl
   refine Vgs hb40 2 ?_
   refine Pk1 hb40 ?_
   refine Vs 1 ?_
   obtain rfl := Aa h45
   exact RY ⟨rfl, F3, hs48.dr0, (le38.trans le49), fI⟩
  ·refine Ss hb40 4 ?_
   refine Pk0 hb40 ?_
   refine Vs 1 ?_
   obtain rfl := Aa h42
   exact RY ⟨rfl, F2, hs37.dr0, le38, fI⟩
 ·rintro f w24 ⟨F1, hs25, le26, ⟨_, rfl⟩⟩
  refine Ac ?_
  refine Rt ?_
  obtain rfl := Aa h31
  exact Re [(.bool j27)] hs25 rfl

def EW (N : Nat) (x0 : Clause) : Option Bool :=
 (((HR N x0.When 2).bind fun r32 => (bif r32 then ((HR N x0.Then 1).bind fun r43 => some r43) else some false)).bind fun j27 => some j27)
theorem Gz : An Tryz.prog 123 := fun _ _ => by kernel_rfl
theorem G8 (N : Nat) (w0 : World) (F0 : Mem) (hF : Sz w0 F0) (x0 : Clause) (a0_2 : Sy) (n0_2 : Nat) (hb0_2 : LC x0.When.Kids.length n0_2) (hs0_2 : SlA Ao F0 a0_2 x0.When.Kids) (a0_5 : Sy) (n0_5 : Nat) (hb0_5 : LC x0.Then.Kids.length n0_5) (hs0_5 : SlA Ao F0 a0_5 x0.Then.Kids) (r : Bool) (h : EW N x0 = some r) :
  Calls Tryz.prog 123 ([(.agg (H3 x0 a0_2 n0_2 a0_5 n0_5))] : List Value).toArray w0 (AU w0 F0 fun F' v => v = (.bool r)) := by
 have hs0 := R7 hF
 refine Go 11 Tryz.func123 ?_
 refine Sq (Rg [0, 1] ?_)
 refine Bx' 56 (H3 x0 a0_2 n0_2 a0_5 n0_5) hs0 (fun b21 w22 hs23 => ?_)
 refine Vs 1 ?_
 refine Nss (Rg [0, 1, 2, 3, 4, 5, 6, 7, 8] ?_)
 obtain ⟨j27, hj30, h31⟩ := bind_some h
 refine Sb (fun f w => ∃ (F1 : Mem), HS w0 F0 w F1 [] /\ R5 F0 F1 /\ FI f [] [(2, (.bool j27))]) ?_ ?_
 ·refine Vs 1 ?_
  refine Ld hs23.at0 ?_
  obtain ⟨r32, hr33, h34⟩ := bind_some hj30
  refine Cl' GH hs23 (HH N w22 F0 hs23.pers x0.When a0_2 n0_2 hb0_2 hs0_2 2 _ hr33) ?_
  rintro _ F2 w36 hs37 le38 rfl
  refine Vs 1 ?_
  refine Sp h34 (fun hb40 h41 => ?_) (fun hb40 h42 => ?_)
  ·refine Vgs hb40 1 ?_
   refine Lg hb40 hs37.at0 ?_
   obtain ⟨r43, hr44, h45⟩ := bind_some h41
   refine Cg hb40 GH hs37 (HH N w36 F2 hs37.pers x0.Then a0_5 n0_5 hb0_5 (R8 hs0_5 le38) 1 _ hr44) ?_
   rintro _ F3 w47 hs48 le49 rfl
   refine Pk1 hb40 ?_
   refine Vs 1 ?_
   obtain rfl := Aa h45
   exact RY ⟨rfl, F3, hs48.dr0, (le38.trans le49), fI⟩
  ·refine Ss hb40 3 ?_
   refine Pk0 hb40 ?_
   refine Vs 1 ?_
   obtain rfl := Aa h42
   exact RY ⟨rfl, F2, hs37.dr0, le38, fI⟩
 ·rintro f w24 ⟨F1, hs25, le26, ⟨_, rfl⟩⟩
  refine Ac ?_
  refine Rt ?_
  obtain rfl := Aa h31
  exact Re [(.bool j27)] hs25 rfl

section
variable {M : Nat}
theorem ML {a b : Nat} : ((a : Int) != (b : Int)) = decide (a ≠ b) := by
 by_cases h : a = b
 ·subst h; simp
 ·simp [h]; omega
end
def Dp (N : Nat) (x0 : Expr) : Option Int :=
 ((Gn N x0).bind fun r24 => some r24)
theorem EM : An Tryz.prog 28 := fun _ _ => by kernel_rfl
theorem Fh (N : Nat) (w0 : World) (F0 : Mem) (hF : Sz w0 F0) (x0 : Expr) (a0_2 : Sy) (n0_2 : Nat) (hb0_2 : LC x0.Kids.length n0_2) (hs0_2 : SlA Ao F0 a0_2 x0.Kids) (r : Int) (h : Dp N x0 = some r) :
  Calls Tryz.prog 28 ([(.agg (Ae x0 a0_2 n0_2))] : List Value).toArray w0 (AU w0 F0 fun F' v => v = (vi r)) := by
 have hs0 := R7 hF
 refine Go 5 Tryz.func28 ?_
 refine Sq (Rg [0, 1] ?_)
 refine Bx' 33 (Ae x0 a0_2 n0_2) hs0 (fun b21 w22 hs23 => ?_)
 refine Vs 1 ?_
 refine Nss (Rg [0, 1, 2] ?_)
 refine Ld hs23.at0 ?_
 obtain ⟨r24, hr25, h26⟩ := bind_some h
 refine Cl' GK hs23 (Lb N w22 F0 hs23.pers x0 a0_2 n0_2 hb0_2 hs0_2 _ hr25) ?_
 rintro _ F1 w28 hs29 le30 rfl
 refine Vs 1 ?_
 refine Nt ?_
 refine Rt ?_
 obtain rfl := Aa h26
 exact Re [(vi r24)] hs29 rfl
theorem D6 {a b : Expr} (h1 : a.Op = b.Op) (h2 : a.Value = b.Value) (h3 : a.Kids = b.Kids) : a = b := by
 obtain ⟨_, _, _⟩ := a; obtain ⟨_, _, _⟩ := b; simp only at h1 h2 h3; subst h1 h2 h3; rfl
noncomputable def eqv (a b : Expr) : Bool := @decide (a = b) (Classical.propDecidable _)
theorem A2 {a b : Expr} : eqv a b = true ↔ a = b := by unfold eqv; simp
theorem Dq {a b : Expr} : eqv a b = false ↔ a ≠ b := by unfold eqv; simp
theorem Gw (a : Expr) : eqv a a = true := A2.2 rfl
theorem J3 {l m : List Expr} (h : l.length = m.length) : ((List.range l.length).any fun i => !((l[i]?.bind fun x => m[i]?.map fun y => eqv x y) == some true)) = false ↔ l = m := by
 constructor
 ·intro hn
  apply List.ext_getElem h
  intro i h1 h2
  rw [List.any_eq_false] at hn
  have := hn i (by simpa using h1)
  rw [List.getElem?_eq_getElem h1, List.getElem?_eq_getElem h2] at this
  simpa [A2] using this
 ·rintro rfl
  rw [List.any_eq_false]
  intro i hi
  rw [List.getElem?_eq_getElem (by simpa using hi)]
  simp [Gw]
section
variable {M : Nat}
theorem Oe : ∀ {n k : Nat} {a b : Expr}, Ht M n a -> n <= k -> (Kj M k).q27 a b = some (eqv a b)
 | 0, _, _, _, h, _ => h.elim
 | n + 1, 0, _, _, _, h => absurd h (by omega)
 | n + 1, k + 1, a, b, ⟨h1, h2, h3⟩, hk => by
  show DX M (Kj M k).q27 a b = _
  unfold DX
  by_cases hc : a.Op = b.Op /\ a.Value = b.Value /\ a.Kids.length = b.Kids.length
  ·obtain ⟨c1, c2, c3⟩ := hc
   have : ((a.Op != b.Op) || ((a.Value != b.Value) || ((a.Kids.length : Int) != (b.Kids.length : Int)))) = false := by simp [c1, c2, c3]
   rw [this, cond_false]
   have hit := FM (List.range a.Kids.length) (fun i => !((a.Kids[i]?.bind fun x => b.Kids[i]?.map fun y => eqv x y) == some true)) (fun _ => false) (body := CR M (Kj M k).q27 a b) (N := M)
    (by
     intro i hi
     simp only [List.length_range] at hi
     unfold CR
     rw [KW hi, cond_true, CA hi, Option.bind_some, CA (show i < b.Kids.length by omega), Option.bind_some, Oe (h3 _ (List.getElem_mem hi)) (by omega)]
     simp only [Option.bind_some, List.getElem_range]
     rw [List.getElem?_eq_getElem hi, List.getElem?_eq_getElem (show i < b.Kids.length by omega)]
     simp only [Option.bind_some, Option.map_some]
     cases eqv a.Kids[i] b.Kids[i] <;> rfl)
    (by unfold CR; rw [List.length_range, L2, cond_false]) (by rw [List.length_range]; exact h1) (by rw [List.length_range]; exact h2)
   rw [hit]
   cases ha : (List.range a.Kids.length).any fun i => !((a.Kids[i]?.bind fun x => b.Kids[i]?.map fun y => eqv x y) == some true) with
   | false =>
    have := (J3 c3).1 ha
    have : eqv a b = true := A2.2 (D6 c1 c2 this)
    rw [this]; rfl
   | true =>
    have : eqv a b = false := Dq.2 (by
     rintro rfl
     have := (J3 (l := a.Kids) (m := a.Kids) rfl).2 rfl
     rw [ha] at this; cases this)
    rw [this]; rfl
  ·have : ((a.Op != b.Op) || ((a.Value != b.Value) || ((a.Kids.length : Int) != (b.Kids.length : Int)))) = true := by
    rw [ML]
    apply Classical.byContradiction
    intro hn
    rw [Bool.not_eq_true, Bool.or_eq_false_iff, Bool.or_eq_false_iff] at hn
    simp at hn
    exact hc hn
   rw [this, cond_true]
   have : eqv a b = false := Dq.2 (by rintro rfl; exact hc ⟨rfl, rfl, rfl⟩)
   rw [this]
theorem Ps : ∀ {n k : Nat} {a b : Expr}, Ht M n a -> n <= k -> (Gq M k).q189 a b = some (eqv a b)
 | 0, _, _, _, h, _ => h.elim
 | n + 1, 0, _, _, _, h => absurd h (by omega)
 | n + 1, k + 1, a, b, ⟨h1, h2, h3⟩, hk => by
  show Eu M (Gq M k).q189 a b = _
  unfold Eu AN
  by_cases o1 : a.Op = b.Op
  ·by_cases o2 : a.Value = b.Value
   ·rw [show (a.Op == b.Op) = true by simpa using o1, cond_true, show (a.Value == b.Value) = true by simpa using o2, cond_true, ML]
    by_cases c3 : a.Kids.length = b.Kids.length
    ·rw [decide_eq_false (by simpa using c3), cond_false]
     have hit := FM (List.range a.Kids.length) (fun i => !((a.Kids[i]?.bind fun x => b.Kids[i]?.map fun y => eqv x y) == some true)) (fun _ => false) (body := Ax M a.Kids b.Kids (fun y0 y1 => (Gq M k).q189 y0 y1)) (N := M)
      (by
       intro i hi
       simp only [List.length_range] at hi
       unfold Ax
       rw [KW hi, cond_true, CA hi, Option.bind_some, CA (show i < b.Kids.length by omega), Option.bind_some]
       show (((Gq M k).q189 a.Kids[i] b.Kids[i]).bind _) = _
       rw [Ps (h3 _ (List.getElem_mem hi)) (by omega)]
       simp only [Option.bind_some, List.getElem_range]
       rw [List.getElem?_eq_getElem hi, List.getElem?_eq_getElem (show i < b.Kids.length by omega)]
       simp only [Option.bind_some, Option.map_some]
       cases eqv a.Kids[i] b.Kids[i] <;> rfl)
      (by unfold Ax; rw [List.length_range, L2, cond_false]) (by rw [List.length_range]; exact h1) (by rw [List.length_range]; exact h2)
     rw [hit]
     cases ha : (List.range a.Kids.length).any fun i => !((a.Kids[i]?.bind fun x => b.Kids[i]?.map fun y => eqv x y) == some true) with
     | false =>
      have := (J3 c3).1 ha
      have : eqv a b = true := A2.2 (D6 o1 o2 this)
      rw [this]; rfl
     | true =>
      have : eqv a b = false := Dq.2 (by
       rintro rfl
       have := (J3 (l := a.Kids) (m := a.Kids) rfl).2 rfl
       rw [ha] at this; cases this)
      rw [this]; rfl
    ·rw [decide_eq_true c3, cond_true]
     have : eqv a b = false := Dq.2 (by rintro rfl; exact c3 rfl)
     rw [this]; rfl
   ·rw [show (a.Op == b.Op) = true by simpa using o1, cond_true, show (a.Value == b.Value) = false by simpa using o2, cond_false]
    have : eqv a b = false := Dq.2 (by rintro rfl; exact o2 rfl)
    rw [this]; rfl
  ·rw [show (a.Op == b.Op) = false by simpa using o1, cond_false]
   have : eqv a b = false := Dq.2 (by rintro rfl; exact o1 rfl)
   rw [this]; rfl
end
def Fit (N : Nat) (e : Expr) : Prop := ∃ n, Ht N n e /\ 2 * n + 10 <= N
section
variable {N : Nat} {e : Expr} (h : Fit N e)
include h
theorem PW : Gn N e = some (nd e) := by obtain ⟨n, h1, h2⟩ := h; exact Od h1 (by omega)
theorem LU : Do N e = some (dp e) := by obtain ⟨n, h1, h2⟩ := h; exact Of h1 (by omega)
theorem J8 : CZ N e = some (kd e) := by obtain ⟨n, h1, h2⟩ := h; exact MQ h1 (by omega)
theorem ES (b : Expr) : AW N e b = some (eqv e b) := by obtain ⟨n, h1, h2⟩ := h; exact Oe h1 (by omega)
theorem Iy (b : Expr) : CN N e b = some (eqv e b) := by obtain ⟨n, h1, h2⟩ := h; exact Ps h1 (by omega)
theorem N3 : Dp N e = some (nd e) := by unfold Dp; rw [PW h]; rfl
end
def HN (e : Expr) : Bool := decide (dp e <= 32) && decide (kd e ≠ 0)
section
variable {N : Nat} {e : Expr} (h : Fit N e)
include h
theorem LT : CM N e = some (HN e) := by
 unfold CM HN
 rw [J8 h, Option.bind_some]
 by_cases hk : kd e = 0
 ·simp [hk]
 ·rw [show (kd e != 0) = true by simpa using hk, cond_true, LU h]; simp [hk]
end
section
open Go.ChangeShapes Go.WideShapes Go.ChangeAt Go.RowKit
def MK (x : Expr) : Prop := ∃ n, Ht 3518437208781 n x
theorem Oh {M : Nat} : ∀ {l : List Expr}, (∀ x, x ∈ l -> ∃ n, Ht M n x) -> ∃ n, ∀ x, x ∈ l -> Ht M n x
 | [], _ => ⟨0, fun x hx => by cases hx⟩
 | a :: l, h => by
  obtain ⟨n, hn⟩ := h a (List.mem_cons_self ..)
  obtain ⟨m, hm⟩ := Oh fun x hx => h x (List.mem_cons_of_mem _ hx)
  refine ⟨max n m, fun x hx => ?_⟩
  rcases List.mem_cons.1 hx with rfl | hx
  ·exact hn.le (by omega)
  ·exact (hm x hx).le (by omega)
theorem fld {H : Type} {enc : TypeId × Value -> H} {P : Program} {W : World} {fuel : Nat} {t e : TypeId} {cs : List Value} {x : DataW H × List MemPlace} {i off c : Nat} (hf : fieldAt P t i = some (e, off)) (hc : P.cellsOf e = c)
  (h : DataW.trod enc P W 0 (fun _ => true) true fuel t cs = some x) (hw : SzW P t x.1) : ∃ n y, fuel = n + 1 /\ DataW.trod enc P W 0 (fun _ => true) true n e ((cs.drop off).take c) = some y /\ SzW P e y.1 := by
 unfold fieldAt at hf
 cases hu : P.underlying t with
 | none => rw [hu] at hf; cases hf
 | some k =>
  rw [hu] at hf
  cases k <;> simp only at hf <;> first | cases hf | skip
  rename_i fs
  cases hi : fs[i]? with
  | none => rw [hi] at hf; cases hf
  | some f =>
   rw [hi] at hf
   simp only [Option.map_some, Option.some.injEq, Prod.mk.injEq] at hf
   obtain ⟨rfl, rfl⟩ := hf
   obtain ⟨xs, n, rfl, rfl, hlen, hxl, hf⟩ := DataW.trod_struct hu h
   have hlt : i < xs.length := by
    rw [hxl]
    rcases Nat.lt_or_ge i fs.size with h' | h'
    ·exact h'
    ·rw [Array.getElem?_eq_none h'] at hi; cases hi
   have := hf i f hi
   rw [List.getElem?_eq_getElem hlt, hc] at this
   refine ⟨n, _, rfl, this, ?_⟩
   unfold SzW at hw
   simp only [DataW.weights, hu] at hw
   refine SzW.each hw (j := i) ?_ ?_
   ·rw [List.getElem?_map, Array.getElem?_toList, hi]; rfl
   ·rw [List.getElem?_map, List.getElem?_eq_getElem hlt]; rfl
theorem Ht.mk {M n : Nat} {e : Expr} (h1 : e.Kids.length < M) (h2 : e.Kids.length < 9223372036854775808) (h3 : ∀ x, x ∈ e.Kids -> Ht M n x) : Ht M (n + 1) e := ⟨h1, h2, h3⟩
end

def NN (sR99 : Expr -> (List Int) -> Option Int) : Prop := ∀ (w0 : World) (F0 : Mem) (hF : Sz w0 F0) (x0 : Expr) (a0_2 : Sy) (n0_2 : Nat) (hb0_2 : LC x0.Kids.length n0_2) (hs0_2 : SlA Ao F0 a0_2 x0.Kids) (x1 : (List Int)) (a1_0 : Sy) (n1_0 : Nat) (hb1_0 : LC x1.length n1_0) (hs1_0 : SlA Bu F0 a1_0 x1) (r : Int), sR99 x0 x1 = some r -> Calls Tryz.prog 99 ([(.agg #[(.int .i64 x0.Op), (.int .i64 x0.Value), (.slice a0_2 x0.Kids.length n0_2)]), (.slice a1_0 x1.length n1_0)] : List Value).toArray w0 (AU w0 F0 fun F' v => v = (.int .i64 r))
theorem CU : An Tryz.prog 99 := fun _ _ => by kernel_rfl
def Mo (sR155 : Int -> Expr -> (List Int) -> Option Int) : Prop := ∀ (w0 : World) (F0 : Mem) (hF : Sz w0 F0) (x0 : Int) (bz0 : Nat) (z0 : Expr) (az0_2 : Sy) (nz0_2 : Nat) (hbz0_2 : LC z0.Kids.length nz0_2) (hsz0_2 : SlA Ao F0 az0_2 z0.Kids) (hz0 : F0 bz0 = some (.cells #[(.int .i64 z0.Op), (.int .i64 z0.Value), (.slice az0_2 z0.Kids.length nz0_2)] 33 (0, 0))) (bz1 : Nat) (z1 : (List Int)) (az1_0 : Sy) (nz1_0 : Nat) (hbz1_0 : LC z1.length nz1_0) (hsz1_0 : SlA Bu F0 az1_0 z1) (hz1 : F0 bz1 = some (.cells #[(.slice az1_0 z1.length nz1_0)] 47 (0, 0))) (r : Int), sR155 x0 z0 z1 = some r -> Calls Tryz.prog 155 ([(.int .i64 x0), (.pointer (some ⟨bz0, 0, none⟩)), (.pointer (some ⟨bz1, 0, none⟩))] : List Value).toArray w0 (AU w0 F0 fun F' v => v = (.int .i64 r))
theorem AE : An Tryz.prog 155 := fun _ _ => by kernel_rfl
def Dd (N : Nat) (sR99 : Expr -> (List Int) -> Option Int) (x0 : Int) (z0 : Expr) (z1 : (List Int)) : Option Int :=
 (((idx z0.Kids x0).bind fun x31 => ((sR99 x31 z1).bind fun r45 => some r45)).bind fun j26 => some j26)
theorem Jh (N : Nat) (sR99 : Expr -> (List Int) -> Option Int) (hsR99 : NN sR99) (w0 : World) (F0 : Mem) (hF : Sz w0 F0) (x0 : Int) (bz0 : Nat) (z0 : Expr) (az0_2 : Sy) (nz0_2 : Nat) (hbz0_2 : LC z0.Kids.length nz0_2) (hsz0_2 : SlA Ao F0 az0_2 z0.Kids) (hz0 : F0 bz0 = some (oc (Ae z0 az0_2 nz0_2) 33)) (bz1 : Nat) (z1 : (List Int)) (az1_0 : Sy) (nz1_0 : Nat) (hbz1_0 : LC z1.length nz1_0) (hsz1_0 : SlA Bu F0 az1_0 z1) (hz1 : F0 bz1 = some (oc #[(.slice az1_0 z1.length nz1_0)] 47)) (r : Int) (h : Dd N sR99 x0 z0 z1 = some r) :
  Calls Tryz.prog 155 ([(vi x0), (pt bz0 0), (pt bz1 0)] : List Value).toArray w0 (AU w0 F0 fun F' v => v = (vi r)) := by
 have hs0 := R7 hF
 refine Go 12 Tryz.func155 ?_
 refine Sq (Rg [0] ?_)
 refine Vs 1 ?_
 refine Nss ?_
 obtain ⟨j26, hj29, h30⟩ := bind_some h
 refine RD 8 8 [] [] hs0 (fun f w => ∃ (F1 : Mem), HS w0 F0 w F1 [] /\ R5 F0 F1 /\ FI f [] [(4, (vi j26))]) (fun wd21 hw22 => ?_) ?_
 ·refine Dv [0] ?_
  refine Dl 1 (fun _ hq => (hq.1.1 _ _ hz0)) ?_
  refine Dv [2] ?_
  obtain ⟨x31, hx32, h34⟩ := bind_some hj29
  obtain ⟨hi33, hx32'⟩ := Ay hx32
  obtain ⟨b35, o36, C37, E38, fz39, rfl, hF41, hE42⟩ := Sh hsz0_2 hx32'
  obtain ⟨ae43_2, ne43_2, hc44, hbe43_2, hse43_2⟩ := (AR (hE42 _ _ hx32'))
  refine Di 3 hi33 ?_
  refine Dx 4 0 (fun _ hq => hq.1.1 _ _ hF41) hc44 ?_
  refine Dl 5 (fun _ hq => (hq.1.1 _ _ hz1)) ?_
  refine D1 6 ?_
  obtain ⟨r45, hr46, h47⟩ := bind_some h34
  refine DCl CU hw22 (hsR99 wd21 F0 hw22.pers x31 ae43_2 ne43_2 hbe43_2 hse43_2 z1 az1_0 nz1_0 hbz1_0 hsz1_0 _ hr46) ?_
  rintro _ F2 w49 hs50 le51 rfl
  refine Dv [7] ?_
  obtain rfl := Aa h47
  exact Sm (by kernel_rfl) ⟨F2, hs50, le51, fI⟩
 ·rintro f w23 ⟨F1, hs24, le25, ⟨_, rfl⟩⟩
  refine Ac ?_
  refine Rt ?_
  obtain rfl := Aa h30
  exact Re [(vi j26)] hs24 rfl
def Fo (N : Nat) (x0 : Bool) : Option Int :=
 (bif x0 then some 1 else some 0)
theorem Ih : An Tryz.prog 156 := fun _ _ => by kernel_rfl
theorem JC (N : Nat) (w0 : World) (F0 : Mem) (hF : Sz w0 F0) (x0 : Bool) (r : Int) (h : Fo N x0 = some r) :
  Calls Tryz.prog 156 ([(.bool x0)] : List Value).toArray w0 (AU w0 F0 fun F' v => v = (vi r)) := by
 have hs0 := R7 hF
 refine Go 4 Tryz.func156 ?_
 refine Sq (Rg [0] ?_)
 refine Vs 1 ?_
 refine Nss ?_
 refine Sq (Rg [0] ?_)
 refine Vs 1 ?_
 refine Nt ?_
 refine Cd h (fun hb21 h22 => ?_) (fun hb21 h23 => ?_)
 ·refine Sq (Rg [0] ?_)
  refine Vs 1 ?_
  refine Nt ?_
  refine Rt ?_
  refine Af ?_
  obtain rfl := Aa h22
  exact Re [(vi 1)] hs0 rfl
 ·refine Sc ?_
  refine Ac ?_
  refine Sq (Rg [0] ?_)
  refine Vs 1 ?_
  refine Nt ?_
  refine Rt ?_
  obtain rfl := Aa h23
  exact Re [(vi 0)] hs0 rfl
def EH (N : Nat) (x0 : Int) : Option Int :=
 some (max (-1000000) (min 1000000 x0))
theorem Ff : An Tryz.prog 157 := fun _ _ => by kernel_rfl
theorem FQ (N : Nat) (w0 : World) (F0 : Mem) (hF : Sz w0 F0) (x0 : Int) (r : Int) (h : EH N x0 = some r) :
  Calls Tryz.prog 157 ([(vi x0)] : List Value).toArray w0 (AU w0 F0 fun F' v => v = (vi r)) := by
 have hs0 := R7 hF
 refine Go 6 Tryz.func157 ?_
 refine Sq (Rg [0] ?_)
 refine Vs 1 ?_
 refine Nss (Rg [0, 1, 2, 3] ?_)
 refine Vs 4 ?_
 refine Nt ?_
 refine Rt ?_
 obtain rfl := Aa h
 exact Re [(vi (max (-1000000) (min 1000000 x0)))] hs0 rfl
def DT (N : Nat) (sR155 : Int -> Expr -> (List Int) -> Option Int) (x0 : Expr) (x1 : (List Int)) : Option Int :=
 (bif (x0.Op == 1) then some x0.Value else (bif (x0.Op == 2) then ((idx x1 x0.Value).bind fun x33 => some x33) else (bif (x0.Op == 3) then ((sR155 0 x0 x1).bind fun r56 => some (W64 (1 - r56))) else (bif (x0.Op == 4) then ((sR155 0 x0 x1).bind fun r73 => ((sR155 1 x0 x1).bind fun r81 => some (W64 (r73 * r81)))) else (bif (x0.Op == 5) then ((sR155 0 x0 x1).bind fun r98 => ((sR155 1 x0 x1).bind fun r106 => some (max r98 r106))) else (bif (x0.Op == 6) then ((sR155 0 x0 x1).bind fun r123 => ((sR155 1 x0 x1).bind fun r131 => ((Fo N (r123 == r131)).bind fun r139 => some r139))) else (bif (x0.Op == 7) then ((sR155 0 x0 x1).bind fun r156 => ((sR155 1 x0 x1).bind fun r164 => ((Fo N (decide (r156 < r164))).bind fun r172 => some r172))) else (bif (x0.Op == 8) then ((sR155 0 x0 x1).bind fun r189 => ((sR155 1 x0 x1).bind fun r197 => ((EH N (W64 (r189 + r197))).bind fun r205 => some r205))) else (bif (x0.Op == 9) then ((sR155 0 x0 x1).bind fun r222 => ((sR155 1 x0 x1).bind fun r230 => ((EH N (W64 (r222 - r230))).bind fun r238 => some r238))) else (bif (x0.Op == 10) then ((sR155 0 x0 x1).bind fun r255 => ((sR155 1 x0 x1).bind fun r263 => ((EH N (W64 (r255 * r263))).bind fun r271 => some r271))) else (bif (x0.Op == 11) then ((sR155 0 x0 x1).bind fun r288 => ((sR155 (W64 (2 - r288)) x0 x1).bind fun r296 => some r296)) else some 0)))))))))))
theorem KK (N : Nat) (sR155 : Int -> Expr -> (List Int) -> Option Int) (hsR155 : Mo sR155) (w0 : World) (F0 : Mem) (hF : Sz w0 F0) (x0 : Expr) (a0_2 : Sy) (n0_2 : Nat) (hb0_2 : LC x0.Kids.length n0_2) (hs0_2 : SlA Ao F0 a0_2 x0.Kids) (x1 : (List Int)) (a1_0 : Sy) (n1_0 : Nat) (hb1_0 : LC x1.length n1_0) (hs1_0 : SlA Bu F0 a1_0 x1) (r : Int) (h : DT N sR155 x0 x1 = some r) :
  Calls Tryz.prog 99 ([(.agg (Ae x0 a0_2 n0_2)), (.slice a1_0 x1.length n1_0)] : List Value).toArray w0 (AU w0 F0 fun F' v => v = (vi r)) := by
 have hs0 := R7 hF
 refine Go 86 Tryz.func99 ?_
 refine Sq (Rg [0, 1, 2] ?_)
 refine Bx' 33 (Ae x0 a0_2 n0_2) hs0 (fun b21 w22 hs23 => ?_)
 refine Bx' 47 #[(.slice a1_0 x1.length n1_0)] hs23 (fun b24 w25 hs26 => ?_)
 refine Vs 1 ?_
 refine Nss (Rg [0, 1] ?_)
 refine Vs 2 ?_
 refine Nss ?_
 refine Sq (Rg [0, 1] ?_)
 refine Vs 1 ?_
 refine Ld hs26.at1 ?_
 refine Nt ?_
 refine Bk ?_
 refine Sq (Rg [0, 1] ?_)
 refine Vs 2 ?_
 refine Nt ?_
 refine Cd h (fun hb27 h28 => ?_) (fun hb27 h29 => ?_)
 ·refine Sq (Rg [0, 1, 2] ?_)
  refine Vs 1 ?_
  refine Ld hs26.at1 ?_
  refine Vs 1 ?_
  refine Nt ?_
  refine Rt ?_
  refine Ah ?_
  refine Af ?_
  obtain rfl := Aa h28
  exact Re [(vi x0.Value)] hs26 rfl
 ·refine Sq (Rg [0, 1] ?_)
  refine Vs 2 ?_
  refine Nt ?_
  refine Cd h29 (fun hb30 h31 => ?_) (fun hb30 h32 => ?_)
  ·refine Sq (Rg [0, 1, 2, 3, 4, 5] ?_)
   refine Ld hs26.at0 ?_
   refine Vs 1 ?_
   refine Ld hs26.at1 ?_
   obtain ⟨x33, hx34, h36⟩ := bind_some h31
   obtain ⟨hi35, hx34'⟩ := Ay hx34
   obtain ⟨b37, o38, C39, E40, fz41, rfl, hF43, hE44⟩ := Sh hs1_0 hx34'
   have hc46 := hE44 _ _ hx34'
   refine Ix hi35 ?_
   refine Lx 0 (hs26.pers _ _ hF43) hc46 ?_
   refine Vs 1 ?_
   refine Nt ?_
   refine Rt ?_
   refine Ah ?_
   refine Af ?_
   obtain rfl := Aa h36
   exact Re [(vi x33)] hs26 rfl
  ·refine Sq (Rg [0, 1] ?_)
   refine Vs 2 ?_
   refine Nt ?_
   refine Cd h32 (fun hb47 h48 => ?_) (fun hb47 h49 => ?_)
   ·refine Sq (Rg [0, 1, 2, 3] ?_)
    refine Vs 1 ?_
    obtain ⟨F1, hs50, le51, hF52⟩ := hs26.fc1
    obtain ⟨F2, hs53, le54, hF55⟩ := hs50.fc0
    obtain ⟨r56, hr57, h58⟩ := bind_some h48
    refine Cl' AE hs53 (hsR155 w25 F2 hs53.pers 0 b21 x0 a0_2 n0_2 hb0_2 (R8 hs0_2 (le51.trans le54)) (le54 _ _ hF52) b24 x1 a1_0 n1_0 hb1_0 (R8 hs1_0 (le51.trans le54)) hF55 _ hr57) ?_
    rintro _ F3 w60 hs61 le62 rfl
    refine Vs 2 ?_
    refine Nt ?_
    refine Rt ?_
    refine Ah ?_
    refine Af ?_
    obtain rfl := Aa h58
    exact Re [(vi (W64 (1 - r56)))] hs61 rfl
   ·refine Sq (Rg [0, 1] ?_)
    refine Vs 2 ?_
    refine Nt ?_
    refine Cd h49 (fun hb64 h65 => ?_) (fun hb64 h66 => ?_)
    ·refine Sq (Rg [0, 1, 2, 3, 4, 5] ?_)
     refine Vs 1 ?_
     obtain ⟨F4, hs67, le68, hF69⟩ := hs26.fc1
     obtain ⟨F5, hs70, le71, hF72⟩ := hs67.fc0
     obtain ⟨r73, hr74, h75⟩ := bind_some h65
     refine Cl' AE hs70 (hsR155 w25 F5 hs70.pers 0 b21 x0 a0_2 n0_2 hb0_2 (R8 hs0_2 (le68.trans le71)) (le71 _ _ hF69) b24 x1 a1_0 n1_0 hb1_0 (R8 hs1_0 (le68.trans le71)) hF72 _ hr74) ?_
     rintro _ F6 w77 hs78 le79 rfl
     refine Vs 1 ?_
     obtain ⟨r81, hr82, h83⟩ := bind_some h75
     refine Cl' AE hs78 (hsR155 w77 F6 hs78.pers 1 b21 x0 a0_2 n0_2 hb0_2 (R8 hs0_2 ((le68.trans le71).trans le79)) ((le71.trans le79) _ _ hF69) b24 x1 a1_0 n1_0 hb1_0 (R8 hs1_0 ((le68.trans le71).trans le79)) (le79 _ _ hF72) _ hr82) ?_
     rintro _ F7 w85 hs86 le87 rfl
     refine Vs 2 ?_
     refine Nt ?_
     refine Rt ?_
     refine Ah ?_
     refine Af ?_
     obtain rfl := Aa h83
     exact Re [(vi (W64 (r73 * r81)))] hs86 rfl
    ·refine Sq (Rg [0, 1] ?_)
     refine Vs 2 ?_
     refine Nt ?_
     refine Cd h66 (fun hb89 h90 => ?_) (fun hb89 h91 => ?_)
     ·refine Sq (Rg [0, 1, 2, 3, 4, 5] ?_)
      refine Vs 1 ?_
      obtain ⟨F8, hs92, le93, hF94⟩ := hs26.fc1
      obtain ⟨F9, hs95, le96, hF97⟩ := hs92.fc0
      obtain ⟨r98, hr99, h100⟩ := bind_some h90
      refine Cl' AE hs95 (hsR155 w25 F9 hs95.pers 0 b21 x0 a0_2 n0_2 hb0_2 (R8 hs0_2 (le93.trans le96)) (le96 _ _ hF94) b24 x1 a1_0 n1_0 hb1_0 (R8 hs1_0 (le93.trans le96)) hF97 _ hr99) ?_
      rintro _ F10 w102 hs103 le104 rfl
      refine Vs 1 ?_
      obtain ⟨r106, hr107, h108⟩ := bind_some h100
      refine Cl' AE hs103 (hsR155 w102 F10 hs103.pers 1 b21 x0 a0_2 n0_2 hb0_2 (R8 hs0_2 ((le93.trans le96).trans le104)) ((le96.trans le104) _ _ hF94) b24 x1 a1_0 n1_0 hb1_0 (R8 hs1_0 ((le93.trans le96).trans le104)) (le104 _ _ hF97) _ hr107) ?_
      rintro _ F11 w110 hs111 le112 rfl
      refine Vs 2 ?_
      refine Nt ?_
      refine Rt ?_
      refine Ah ?_
      refine Af ?_
      obtain rfl := Aa h108
      exact Re [(vi (max r98 r106))] hs111 rfl
     ·refine Sq (Rg [0, 1] ?_)
      refine Vs 2 ?_
      refine Nt ?_
      refine Cd h91 (fun hb114 h115 => ?_) (fun hb114 h116 => ?_)
      ·refine Sq (Rg [0, 1, 2, 3, 4, 5, 6] ?_)
       refine Vs 1 ?_
       obtain ⟨F12, hs117, le118, hF119⟩ := hs26.fc1
       obtain ⟨F13, hs120, le121, hF122⟩ := hs117.fc0
       obtain ⟨r123, hr124, h125⟩ := bind_some h115
       refine Cl' AE hs120 (hsR155 w25 F13 hs120.pers 0 b21 x0 a0_2 n0_2 hb0_2 (R8 hs0_2 (le118.trans le121)) (le121 _ _ hF119) b24 x1 a1_0 n1_0 hb1_0 (R8 hs1_0 (le118.trans le121)) hF122 _ hr124) ?_
       rintro _ F14 w127 hs128 le129 rfl
       refine Vs 1 ?_
       obtain ⟨r131, hr132, h133⟩ := bind_some h125
       refine Cl' AE hs128 (hsR155 w127 F14 hs128.pers 1 b21 x0 a0_2 n0_2 hb0_2 (R8 hs0_2 ((le118.trans le121).trans le129)) ((le121.trans le129) _ _ hF119) b24 x1 a1_0 n1_0 hb1_0 (R8 hs1_0 ((le118.trans le121).trans le129)) (le129 _ _ hF122) _ hr132) ?_
       rintro _ F15 w135 hs136 le137 rfl
       refine Vs 1 ?_
       obtain ⟨r139, hr140, h141⟩ := bind_some h133
       refine Cl' Ih hs136 (JC N w135 F15 hs136.pers ((r123 == r131)) _ hr140) ?_
       rintro _ F16 w143 hs144 le145 rfl
       refine Vs 1 ?_
       refine Nt ?_
       refine Rt ?_
       refine Ah ?_
       refine Af ?_
       obtain rfl := Aa h141
       exact Re [(vi r139)] hs144 rfl
      ·refine Sq (Rg [0, 1] ?_)
       refine Vs 2 ?_
       refine Nt ?_
       refine Cd h116 (fun hb147 h148 => ?_) (fun hb147 h149 => ?_)
       ·refine Sq (Rg [0, 1, 2, 3, 4, 5, 6] ?_)
        refine Vs 1 ?_
        obtain ⟨F17, hs150, le151, hF152⟩ := hs26.fc1
        obtain ⟨F18, hs153, le154, hF155⟩ := hs150.fc0
        obtain ⟨r156, hr157, h158⟩ := bind_some h148
        refine Cl' AE hs153 (hsR155 w25 F18 hs153.pers 0 b21 x0 a0_2 n0_2 hb0_2 (R8 hs0_2 (le151.trans le154)) (le154 _ _ hF152) b24 x1 a1_0 n1_0 hb1_0 (R8 hs1_0 (le151.trans le154)) hF155 _ hr157) ?_
        rintro _ F19 w160 hs161 le162 rfl
        refine Vs 1 ?_
        obtain ⟨r164, hr165, h166⟩ := bind_some h158
        refine Cl' AE hs161 (hsR155 w160 F19 hs161.pers 1 b21 x0 a0_2 n0_2 hb0_2 (R8 hs0_2 ((le151.trans le154).trans le162)) ((le154.trans le162) _ _ hF152) b24 x1 a1_0 n1_0 hb1_0 (R8 hs1_0 ((le151.trans le154).trans le162)) (le162 _ _ hF155) _ hr165) ?_
        rintro _ F20 w168 hs169 le170 rfl
        refine Vs 1 ?_
        obtain ⟨r172, hr173, h174⟩ := bind_some h166
        refine Cl' Ih hs169 (JC N w168 F20 hs169.pers ((decide (r156 < r164))) _ hr173) ?_
        rintro _ F21 w176 hs177 le178 rfl
        refine Vs 1 ?_
        refine Nt ?_
        refine Rt ?_
        refine Ah ?_
        refine Af ?_
        obtain rfl := Aa h174
        exact Re [(vi r172)] hs177 rfl
       ·refine Sq (Rg [0, 1] ?_)
        refine Vs 2 ?_
        refine Nt ?_
        refine Cd h149 (fun hb180 h181 => ?_) (fun hb180 h182 => ?_)
        ·refine Sq (Rg [0, 1, 2, 3, 4, 5, 6] ?_)
         refine Vs 1 ?_
         obtain ⟨F22, hs183, le184, hF185⟩ := hs26.fc1
         obtain ⟨F23, hs186, le187, hF188⟩ := hs183.fc0
         obtain ⟨r189, hr190, h191⟩ := bind_some h181
         refine Cl' AE hs186 (hsR155 w25 F23 hs186.pers 0 b21 x0 a0_2 n0_2 hb0_2 (R8 hs0_2 (le184.trans le187)) (le187 _ _ hF185) b24 x1 a1_0 n1_0 hb1_0 (R8 hs1_0 (le184.trans le187)) hF188 _ hr190) ?_
         rintro _ F24 w193 hs194 le195 rfl
         refine Vs 1 ?_
         obtain ⟨r197, hr198, h199⟩ := bind_some h191
         refine Cl' AE hs194 (hsR155 w193 F24 hs194.pers 1 b21 x0 a0_2 n0_2 hb0_2 (R8 hs0_2 ((le184.trans le187).trans le195)) ((le187.trans le195) _ _ hF185) b24 x1 a1_0 n1_0 hb1_0 (R8 hs1_0 ((le184.trans le187).trans le195)) (le195 _ _ hF188) _ hr198) ?_
         rintro _ F25 w201 hs202 le203 rfl
         refine Vs 1 ?_
         obtain ⟨r205, hr206, h207⟩ := bind_some h199
         refine Cl' Ff hs202 (FQ N w201 F25 hs202.pers ((W64 (r189 + r197))) _ hr206) ?_
         rintro _ F26 w209 hs210 le211 rfl
         refine Vs 1 ?_
         refine Nt ?_
         refine Rt ?_
         refine Ah ?_
         refine Af ?_
         obtain rfl := Aa h207
         exact Re [(vi r205)] hs210 rfl
        ·refine Sq (Rg [0, 1] ?_)
         refine Vs 2 ?_
         refine Nt ?_
         refine Cd h182 (fun hb213 h214 => ?_) (fun hb213 h215 => ?_)
         ·refine Sq (Rg [0, 1, 2, 3, 4, 5, 6] ?_)
          refine Vs 1 ?_
          obtain ⟨F27, hs216, le217, hF218⟩ := hs26.fc1
          obtain ⟨F28, hs219, le220, hF221⟩ := hs216.fc0
          obtain ⟨r222, hr223, h224⟩ := bind_some h214
          refine Cl' AE hs219 (hsR155 w25 F28 hs219.pers 0 b21 x0 a0_2 n0_2 hb0_2 (R8 hs0_2 (le217.trans le220)) (le220 _ _ hF218) b24 x1 a1_0 n1_0 hb1_0 (R8 hs1_0 (le217.trans le220)) hF221 _ hr223) ?_
          rintro _ F29 w226 hs227 le228 rfl
          refine Vs 1 ?_
          obtain ⟨r230, hr231, h232⟩ := bind_some h224
          refine Cl' AE hs227 (hsR155 w226 F29 hs227.pers 1 b21 x0 a0_2 n0_2 hb0_2 (R8 hs0_2 ((le217.trans le220).trans le228)) ((le220.trans le228) _ _ hF218) b24 x1 a1_0 n1_0 hb1_0 (R8 hs1_0 ((le217.trans le220).trans le228)) (le228 _ _ hF221) _ hr231) ?_
          rintro _ F30 w234 hs235 le236 rfl
          refine Vs 1 ?_
          obtain ⟨r238, hr239, h240⟩ := bind_some h232
          refine Cl' Ff hs235 (FQ N w234 F30 hs235.pers ((W64 (r222 - r230))) _ hr239) ?_
          rintro _ F31 w242 hs243 le244 rfl
          refine Vs 1 ?_
          refine Nt ?_
          refine Rt ?_
          refine Ah ?_
          refine Af ?_
          obtain rfl := Aa h240
          exact Re [(vi r238)] hs243 rfl
         ·refine Sq (Rg [0, 1] ?_)
          refine Vs 2 ?_
          refine Nt ?_
          refine Cd h215 (fun hb246 h247 => ?_) (fun hb246 h248 => ?_)
          ·refine Sq (Rg [0, 1, 2, 3, 4, 5, 6] ?_)
           refine Vs 1 ?_
           obtain ⟨F32, hs249, le250, hF251⟩ := hs26.fc1
           obtain ⟨F33, hs252, le253, hF254⟩ := hs249.fc0
           obtain ⟨r255, hr256, h257⟩ := bind_some h247
           refine Cl' AE hs252 (hsR155 w25 F33 hs252.pers 0 b21 x0 a0_2 n0_2 hb0_2 (R8 hs0_2 (le250.trans le253)) (le253 _ _ hF251) b24 x1 a1_0 n1_0 hb1_0 (R8 hs1_0 (le250.trans le253)) hF254 _ hr256) ?_
           rintro _ F34 w259 hs260 le261 rfl
           refine Vs 1 ?_
           obtain ⟨r263, hr264, h265⟩ := bind_some h257
           refine Cl' AE hs260 (hsR155 w259 F34 hs260.pers 1 b21 x0 a0_2 n0_2 hb0_2 (R8 hs0_2 ((le250.trans le253).trans le261)) ((le253.trans le261) _ _ hF251) b24 x1 a1_0 n1_0 hb1_0 (R8 hs1_0 ((le250.trans le253).trans le261)) (le261 _ _ hF254) _ hr264) ?_
           rintro _ F35 w267 hs268 le269 rfl
           refine Vs 1 ?_
           obtain ⟨r271, hr272, h273⟩ := bind_some h265
           refine Cl' Ff hs268 (FQ N w267 F35 hs268.pers ((W64 (r255 * r263))) _ hr272) ?_
           rintro _ F36 w275 hs276 le277 rfl
           refine Vs 1 ?_
           refine Nt ?_
           refine Rt ?_
           refine Ah ?_
           refine Af ?_
           obtain rfl := Aa h273
           exact Re [(vi r271)] hs276 rfl
          ·refine Sq (Rg [0, 1] ?_)
           refine Vs 2 ?_
           refine Nt ?_
           refine Cd h248 (fun hb279 h280 => ?_) (fun hb279 h281 => ?_)
           ·refine Sq (Rg [0, 1, 2, 3, 4, 5] ?_)
            refine Vs 2 ?_
            obtain ⟨F37, hs282, le283, hF284⟩ := hs26.fc1
            obtain ⟨F38, hs285, le286, hF287⟩ := hs282.fc0
            obtain ⟨r288, hr289, h290⟩ := bind_some h280
            refine Cl' AE hs285 (hsR155 w25 F38 hs285.pers 0 b21 x0 a0_2 n0_2 hb0_2 (R8 hs0_2 (le283.trans le286)) (le286 _ _ hF284) b24 x1 a1_0 n1_0 hb1_0 (R8 hs1_0 (le283.trans le286)) hF287 _ hr289) ?_
            rintro _ F39 w292 hs293 le294 rfl
            refine Vs 1 ?_
            obtain ⟨r296, hr297, h298⟩ := bind_some h290
            refine Cl' AE hs293 (hsR155 w292 F39 hs293.pers ((W64 (2 - r288))) b21 x0 a0_2 n0_2 hb0_2 (R8 hs0_2 ((le283.trans le286).trans le294)) ((le286.trans le294) _ _ hF284) b24 x1 a1_0 n1_0 hb1_0 (R8 hs1_0 ((le283.trans le286).trans le294)) (le294 _ _ hF287) _ hr297) ?_
            rintro _ F40 w300 hs301 le302 rfl
            refine Vs 1 ?_
            refine Nt ?_
            refine Rt ?_
            refine Ah ?_
            refine Af ?_
            obtain rfl := Aa h298
            exact Re [(vi r296)] hs301 rfl
           ·refine Sc ?_
            refine Ap ?_
            refine Ac ?_
            refine Sq (Rg [0] ?_)
            refine Vs 1 ?_
            refine Nt ?_
            refine Rt ?_
            obtain rfl := Aa h281
            exact Re [(vi 0)] hs26 rfl
structure Rw where
 q99 : Expr -> (List Int) -> Option Int
 q155 : Int -> Expr -> (List Int) -> Option Int
def CH (N : Nat) : Nat -> Rw
 | 0 => ⟨fun _ _ => none, fun _ _ _ => none⟩
 | k + 1 => ⟨DT N (CH N k).q155, Dd N (CH N k).q99⟩
theorem MD (N : Nat) : ∀ k, NN (CH N k).q99 /\ Mo (CH N k).q155
 | 0 => ⟨(by unfold NN; intros; rename_i h; cases h), (by unfold Mo; intros; rename_i h; cases h)⟩
 | k + 1 => by
  have ih := MD N k
  exact ⟨@KK N (CH N k).q155 ih.2, @Jh N (CH N k).q99 ih.1⟩
def CL (N : Nat) (x0 : Expr) (x1 : (List Int)) : Option Int := (CH N N).q99 x0 x1
theorem DY (N : Nat) (w0 : World) (F0 : Mem) (hF : Sz w0 F0) (x0 : Expr) (a0_2 : Sy) (n0_2 : Nat) (hb0_2 : LC x0.Kids.length n0_2) (hs0_2 : SlA Ao F0 a0_2 x0.Kids) (x1 : (List Int)) (a1_0 : Sy) (n1_0 : Nat) (hb1_0 : LC x1.length n1_0) (hs1_0 : SlA Bu F0 a1_0 x1) (r : Int) (h : CL N x0 x1 = some r) :
  Calls Tryz.prog 99 ([(.agg #[(.int .i64 x0.Op), (.int .i64 x0.Value), (.slice a0_2 x0.Kids.length n0_2)]), (.slice a1_0 x1.length n1_0)] : List Value).toArray w0 (AU w0 F0 fun F' v => v = (.int .i64 r)) := (MD N N).1 w0 F0 hF x0 a0_2 n0_2 hb0_2 hs0_2 x1 a1_0 n1_0 hb1_0 hs1_0 r h
def Lr (N : Nat) (x0 : Bool) : Option Int :=
 (bif x0 then some 1 else some 0)
def HB (N : Nat) (x0 : Int) : Option Int :=
 some (max (-1000000) (min 1000000 x0))

def CQ (N : Nat) (sR101 : Expr -> (List Int) -> Option Int) (x0 : Expr) (x1 : (List Int)) : (List Int × Int) -> Option (BX Int (List Int × Int)) := fun s29 =>
 (bif (decide (s29.2 < (x0.Kids.length : Int))) then ((idx x0.Kids s29.2).bind fun x55 => ((sR101 x55 x1).bind fun r69 => ((EQ s29.1 [r69]).bind fun r82 => some (.next (r82, (W64 (s29.2 + 1))))))) else some (.done (s29.1, s29.2)))
def Da (N : Nat) (sR101 : Expr -> (List Int) -> Option Int) (x0 : Expr) (x1 : (List Int)) : Option Int :=
 ((Br (CQ N sR101 x0 x1) N (([] : List Int), 0)).bind fun o => o.k (fun r => some r) (fun s38 => (bif (x0.Op == 1) then some x0.Value else (bif (x0.Op == 2) then ((idx x1 x0.Value).bind fun x100 => some x100) else (bif (x0.Op == 3) then ((idx s38.1 0).bind fun x117 => some (W64 (1 - x117))) else (bif (x0.Op == 4) then (((idx s38.1 0).bind fun x142 => ((idx s38.1 1).bind fun x154 => some (min x142 x154))).bind fun j137 => some j137) else (bif (x0.Op == 5) then (((idx s38.1 0).bind fun x178 => ((idx s38.1 1).bind fun x190 => some (max x178 x190))).bind fun j173 => some j173) else (bif (x0.Op == 6) then (((idx s38.1 0).bind fun x214 => ((idx s38.1 1).bind fun x226 => ((Lr N (x214 == x226)).bind fun r237 => some r237))).bind fun j209 => some j209) else (bif (x0.Op == 7) then (((idx s38.1 0).bind fun x258 => ((idx s38.1 1).bind fun x270 => ((Lr N (decide (x258 < x270))).bind fun r281 => some r281))).bind fun j253 => some j253) else (bif (x0.Op == 8) then (((idx s38.1 0).bind fun x302 => ((idx s38.1 1).bind fun x314 => ((HB N (W64 (x302 + x314))).bind fun r325 => some r325))).bind fun j297 => some j297) else (bif (x0.Op == 9) then (((idx s38.1 0).bind fun x346 => ((idx s38.1 1).bind fun x358 => ((HB N (W64 (x346 - x358))).bind fun r369 => some r369))).bind fun j341 => some j341) else (bif (x0.Op == 10) then (((idx s38.1 0).bind fun x390 => ((idx s38.1 1).bind fun x402 => ((HB N (W64 (x390 * x402))).bind fun r413 => some r413))).bind fun j385 => some j385) else ((idx s38.1 0).bind fun x421 => (bif (x421 == 1) then ((idx s38.1 1).bind fun x436 => some x436) else ((idx s38.1 2).bind fun x447 => some x447)))))))))))))))
structure Q4 where
 q101 : Expr -> (List Int) -> Option Int
def Gr (N : Nat) : Nat -> Q4
 | 0 => ⟨fun _ _ => none⟩
 | k + 1 => ⟨Da N (Gr N k).q101⟩
def Js (N : Nat) (x0 : Expr) (x1 : (List Int)) : Option Int := (Gr N N).q101 x0 x1
def Bm (N : Nat) (x0 : (List Int)) (x1 : (Int -> Option Bool)) : Int -> Option (BX Int Int) := fun s24 =>
 (bif (decide (s24 < (x0.length : Int))) then ((idx x0 s24).bind fun x47 => ((x1 x47).bind fun r61 => (bif r61 then some (.ret s24) else some (.next (W64 (s24 + 1)))))) else some (.done s24))
def Ck (N : Nat) (x0 : (List Int)) (x1 : (Int -> Option Bool)) : Option Int :=
 ((Br (Bm N x0 x1) N 0).bind fun o => o.k (fun r => some r) (fun s33 => some (-1)))
theorem EB : An Tryz.prog 197 := fun _ _ => by kernel_rfl
theorem EN (N : Nat) (w0 : World) (F0 : Mem) (hF : Sz w0 F0) (x0 : (List Int)) (a0_0 : Sy) (n0_0 : Nat) (hb0_0 : LC x0.length n0_0) (hs0_0 : SlA Bu F0 a0_0 x0) (gx1 : FuncId) (fx1 kx1 : List Value) (x1 : Int -> Option Bool) (hox1 : An Tryz.prog gx1) (hpx1 : M7 F0 gx1 fx1 kx1 x1) (r : Int) (h : Ck N x0 x1 = some r) :
  Calls Tryz.prog 197 ([(.slice a0_0 x0.length n0_0), (.func (.func gx1) fx1.toArray kx1.toArray)] : List Value).toArray w0 (AU w0 F0 fun F' v => v = (vi r)) := by
 have hs0 := R7 hF
 refine Go 19 Tryz.func197 ?_
 refine Sq (Rg [0] ?_)
 refine Vs 1 ?_
 refine Nss ?_
 refine Sq (Rg [0, 1, 2] ?_)
 refine Vs 3 ?_
 refine Nt ?_
 obtain ⟨o21, ho22, h23⟩ := bind_some h
 refine Se (fun f w => ∃ (s33 : Int) (F2 : Mem), o21 = .done s33 /\ HS w0 F0 w F2 [] /\ R5 F0 F2 /\ FI f [] []) ?_ ?_
 ·refine Bk ?_
  refine R4 (by kernel_rfl) (fun m f w => ∃ (s24 : Int) (F1 : Mem), Br (Bm N x0 x1) m s24 = some o21 /\ HS w0 F0 w F1 [] /\ R5 F0 F1 /\ FI f [] [(0, (.slice a0_0 x0.length n0_0)), (1, (.func (.func gx1) fx1.toArray kx1.toArray)), (7, (vi (x0.length : Int))), (8, (vi s24))]) N ⟨0, F0, ho22, hs0, (R6 _), fI⟩ ?_
  rintro m38 f w25 ⟨s24, F1, hit39, hs26, le27, ⟨_, rfl⟩⟩
  obtain ⟨m40, fl41, rfl, hb42, hnx43⟩ := A7 hit39
  refine Sq (Rg [0] ?_)
  refine Vs 1 ?_
  refine Nss ?_
  refine Cd hb42 (fun hb44 h45 => ?_) (fun hb44 h46 => ?_)
  ·refine Sc ?_
   refine Ac ?_
   refine Sq ?_
   refine Bk ?_
   refine Sq (Rg [0, 1] ?_)
   refine Vs 2 ?_
   refine Nss (Rg [0, 1, 2, 3, 4, 5] ?_)
   refine Vs 3 ?_
   obtain ⟨x47, hx48, h50⟩ := bind_some h45
   obtain ⟨hi49, hx48'⟩ := Ay hx48
   obtain ⟨b51, o52, C53, E54, fz55, rfl, hF57, hE58⟩ := Sh (R8 hs0_0 le27) hx48'
   have hc60 := hE58 _ _ hx48'
   refine Ix hi49 ?_
   refine Lx 0 (hs26.pers _ _ hF57) hc60 ?_
   obtain ⟨r61, hr62, h63⟩ := bind_some h50
   refine Cq hox1 hs26 (hpx1 w25 F1 x47 _ le27 hs26.pers hr62) ?_
   rintro _ F3 w65 hs66 le67 rfl
   refine Nt ?_
   refine Cd h63 (fun hb69 h70 => ?_) (fun hb69 h71 => ?_)
   ·refine Sq (Rg [0, 1] ?_)
    refine Vs 2 ?_
    refine Nt ?_
    refine Rt ?_
    refine Ah ?_
    refine Af ?_
    refine Af ?_
    refine Ah ?_
    have hret := Cf h70 hnx43
    subst hret
    refine .inr ?_
    refine Af ?_
    obtain rfl := Aa h23
    exact Re [(vi s24)] hs66 rfl
   ·refine Sc ?_
    refine Ap ?_
    refine Ac ?_
    refine Rg [0, 1] ?_
    refine Vs 2 ?_
    refine RY ?_
    have hn72 := A0 h71 hnx43
    exact ⟨m40, Nat.lt_succ_self _, (W64 (s24 + 1)), F3, hn72, hs66, (le27.trans le67), fI⟩
  ·refine Ex ?_
   refine AC ?_
   refine AC ?_
   refine AV rfl ?_
   have ho73 := Bd h46 hnx43
   exact .inl ⟨rfl, s24, F1, ho73, hs26, le27, fI⟩
 ·rintro f w34 ⟨s33, F2, rfl, hs35, le36, ⟨_, rfl⟩⟩
  have h74 := Cu h23
  refine Ac ?_
  refine Sq (Rg [0] ?_)
  refine Vs 1 ?_
  refine Nt ?_
  refine Rt ?_
  obtain rfl := Aa h74
  exact Re [(vi (-1))] hs35 rfl
def BS (N : Nat) (x0 : (List Int)) (x1 : (Int -> Option Bool)) : Option Bool :=
 ((Ck N x0 x1).bind fun r21 => some (decide (r21 >= 0)))
theorem DP : An Tryz.prog 153 := fun _ _ => by kernel_rfl
theorem Eb (N : Nat) (w0 : World) (F0 : Mem) (hF : Sz w0 F0) (x0 : (List Int)) (a0_0 : Sy) (n0_0 : Nat) (hb0_0 : LC x0.length n0_0) (hs0_0 : SlA Bu F0 a0_0 x0) (gx1 : FuncId) (fx1 kx1 : List Value) (x1 : Int -> Option Bool) (hox1 : An Tryz.prog gx1) (hpx1 : M7 F0 gx1 fx1 kx1 x1) (r : Bool) (h : BS N x0 x1 = some r) :
  Calls Tryz.prog 153 ([(.slice a0_0 x0.length n0_0), (.func (.func gx1) fx1.toArray kx1.toArray)] : List Value).toArray w0 (AU w0 F0 fun F' v => v = (.bool r)) := by
 have hs0 := R7 hF
 refine Go 9 Tryz.func153 ?_
 refine Sq (Rg [0] ?_)
 refine Vs 1 ?_
 refine Nss (Rg [0, 1, 2, 3, 4] ?_)
 refine Vs 2 ?_
 obtain ⟨r21, hr22, h23⟩ := bind_some h
 refine Cl' EB hs0 (EN N w0 F0 hs0.pers x0 a0_0 n0_0 hb0_0 hs0_0 gx1 fx1 kx1 x1 hox1 (fun w1 F1 y0 r le1 pe1 hr1 => hpx1 w1 F1 y0 r le1 pe1 hr1) _ hr22) ?_
 rintro _ F1 w25 hs26 le27 rfl
 refine Vs 2 ?_
 refine Nt ?_
 refine Rt ?_
 obtain rfl := Aa h23
 exact Re [(.bool (decide (r21 >= 0)))] hs26 rfl
def Df (N : Nat) (x0 : Int) : Option Bool :=
 some ((decide (x0 < 0)) || (decide (x0 > 1000000)))
theorem FX : An Tryz.prog 154 := fun _ _ => by kernel_rfl
theorem GN (N : Nat) (w0 : World) (F0 : Mem) (hF : Sz w0 F0) (x0 : Int) (r : Bool) (h : Df N x0 = some r) :
  Calls Tryz.prog 154 ([(vi x0)] : List Value).toArray w0 (AU w0 F0 fun F' v => v = (.bool r)) := by
 have hs0 := R7 hF
 refine Go 9 Tryz.func154 ?_
 refine Sq (Rg [0] ?_)
 refine Vs 1 ?_
 refine Nss (Rg [0, 1, 2, 3, 4, 5, 6] ?_)
 refine Sb (fun f w => ∃ (F1 : Mem), HS w0 F0 w F1 [] /\ R5 F0 F1 /\ FI f [] [(2, (.bool ((decide (x0 < 0)) || (decide (x0 > 1000000)))))]) ?_ ?_
 ·refine Vs 3 ?_
  refine Sa (decide (x0 < 0)) (fun hb26 => ?_) (fun hb26 => ?_)
  ·refine Ss hb26 2 ?_
   refine Pk1 hb26 ?_
   refine Vs 1 ?_
   exact RY ⟨rfl, F0, hs0, (R6 _), (fJ ⟨(congrArg Value.bool (Gs hb26 rfl)), trivial⟩)⟩
  ·refine Vgs hb26 2 ?_
   refine Pk0 hb26 ?_
   refine Vs 1 ?_
   exact RY ⟨rfl, F0, hs0, (R6 _), (fJ ⟨(congrArg Value.bool (Cc hb26 rfl)), trivial⟩)⟩
 ·rintro f w21 ⟨F1, hs22, le23, ⟨_, rfl⟩⟩
  refine Ac ?_
  refine Rt ?_
  obtain rfl := Aa h
  exact Re [(.bool ((decide (x0 < 0)) || (decide (x0 > 1000000))))] hs22 rfl
def Cr (N : Nat) (x0 : (List Int)) : Option Bool :=
 ((bif ((x0.length : Int) == 14) then ((BS N x0 (fun y0 => Df N y0)).bind fun r32 => some (!r32)) else some false).bind fun j24 => some j24)
theorem Ep : An Tryz.prog 98 := fun _ _ => by kernel_rfl
theorem EO (N : Nat) (w0 : World) (F0 : Mem) (hF : Sz w0 F0) (x0 : (List Int)) (a0_0 : Sy) (n0_0 : Nat) (hb0_0 : LC x0.length n0_0) (hs0_0 : SlA Bu F0 a0_0 x0) (r : Bool) (h : Cr N x0 = some r) :
  Calls Tryz.prog 98 ([(.slice a0_0 x0.length n0_0)] : List Value).toArray w0 (AU w0 F0 fun F' v => v = (.bool r)) := by
 have hs0 := R7 hF
 refine Go 11 Tryz.func98 ?_
 refine Sq (Rg [0] ?_)
 refine Vs 1 ?_
 refine Nss (Rg [0, 1, 2, 3, 4, 5, 6, 7, 8] ?_)
 obtain ⟨j24, hj27, h28⟩ := bind_some h
 refine Sb (fun f w => ∃ (F1 : Mem), HS w0 F0 w F1 [] /\ R5 F0 F1 /\ FI f [] [(2, (.bool j24))]) ?_ ?_
 ·refine Vs 4 ?_
  refine Sp hj27 (fun hb29 h30 => ?_) (fun hb29 h31 => ?_)
  ·refine Vgs hb29 1 ?_
   obtain ⟨r32, hr33, h34⟩ := bind_some h30
   refine Cg hb29 DP hs0 (Eb N w0 F0 hs0.pers x0 a0_0 n0_0 hb0_0 hs0_0 154 [] [] (fun y0 => Df N y0) FX (fun w1 F1 y0 r le1 pe1 hr1 => GN N w1 F1 pe1  y0  r hr1) _ hr33) ?_
   rintro _ F2 w36 hs37 le38 rfl
   refine Vgs hb29 1 ?_
   refine Pk1 hb29 ?_
   refine Vs 1 ?_
   obtain rfl := Aa h34
   exact RY ⟨rfl, F2, hs37, le38, fI⟩
  ·refine Ss hb29 3 ?_
   refine Pk0 hb29 ?_
   refine Vs 1 ?_
   obtain rfl := Aa h31
   exact RY ⟨rfl, F0, hs0, (R6 _), fI⟩
 ·rintro f w21 ⟨F1, hs22, le23, ⟨_, rfl⟩⟩
  refine Ac ?_
  refine Rt ?_
  obtain rfl := Aa h28
  exact Re [(.bool j24)] hs22 rfl

def zE : Expr := ⟨0, 0, []⟩
def hold (n : Int) : Int := max (-1000000) (min 1000000 n)
theorem Px (n : Int) : -1000000 <= hold n /\ hold n <= 1000000 := by unfold hold; omega
theorem H6 {n : Int} (h : -1000000 <= n) (h2 : n <= 1000000) : hold n = n := by unfold hold; omega
def Eg (b : Bool) : Int := if b then 1 else 0
def vop (op v fv : Int) (l : List Int) : Int :=
 if op = 1 then v else if op = 2 then fv else if op = 3 then 1 - l[0]! else if op = 4 then min l[0]! l[1]! else if op = 5 then max l[0]! l[1]! else if op = 6 then Eg (l[0]! == l[1]!)
 else if op = 7 then Eg (decide (l[0]! < l[1]!)) else if op = 8 then hold (l[0]! + l[1]!) else if op = 9 then hold (l[0]! - l[1]!) else if op = 10 then hold (l[0]! * l[1]!)
 else if l[0]! = 1 then l[1]! else l[2]!
def val (f : List Int) (e : Expr) : Int := match e with
 | ⟨op, v, ks⟩ => vop op v f[v.toNat]! (ks.map fun x => val f x)
theorem BL (f : List Int) (e : Expr) : val f e = vop e.Op e.Value f[e.Value.toNat]! (e.Kids.map (val f)) := by
 cases e; rw [val]
def fac (f : List Int) : Bool := decide (f.length = 14) && f.all fun n => decide (0 <= n) && decide (n <= 1000000)
def vok (t v : Int) : Prop := (t = 2 -> v = 0 \/ v = 1) /\ (t = 1 -> -1000000 <= v /\ v <= 1000000)
inductive Mk (e : Expr) : Int -> Prop
 | num (h : e.Op = 1) (h1 : 0 <= e.Value) (h2 : e.Value <= 1000000) (hk : e.Kids = []) : Mk e 1
 | field (h : e.Op = 2) (h1 : 0 <= e.Value) (h2 : e.Value <= 13) (hk : e.Kids = []) : Mk e 1
 | deny (h : e.Op = 3) (hv : e.Value = 0) (x : Expr) (hk : e.Kids = [x]) (h1 : kd x = 2) : Mk e 2
 | logic (h : e.Op = 4 \/ e.Op = 5) (hv : e.Value = 0) (x y : Expr) (hk : e.Kids = [x, y]) (h1 : kd x = 2) (h2 : kd y = 2) : Mk e 2
 | test (h : e.Op = 6 \/ e.Op = 7) (hv : e.Value = 0) (x y : Expr) (hk : e.Kids = [x, y]) (h1 : kd x = 1) (h2 : kd y = 1) : Mk e 2
 | sum (h : e.Op = 8 \/ e.Op = 9 \/ e.Op = 10) (hv : e.Value = 0) (x y : Expr) (hk : e.Kids = [x, y]) (h1 : kd x = 1) (h2 : kd y = 1) : Mk e 1
 | cond (h : e.Op = 11) (hv : e.Value = 0) (c x y : Expr) (hk : e.Kids = [c, x, y]) (h0 : kd c = 2) (h1 : kd x = 1) (h2 : kd y = 1) : Mk e 1
theorem RM {l : List Expr} {a : Int} (h : l.map kd = [a]) : ∃ x, l = [x] /\ kd x = a := by
 match l, h with
 | [x], h => exact ⟨x, rfl, by simpa using h⟩
theorem QO {l : List Expr} {a b : Int} (h : l.map kd = [a, b]) : ∃ x y, l = [x, y] /\ kd x = a /\ kd y = b := by
 match l, h with
 | [x, y], h => simp at h; exact ⟨x, y, rfl, h.1, h.2⟩
theorem RL {l : List Expr} {a b c : Int} (h : l.map kd = [a, b, c]) : ∃ x y z, l = [x, y, z] /\ kd x = a /\ kd y = b /\ kd z = c := by
 match l, h with
 | [x, y, z], h => simp at h; exact ⟨x, y, z, rfl, h.1, h.2.1, h.2.2⟩
theorem Hp {e : Expr} (h : kd e ≠ 0) : Mk e (kd e) := by
 rw [Ly] at h ⊢
 cases hf : kf e.Op with
 | none => rw [hf] at h; exact absurd rfl h
 | some x =>
  obtain ⟨m, o, l⟩ := x
  rw [hf] at h
  simp only at h ⊢
  by_cases hc : 0 <= e.Value /\ e.Value <= m /\ e.Kids.map kd = l
  ·rw [if_pos hc]
   obtain ⟨c1, c2, c3⟩ := hc
   unfold kf at hf
   by_cases h1 : e.Op = 1
   ·rw [if_pos h1] at hf; cases hf; exact .num h1 c1 c2 (by simpa using c3)
   rw [if_neg h1] at hf
   by_cases h2 : e.Op = 2
   ·rw [if_pos h2] at hf; cases hf; exact .field h2 c1 c2 (by simpa using c3)
   rw [if_neg h2] at hf
   by_cases h3 : e.Op = 3
   ·rw [if_pos h3] at hf; cases hf; obtain ⟨x, hk, hx⟩ := RM c3; exact .deny h3 (by omega) x hk hx
   rw [if_neg h3] at hf
   by_cases h4 : e.Op = 4 \/ e.Op = 5
   ·rw [if_pos h4] at hf; cases hf; obtain ⟨x, y, hk, hx, hy⟩ := QO c3; exact .logic h4 (by omega) x y hk hx hy
   rw [if_neg h4] at hf
   by_cases h6 : e.Op = 6 \/ e.Op = 7
   ·rw [if_pos h6] at hf; cases hf; obtain ⟨x, y, hk, hx, hy⟩ := QO c3; exact .test h6 (by omega) x y hk hx hy
   rw [if_neg h6] at hf
   by_cases h8 : e.Op = 8 \/ e.Op = 9 \/ e.Op = 10
   ·rw [if_pos h8] at hf; cases hf; obtain ⟨x, y, hk, hx, hy⟩ := QO c3; exact .sum h8 (by omega) x y hk hx hy
   rw [if_neg h8] at hf
   by_cases h11 : e.Op = 11
   ·rw [if_pos h11] at hf; cases hf; obtain ⟨x, y, z, hk, hx, hy, hz⟩ := RL c3; exact .cond h11 (by omega) x y z hk hx hy hz
   rw [if_neg h11] at hf; cases hf
  ·rw [if_neg hc] at h; exact absurd rfl h
theorem Oj {f : List Int} (h : fac f = true) : f.length = 14 := by unfold fac at h; simp at h; exact h.1
theorem Qq {f : List Int} (h : fac f = true) {i : Nat} (hi : i < 14) : 0 <= f[i]! /\ f[i]! <= 1000000 := by
 have hl := Oj h
 unfold fac at h
 simp only [Bool.and_eq_true, decide_eq_true_eq, List.all_eq_true] at h
 have := h.2 f[i]! (by rw [getElem!_pos f i (by omega)]; exact List.getElem_mem _)
 exact this
theorem Qs (b : Bool) : Eg b = 0 \/ Eg b = 1 := by cases b <;> simp [Eg]
theorem Iv {f : List Int} (hf : fac f = true) {M : Nat} : ∀ {n : Nat} {e : Expr}, Ht M n e -> kd e ≠ 0 -> vok (kd e) (val f e)
 | 0, _, h, _ => h.elim
 | n + 1, e, ⟨_, _, h3⟩, h0 => by
  have ih : ∀ x, x ∈ e.Kids -> kd x ≠ 0 -> vok (kd x) (val f x) := fun x hx => Iv hf (h3 x hx)
  rw [BL]
  have hm := Hp h0
  generalize kd e = t at hm h0
  have T : ∀ x, x ∈ e.Kids -> kd x = 2 -> val f x = 0 \/ val f x = 1 := fun x hx h => (ih x hx (by rw [h]; decide)).1 h
  have U : ∀ x, x ∈ e.Kids -> kd x = 1 -> -1000000 <= val f x /\ val f x <= 1000000 := fun x hx h => (ih x hx (by rw [h]; decide)).2 h
  cases hm with
  | num h h1 h2 hk =>
   rw [h]
   refine ⟨fun h => (by cases h), fun _ => ?_⟩
   show -1000000 <= e.Value /\ e.Value <= 1000000
   omega
  | field h h1 h2 hk =>
    rw [h]
    refine ⟨fun h => (by cases h), fun _ => ?_⟩
    show -1000000 <= f[e.Value.toNat]! /\ f[e.Value.toNat]! <= 1000000
    have := Qq hf (i := e.Value.toNat) (by omega)
    omega
  | deny h hv x hk h1 =>
   rw [h, hk]
   have := T x (by rw [hk]; simp) h1
   refine ⟨fun _ => ?_, fun h => (by cases h)⟩
   show 1 - val f x = 0 \/ 1 - val f x = 1
   omega
  | logic h hv x y hk h1 h2 =>
   have a := T x (by rw [hk]; simp) h1
   have b := T y (by rw [hk]; simp) h2
   rw [hk]
   refine ⟨fun _ => ?_, fun h => by cases h⟩
   rcases h with h | h <;> rw [h]
   ·show min (val f x) (val f y) = 0 \/ min (val f x) (val f y) = 1; omega
   ·show max (val f x) (val f y) = 0 \/ max (val f x) (val f y) = 1; omega
  | test h hv x y hk h1 h2 =>
   refine ⟨fun _ => ?_, fun h => by cases h⟩
   rcases h with h | h <;> rw [h] <;> exact Qs _
  | sum h hv x y hk h1 h2 =>
   refine ⟨fun h => (by cases h), fun _ => ?_⟩
   rcases h with h | h | h <;> rw [h] <;> exact Px _
  | cond h hv c x y hk h0 h1 h2 =>
   have b := U x (by rw [hk]; simp) h1
   have c := U y (by rw [hk]; simp) h2
   rw [h, hk]
   refine ⟨fun h => (by cases h), fun _ => ?_⟩
   show -1000000 <= (if val f _ = 1 then val f x else val f y) /\ (if val f _ = 1 then val f x else val f y) <= 1000000
   split <;> assumption
section
variable {N : Nat} {f : List Int}
theorem QC (b : Bool) : Fo N b = some (Eg b) := by unfold Fo Eg; cases b <;> rfl
theorem NA (n : Int) : EH N n = some (hold n) := rfl
theorem C6 {n : Int} (h : -1000000000000000 <= n) (h2 : n <= 1000000000000000) : W64 n = n := PO (by omega) (by omega)
theorem Lw {a b : Int} (ha : -1000000 <= a) (ha' : a <= 1000000) (hb : -1000000 <= b) (hb' : b <= 1000000) : -1000000000000 <= a * b /\ a * b <= 1000000000000 := by
 have hk : (a * b).natAbs <= 1000000 * 1000000 := by
  rw [Int.natAbs_mul]
  exact Nat.mul_le_mul (by omega) (by omega)
 omega
theorem Oc (hf : fac f = true) : ∀ {n k : Nat} {e : Expr}, Ht N n e -> 2 * n <= k -> kd e ≠ 0 -> (CH N k).q99 e f = some (val f e)
 | 0, _, _, h, _, _ => h.elim
 | n + 1, 0, _, _, h, _ => absurd h (by omega)
 | n + 1, 1, _, _, h, _ => absurd h (by omega)
 | n + 1, k + 2, e, ⟨h1, h2, h3⟩, hk, h0 => by
  have hq : ∀ x, x ∈ e.Kids -> kd x ≠ 0 -> (CH N k).q99 x f = some (val f x) := fun x hx => Oc hf (h3 x hx) (by omega)
  have hv : ∀ x, x ∈ e.Kids -> kd x ≠ 0 -> vok (kd x) (val f x) := fun x hx => Iv hf (h3 x hx)
  have T : ∀ x, x ∈ e.Kids -> kd x = 2 -> val f x = 0 \/ val f x = 1 := fun x hx h => (hv x hx (by rw [h]; decide)).1 h
  have U : ∀ x, x ∈ e.Kids -> kd x = 1 -> -1000000 <= val f x /\ val f x <= 1000000 := fun x hx h => (hv x hx (by rw [h]; decide)).2 h
  have hi : ∀ (i : Nat) x, e.Kids[i]? = some x -> kd x ≠ 0 -> (CH N (k + 1)).q155 (i : Int) e f = some (val f x) := fun i x hx hx0 => by
   show Dd N (CH N k).q99 i e f = _
   unfold Dd
   rw [Pw, hx, Option.bind_some, hq x (List.mem_of_getElem? hx) hx0]
   rfl
  have hi0 : ∀ x, e.Kids[0]? = some x -> kd x ≠ 0 -> (CH N (k + 1)).q155 0 e f = some (val f x) := hi 0
  have hi1 : ∀ x, e.Kids[1]? = some x -> kd x ≠ 0 -> (CH N (k + 1)).q155 1 e f = some (val f x) := hi 1
  have hi2 : ∀ x, e.Kids[2]? = some x -> kd x ≠ 0 -> (CH N (k + 1)).q155 2 e f = some (val f x) := hi 2
  show DT N (CH N (k + 1)).q155 e f = _
  unfold DT
  rw [BL]
  have hm := Hp h0
  generalize kd e = t at hm
  cases hm with
  | num h _ _ hk => rw [h]; rfl
  | field h h1 h2 hk =>
   have hl := Oj hf
   rw [h]
   show ((idx f e.Value).bind fun x32 => some x32) = some f[e.Value.toNat]!
   obtain ⟨m, hm⟩ : ∃ m : Nat, e.Value = m := ⟨e.Value.toNat, by omega⟩
   have hm' : m < f.length := by omega
   rw [hm, CA hm', Int.toNat_natCast, getElem!_pos f m hm']
   rfl
  | deny h hv x hk h1 =>
   have a := hi0 x (by rw [hk]; rfl) (by rw [h1]; decide)
   have b := T x (by rw [hk]; simp) h1
   rw [h, hk]
   show ((CH N (k + 1)).q155 0 e f).bind _ = some (1 - val f x)
   rw [a, Option.bind_some, C6 (by omega) (by omega)]
  | logic h hv x y hk h1 h2 =>
   have a := hi0 x (by rw [hk]; rfl) (by rw [h1]; decide)
   have b := hi1 y (by rw [hk]; rfl) (by rw [h2]; decide)
   have a' := T x (by rw [hk]; simp) h1
   have b' := T y (by rw [hk]; simp) h2
   rcases h with h | h <;> rw [h, hk]
   ·show ((CH N (k + 1)).q155 0 e f).bind _ = some (min (val f x) (val f y))
    rw [a, Option.bind_some, b, Option.bind_some]
    congr 1
    rcases a' with a' | a' <;> rcases b' with b' | b' <;> rw [a', b'] <;> decide
   ·show ((CH N (k + 1)).q155 0 e f).bind _ = some (max (val f x) (val f y))
    rw [a, Option.bind_some, b, Option.bind_some]
  | test h hv x y hk h1 h2 =>
   have a := hi0 x (by rw [hk]; rfl) (by rw [h1]; decide)
   have b := hi1 y (by rw [hk]; rfl) (by rw [h2]; decide)
   rcases h with h | h <;> rw [h, hk]
   ·show ((CH N (k + 1)).q155 0 e f).bind _ = some (Eg (val f x == val f y))
    rw [a, Option.bind_some, b, Option.bind_some, QC]; rfl
   ·show ((CH N (k + 1)).q155 0 e f).bind _ = some (Eg (decide (val f x < val f y)))
    rw [a, Option.bind_some, b, Option.bind_some, QC]; rfl
  | sum h hv x y hk h1 h2 =>
   have a := hi0 x (by rw [hk]; rfl) (by rw [h1]; decide)
   have b := hi1 y (by rw [hk]; rfl) (by rw [h2]; decide)
   have a' := U x (by rw [hk]; simp) h1
   have b' := U y (by rw [hk]; simp) h2
   have c' := Lw a'.1 a'.2 b'.1 b'.2
   rcases h with h | h | h <;> rw [h, hk]
   ·show ((CH N (k + 1)).q155 0 e f).bind _ = some (hold (val f x + val f y))
    rw [a, Option.bind_some, b, Option.bind_some, C6 (by omega) (by omega), NA]; rfl
   ·show ((CH N (k + 1)).q155 0 e f).bind _ = some (hold (val f x - val f y))
    rw [a, Option.bind_some, b, Option.bind_some, C6 (by omega) (by omega), NA]; rfl
   ·show ((CH N (k + 1)).q155 0 e f).bind _ = some (hold (val f x * val f y))
    rw [a, Option.bind_some, b, Option.bind_some, C6 (by omega) (by omega), NA]; rfl
  | cond h hv c x y hk h0 h1 h2 =>
   have z := hi0 c (by rw [hk]; rfl) (by rw [h0]; decide)
   have a := hi1 x (by rw [hk]; rfl) (by rw [h1]; decide)
   have b := hi2 y (by rw [hk]; rfl) (by rw [h2]; decide)
   have z' := T c (by rw [hk]; simp) h0
   rw [h, hk]
   show ((CH N (k + 1)).q155 0 e f).bind _ = some (if val f c = 1 then val f x else val f y)
   rw [z, Option.bind_some]
   rcases z' with z' | z' <;> rw [z']
   ·rw [show W64 (2 - 0) = 2 from rfl, b]; rfl
   ·rw [show W64 (2 - 1) = 1 from rfl, a]; rfl
theorem N2 (hf : fac f = true) {e : Expr} (h : Fit N e) (h0 : kd e ≠ 0) : CL N e f = some (val f e) := by obtain ⟨n, h1, h2⟩ := h; exact Oc hf h1 (by omega) h0
theorem LS (hN : 100 < N) : Cr N f = some (fac f) := by
 unfold Cr fac BS Ck
 by_cases hl : f.length = 14
 ·rw [show ((f.length : Int) == 14) = true by simp; omega, cond_true]
  rw [FM f (fun n => decide (n < 0) || decide (n > 1000000)) (fun i => (i : Int)) (fun i hi => by
   unfold Bm
   rw [KW hi, cond_true, CA hi]; rfl) (by unfold Bm; rw [L2, cond_false]) (by omega) (by omega)]
  have : (f.all fun n => decide (0 <= n) && decide (n <= 1000000)) = !(f.any fun n => decide (n < 0) || decide (n > 1000000)) := by
   rw [List.not_any_eq_all_not]
   congr 1
   funext n
   simp
   rw [Bool.eq_iff_iff]; simp
  rw [this]
  cases f.any fun n => decide (n < 0) || decide (n > 1000000) with
  | true => simp [BX.k, hl]
  | false => simp [BX.k, hl]
 ·rw [show ((f.length : Int) == 14) = false by simp; omega, cond_false]
  simp [hl]
end
section
variable {σ : Type}
def HX (f : σ -> Expr -> Option (Bool × σ)) (x0 : Expr) : (σ × Int) -> Option (BX (Bool × σ) (σ × Int)) := fun t =>
 (bif (decide (t.2 < (x0.Kids.length : Int))) then ((idx x0.Kids t.2).bind fun x61 => ((f t.1 x61).bind fun q => (bif (!q.1) then some (.ret (false, q.2)) else some (.next (q.2, W64 (t.2 + 1)))))) else some (.done t))
def J1 (N : Nat) (y f : σ -> Expr -> Option (Bool × σ)) (s : σ) (x0 : Expr) : Option (Bool × σ) :=
 ((y s x0).bind fun q => (bif (!q.1) then some (false, q.2) else ((Br (HX f x0) N (q.2, 0)).bind fun o => o.k (fun r => some r) (fun t => some (true, t.1)))))
def Kn (N : Nat) (y : σ -> Expr -> Option (Bool × σ)) : Nat -> σ -> Expr -> Option (Bool × σ)
 | 0 => fun _ _ => none
 | k + 1 => J1 N y (Kn N y k)
def DU (N : Nat) (y : σ -> Expr -> Option (Bool × σ)) (z0 : Expr) (s : σ) : Option σ := (Kn N y N s z0).map (·.2)
abbrev eY (b2 l : Nat) : Option Nat × Obj := (some b2, .cells #[(.func (.yield l) #[] #[])] 41 (0, 0))
abbrev eE (b2 b3 : Nat) : Option Nat × Obj := (some b3, .cells #[(.func (.func 176) #[] #[(.pointer (some ⟨b2, 0, none⟩)), (.pointer (some ⟨b3, 0, none⟩))])] 41 (0, 0))
def Mn (wb : World) (Fb F' : Mem) (l b2 b3 : Nat) (J : σ -> Mem -> Own -> Prop) (g : σ -> Expr -> Option (Bool × σ)) : Prop :=
 ∀ (s : σ) (x : Expr) (a : Sy) (n : Nat) (w : World) (F : Mem) (L Lf : Own) (r : Bool × σ), R5 F' F -> LC x.Kids.length n -> SlA Ao F a x.Kids -> J s F Lf -> HS wb Fb w F (eY b2 l :: eE b2 b3 :: (L ++ Lf)) -> g s x = some r ->
  Calls Tryz.prog 176 ([(.agg #[(.int .i64 x.Op), (.int .i64 x.Value), (.slice a x.Kids.length n)]), (.pointer (some ⟨b2, 0, none⟩)), (.pointer (some ⟨b3, 0, none⟩))] : List Value).toArray w (NV wb Fb F fun F1 v L1 => v = .bool r.1 /\ ∃ Lf1, L1 = eY b2 l :: eE b2 b3 :: (L ++ Lf1) /\ J r.2 F1 Lf1)
theorem Jx : An Tryz.prog 176 := fun _ _ => by kernel_rfl
theorem PL (N : Nat) (wb : World) (Fb F' : Mem) (l b2 b3 : Nat) (y : σ -> Expr -> Option (Bool × σ)) (J : σ -> Mem -> Own -> Prop) (hJm : LJ J) (hY : YOk Tryz.prog wb Fb F' l Ok Qi Qd y J) (g : σ -> Expr -> Option (Bool × σ)) (hg : Mn wb Fb F' l b2 b3 J g) :
  Mn wb Fb F' l b2 b3 J (J1 N y g) := by
 intro s x0 a0_2 n0_2 w0 F0 L Lf r le0 hb0_2 hs0_2 hJ hs0 h
 refine Go 23 Tryz.func176 ?_
 refine Sq ?_
 refine Rg [0, 1] ?_
 refine Bx' 33 #[(.int .i64 x0.Op), (.int .i64 x0.Value), (.slice a0_2 x0.Kids.length n0_2)] hs0 (fun b21 w22 hs23 => ?_)
 refine Vs 1 ?_
 refine RY ?_
 refine Ac ?_
 refine Sq ?_
 refine Sq ?_
 refine Rg [0, 1, 2, 3] ?_
 refine Ld hs23.at1 ?_
 refine Ld hs23.at0 ?_
 obtain ⟨r24, hr25, h26⟩ := bind_some h
 refine RWP.yield (dst := (some 9)) (ty := 4) (g := none) (by kernel_rfl) rfl (f0 := (.tmp 7)) (aos := #[(.tmp 8)]) (ats := #[33]) (l := l) (args := [(.agg #[(.int .i64 x0.Op), (.int .i64 x0.Value), (.slice a0_2 x0.Kids.length n0_2)])]) rfl (rfl) (hY s (x0, a0_2, n0_2) w22 F0 ((some b21, .cells #[(.int .i64 x0.Op), (.int .i64 x0.Value), (.slice a0_2 x0.Kids.length n0_2)] 33 (0, 0)) :: eY b2 l :: eE b2 b3 :: L) Lf r24 le0 ⟨hb0_2, hs0_2⟩ hJ hs23 hr25) ?_
 rintro _ w28 ⟨F1, Lf1, rfl, hs29, le30, hJ31⟩
 have hs29 : HS wb Fb w28 F1 ((some b21, .cells #[(.int .i64 x0.Op), (.int .i64 x0.Value), (.slice a0_2 x0.Kids.length n0_2)] 33 (0, 0)) :: eY b2 l :: eE b2 b3 :: (L ++ Lf1)) := hs29
 refine ⟨_, rfl, ?_⟩
 refine Vs 1 ?_
 refine RY ?_
 refine Ac ?_
 refine Cd h26 (fun hb32 h33 => ?_) (fun hb32 h34 => ?_)
 ·refine Sq ?_
  refine Rg [0] ?_
  refine Vs 1 ?_
  refine RY ?_
  refine Ac ?_
  refine Rt ?_
  refine Af ?_
  obtain rfl := Aa h33
  exact ReB [(.bool false)] hs29.dr0 le30 ⟨rfl, Lf1, rfl, hJ31⟩
 ·refine R3 (by kernel_rfl) ?_
  refine Ac ?_
  refine Sq ?_
  refine Sq ?_
  refine Rg [0, 1, 2, 3] ?_
  refine Vs 1 ?_
  refine Ld hs29.at0 ?_
  refine Vs 2 ?_
  refine RY ?_
  refine Ac ?_
  obtain ⟨o35, ho36, h37⟩ := bind_some h34
  refine Se (fun f w => ∃ (s47 : σ × Int) (F3 : Mem) (Lf3 : Own), o35 = .done s47 /\ HS wb Fb w F3 (eY b2 l :: eE b2 b3 :: (L ++ Lf3)) /\ R5 F1 F3 /\ J s47.1 F3 Lf3 /\ FI f [] []) ?_ ?_
  ·refine CWP.block (by kernel_rfl) ?_
   refine R4 (by kernel_rfl) (fun m f w => ∃ (s38 : σ × Int) (F2 : Mem) (Lf2 : Own), Br (HX g x0) m s38 = some o35 /\ HS wb Fb w F2 (eY b2 l :: eE b2 b3 :: (L ++ Lf2)) /\ R5 F1 F2 /\ J s38.1 F2 Lf2 /\ FI f [] [(2, (.pointer (some ⟨b3, 0, none⟩))), (12, (.slice a0_2 x0.Kids.length n0_2)), (13, (.int .i64 (x0.Kids.length : Int))), (14, (.int .i64 s38.2))]) N ⟨(r24.2, 0), F1, Lf1, ho36, hs29.dr0, (R6 _), hJ31, fI⟩ ?_
   rintro m52 f w39 ⟨s38, F2, Lf2, hit53, hs40, le41, hJ42, ⟨_, rfl⟩⟩
   obtain ⟨m54, fl55, rfl, hb56, hnx57⟩ := A7 hit53
   refine Sq ?_
   refine Rg [0] ?_
   refine Vs 1 ?_
   refine RY ?_
   refine Ac ?_
   refine Sq ?_
   refine Cd hb56 (fun hb58 h59 => ?_) (fun hb58 h60 => ?_)
   ·refine R3 (by kernel_rfl) ?_
    refine Ac ?_
    refine Sq ?_
    refine CWP.block (by kernel_rfl) ?_
    refine Sq ?_
    refine Rg [0, 1, 2, 3] ?_
    obtain ⟨x61, hx62, h64⟩ := bind_some h59
    obtain ⟨hi63, hx62'⟩ := Ay hx62
    obtain ⟨b65, o66, C67, E68, fz69, rfl, hF71, hE72⟩ := Sh (R8 hs0_2 (le30.trans le41)) hx62'
    obtain ⟨ae73_2, ne73_2, hc74, hbe73_2, hse73_2⟩ := (AR (hE72 _ _ hx62'))
    refine Ix hi63 ?_
    refine Lx 0 (hs40.pers _ _ hF71) hc74 ?_
    refine Al' 33 #[(.int .i64 0), (.int .i64 0), (.slice none ([] : List Expr).length 0)] hs40 (fun b75 w76 hs77 => ?_)
    refine St0 #[(.int .i64 x61.Op), (.int .i64 x61.Value), (.slice ae73_2 x61.Kids.length ne73_2)] hs77 (fun w78 hs79 => ?_)
    refine RY ?_
    refine Ac ?_
    refine Sq ?_
    refine Rg [0, 1, 2, 3] ?_
    refine Ld hs79.at2 ?_
    refine Ld hs79.at0 ?_
    obtain ⟨r80, hr81, h82⟩ := bind_some h64
    refine CBq Jx (hg s38.1 x61 ae73_2 ne73_2 w78 F2 ((some b75, .cells #[(.int .i64 x61.Op), (.int .i64 x61.Value), (.slice ae73_2 x61.Kids.length ne73_2)] 33 (0, 0)) :: L) Lf2 r80 (le0.trans (le30.trans le41)) hbe73_2 hse73_2 hJ42 hs79.pk2.pk2 hr81) ?_
    rintro _ F4 w84 _ hs85 le86 ⟨rfl, Lf4, rfl, hJ87⟩
    refine Vs 1 ?_
    refine RY ?_
    refine Ac ?_
    refine Cd h82 (fun hb88 h89 => ?_) (fun hb88 h90 => ?_)
    ·refine Sq ?_
     refine Rg [0] ?_
     refine Vs 1 ?_
     refine RY ?_
     refine Ac ?_
     refine Rt ?_
     refine Ah ?_
     refine Af ?_
     refine Af ?_
     refine Ah ?_
     have hret := Cf h89 hnx57
     subst hret
     refine .inr ?_
     refine Af ?_
     obtain rfl := Aa h37
     exact ReB [(.bool false)] hs85.dr2 ((le30.trans le41).trans le86) ⟨rfl, Lf4, rfl, hJ87⟩
    ·refine R3 (by kernel_rfl) ?_
     refine Ap ?_
     refine Ac ?_
     refine Rg [0, 1] ?_
     refine Vs 2 ?_
     refine RY ?_
     have hn91 := A0 h90 hnx57
     exact ⟨m54, Nat.lt_succ_self _, (r80.2, W64 (s38.2 + 1)), F4, Lf4, hn91, hs85.dr2, (le41.trans le86), hJ87, fI⟩
   ·refine Ex ?_
    refine AC ?_
    refine AC ?_
    refine AV rfl ?_
    have ho92 := Bd h60 hnx57
    exact .inl ⟨rfl, s38, F2, Lf2, ho92, hs40, le41, hJ42, fI⟩
  ·rintro f w48 ⟨s47, F3, Lf3, rfl, hs49, le50, hJ51, ⟨_, rfl⟩⟩
   have h93 := Cu h37
   refine Ac ?_
   refine Sq ?_
   refine Rg [0] ?_
   refine Vs 1 ?_
   refine RY ?_
   refine Ac ?_
   refine Rt ?_
   obtain rfl := Aa h93
   exact ReB [(.bool true)] hs49 (le30.trans le50) ⟨rfl, Lf3, rfl, hJ51⟩
theorem M3 (N : Nat) (wb : World) (Fb F' : Mem) (l b2 b3 : Nat) (y : σ -> Expr -> Option (Bool × σ)) (J : σ -> Mem -> Own -> Prop) (hJm : LJ J) (hY : YOk Tryz.prog wb Fb F' l Ok Qi Qd y J) : ∀ k, Mn wb Fb F' l b2 b3 J (Kn N y k)
 | 0 => fun _ _ _ _ _ _ _ _ _ _ _ _ _ _ h => by cases h
 | k + 1 => PL N wb Fb F' l b2 b3 y J hJm hY _ (M3 N wb Fb F' l b2 b3 y J hJm hY k)
end
theorem Ja : An Tryz.prog 175 := fun _ _ => by kernel_rfl
theorem JW (N : Nat) (F0 : Mem) (z0 : Expr) (az0 : Sy) (nz0 : Nat) (hbz0 : LC z0.Kids.length nz0) (hsz0 : SlA Ao F0 az0 z0.Kids) (bz0 : Nat) (hz0 : F0 bz0 = some (.cells #[(.int .i64 z0.Op), (.int .i64 z0.Value), (.slice az0 z0.Kids.length nz0)] 33 (0, 0))) :
  LH Tryz.prog 175 [(.pointer (some ⟨bz0, 0, none⟩))] F0 [] Ok Qi Qd (fun {_} y s => DU N y z0 s) := by
 intro σ wb w0 Fb F1 l y J s r Lf le01 hJm hs0 hJ hY h
 have hs0 : HS wb Fb w0 F1 Lf := hs0
 refine Ea (n := 8) (c := B7 Tryz.f175) Tryz.func175 (by kernel_rfl) (by kernel_rfl) (by kernel_rfl) ?_
 refine Sq ?_
 refine Rg [0] ?_
 refine Bx' 41 #[(.func (.yield l) #[] #[])] hs0 (fun b21 w22 hs23 => ?_)
 refine RY ?_
 refine Ac ?_
 refine Sq ?_
 refine Rg [0] ?_
 refine Al' 41 #[.nilFunc] hs23 (fun b24 w25 hs26 => ?_)
 refine RY ?_
 refine Ac ?_
 refine Sq ?_
 refine Rg [0, 1] ?_
 refine Vs 1 ?_
 refine St0 #[(.func (.func 176) #[] #[(.pointer (some ⟨b21, 0, none⟩)), (.pointer (some ⟨b24, 0, none⟩))])] hs26 (fun w27 hs28 => ?_)
 refine RY ?_
 refine Ac ?_
 refine Rg [0, 1, 2] ?_
 refine Ld hs28.at0 ?_
 refine Ld (hs28.pers _ _ (le01 _ _ hz0)) ?_
 obtain ⟨q, hq, rfl⟩ := Option.map_eq_some_iff.1 h
 refine CBq Jx (M3 N wb Fb F1 l b21 b24 y J hJm hY N s z0 az0 nz0 w27 F1 [] Lf q (R6 _) hbz0 (R8 hsz0 le01) hJ hs28.pk1 hq) ?_
 rintro _ F4 w84 _ hs85 le86 ⟨rfl, Lf4, rfl, hJ87⟩
 refine RY ?_
 exact ⟨rfl, .tuple #[], Av (l := []) (by kernel_rfl) (vs := []) trivial, F4, Lf4, rfl, hs85.dr0.dr0, le86, hJ87⟩
theorem Kx : An Tryz.prog 127 := fun _ _ => by kernel_rfl
set_option maxRecDepth 100000 in
theorem K7 (w0 : World) (F0 : Mem) (hF : Sz w0 F0) (x0 : Expr) (a0_2 : Sy) (n0_2 : Nat) (_ : LC x0.Kids.length n0_2) (_ : SlA Ao F0 a0_2 x0.Kids) :
  Calls Tryz.prog 127 ([(.agg #[(.int .i64 x0.Op), (.int .i64 x0.Value), (.slice a0_2 x0.Kids.length n0_2)])] : List Value).toArray w0 (PT w0 F0 fun _ v L' => ∃ (b0 : Nat), v = .func (.func 175) #[] #[.pointer (some ⟨b0, 0, none⟩)] /\ L' = [(some b0, .cells #[(.int .i64 x0.Op), (.int .i64 x0.Value), (.slice a0_2 x0.Kids.length n0_2)] 33 (0, 0))]) := by
 have hs0 := R7 hF
 refine Go 4 Tryz.func127 ?_
 refine Sq ?_
 refine Rg [0, 1] ?_
 refine Bx' 33 #[(.int .i64 x0.Op), (.int .i64 x0.Value), (.slice a0_2 x0.Kids.length n0_2)] hs0 (fun b21 w22 hs23 => ?_)
 refine Vs 1 ?_
 refine RY ?_
 refine Ac ?_
 refine Sq ?_
 refine Rg [0, 1] ?_
 refine Vs 2 ?_
 refine RY ?_
 refine Ac ?_
 refine Rt ?_
 exact ⟨rfl, _, Av (l := [.tmp 2]) (by kernel_rfl) (vs := [.func (.func 175) #[] #[.pointer (some ⟨b21, 0, none⟩)]]) ⟨by kernel_rfl, trivial⟩, _, F0, _, rfl, hs23, b21, rfl, rfl⟩
end Go.Proofs.YtaihlcdkcampbaaGreatDoor
namespace Go.Proofs
open Go.Shelf
def Tryz.lays137_ren : Go.Shelf.Ren := ⟨fun | 137 => 183 | 217 => 211 | 266 => 225 | n => n, fun | 9 => 9 | 5 => 5 | 3 => 3 | n => n, fun | n => n⟩
theorem Tryz.lays137 : Go.Proofs.Lays.n137 Tryz.prog Tryz.lays137_ren := {
 mixed := by kernel_rfl
 f137 := Tryz.func183.trans (congrArg some (by kernel_rfl))
 f217 := Tryz.func211.trans (congrArg some (by kernel_rfl))
 f266 := Tryz.func225.trans (congrArg some (by kernel_rfl))
 t3 := Tryz.underlying3
 a3 := Tryz.isAgg3
 z3 := Tryz.sizeOf3
 v3 := Tryz.zeroValue3
 t5 := Tryz.underlying5
 a5 := Tryz.isAgg5
 z5 := Tryz.sizeOf5
 v5 := Tryz.zeroValue5
 t9 := Tryz.underlying9
 a9 := Tryz.isAgg9
 z9 := Tryz.sizeOf9
 v9 := Tryz.zeroValue9 }
open Go.RowKit in
theorem Tryz.strings_IndexByte (s : ByteArray) (c : Int) (w : World) :
  Calls Tryz.prog 183 #[.string s, .int .u8 c] w fun e w' => e = .returned (.int .i64 (Lib.indexByte s.data.toList c.toNat.toUInt8)) /\ w' = w := Any.strings_IndexByte Tryz.lays137 s c w
def Tryz.laysM171_ren : Go.Shelf.Ren := ⟨fun | 171 => 151 | 243 => 196 | 246 => 218 | 283 => 228 | 284 => 229 | 285 => 230 | 286 => 231 | 129 => 209 | 317 => 235 | 318 => 236 | 319 => 237 | 320 => 238 | 337 => 241 | 338 => 242 | n => n, fun | 3 => 3 | 9 => 9 | 2 => 2 | 4 => 4 | 171 => 227 | 0 => 0 | 53 => 218 | 37 => 42 | 5 => 5 | 173 => 229 | 212 => 234 | 51 => 216 | 20 => 20 | 213 => 235 | 46 => 191 | 232 => 237 | 233 => 238 | n => n, fun | 17 => 1 | 18 => 2 | 19 => 3 | n => n⟩
theorem Tryz.laysM171 : Go.Proofs.LaysM.n171 Tryz.prog Tryz.laysM171_ren := {
 mixed := by kernel_rfl
 f129 := Tryz.func209.trans (congrArg some (by kernel_rfl))
 f171 := Tryz.func151.trans (congrArg some (by kernel_rfl))
 f243 := Tryz.func196.trans (congrArg some (by kernel_rfl))
 f246 := Tryz.func218.trans (congrArg some (by kernel_rfl))
 f283 := Tryz.func228.trans (congrArg some (by kernel_rfl))
 f284 := Tryz.func229.trans (congrArg some (by kernel_rfl))
 f285 := Tryz.func230.trans (congrArg some (by kernel_rfl))
 f286 := Tryz.func231.trans (congrArg some (by kernel_rfl))
 f317 := Tryz.func235.trans (congrArg some (by kernel_rfl))
 f318 := Tryz.func236.trans (congrArg some (by kernel_rfl))
 f319 := Tryz.func237.trans (congrArg some (by kernel_rfl))
 f320 := Tryz.func238.trans (congrArg some (by kernel_rfl))
 f337 := Tryz.func241.trans (congrArg some (by kernel_rfl))
 f338 := Tryz.func242.trans (congrArg some (by kernel_rfl))
 t0 := Tryz.underlying0
 a0 := Tryz.isAgg0
 z0 := Tryz.sizeOf0
 v0 := Tryz.zeroValue0
 t2 := Tryz.underlying2
 a2 := Tryz.isAgg2
 z2 := Tryz.sizeOf2
 v2 := Tryz.zeroValue2
 t3 := Tryz.underlying3
 a3 := Tryz.isAgg3
 z3 := Tryz.sizeOf3
 v3 := Tryz.zeroValue3
 t4 := Tryz.underlying4
 a4 := Tryz.isAgg4
 z4 := Tryz.sizeOf4
 v4 := Tryz.zeroValue4
 t5 := Tryz.underlying5
 a5 := Tryz.isAgg5
 z5 := Tryz.sizeOf5
 v5 := Tryz.zeroValue5
 t9 := Tryz.underlying9
 a9 := Tryz.isAgg9
 z9 := Tryz.sizeOf9
 v9 := Tryz.zeroValue9
 t20 := Tryz.underlying20
 a20 := Tryz.isAgg20
 z20 := Tryz.sizeOf20
 v20 := Tryz.zeroValue20
 t37 := Tryz.underlying42
 a37 := Tryz.isAgg42
 z37 := Tryz.sizeOf42
 v37 := Tryz.zeroValue42
 t46 := Tryz.underlying191
 a46 := Tryz.isAgg191
 z46 := Tryz.sizeOf191
 v46 := Tryz.zeroValue191
 t51 := Tryz.underlying216
 a51 := Tryz.isAgg216
 z51 := Tryz.sizeOf216
 v51 := Tryz.zeroValue216
 t53 := Tryz.underlying218
 a53 := Tryz.isAgg218
 z53 := Tryz.sizeOf218
 v53 := Tryz.zeroValue218
 t171 := Tryz.underlying227
 a171 := Tryz.isAgg227
 z171 := Tryz.sizeOf227
 v171 := Tryz.zeroValue227
 t173 := Tryz.underlying229
 a173 := Tryz.isAgg229
 z173 := Tryz.sizeOf229
 v173 := Tryz.zeroValue229
 t212 := Tryz.underlying234
 a212 := Tryz.isAgg234
 z212 := Tryz.sizeOf234
 v212 := Tryz.zeroValue234
 t213 := Tryz.underlying235
 a213 := Tryz.isAgg235
 z213 := Tryz.sizeOf235
 t232 := Tryz.underlying237
 a232 := Tryz.isAgg237
 z232 := Tryz.sizeOf237
 v232 := Tryz.zeroValue237
 t233 := Tryz.underlying238
 a233 := Tryz.isAgg238
 z233 := Tryz.sizeOf238
 v233 := Tryz.zeroValue238
 g17 := by kernel_rfl
 g18 := by kernel_rfl
 g19 := by kernel_rfl
 i0 := by kernel_rfl
 i2 := by kernel_rfl
 i3 := by kernel_rfl
 i4 := by kernel_rfl
 i5 := by kernel_rfl
 i9 := by kernel_rfl
 i20 := by kernel_rfl
 i37 := by kernel_rfl
 i46 := by kernel_rfl
 i51 := by kernel_rfl
 i53 := by kernel_rfl
 i171 := by kernel_rfl
 i173 := by kernel_rfl
 i212 := by kernel_rfl
 i232 := by kernel_rfl
 i233 := by kernel_rfl
 m17 := by kernel_rfl
 m18 := by kernel_rfl
 m19 := by kernel_rfl }
open Go.RowKit Go.Sort Go.Lib in
theorem Tryz.strconv_Itoa (n : Int) (h0 : -9223372036854775808 <= n) (h1 : n <= 9223372036854775807) (w : World) (htab : Lib.TabIs Tryz.prog w "internal/strconv.uint64pow10" .u64 Lib.pow10Tab) :
  Calls Tryz.prog 151 #[.int .i64 n] w fun e w' => e = .returned (.string ⟨(Lib.itoa n).toArray⟩) /\ ∃ k os, w' = grow (w.drewN k) os := Any.strconv_Itoa Tryz.laysM171 n h0 h1 w htab
def Tryz.laysC172_ren : Go.Shelf.Ren := ⟨fun | 172 => 248 | 244 => 251 | 245 => 252 | 247 => 253 | 279 => 254 | 280 => 255 | 281 => 256 | 282 => 257 | 287 => 258 | 316 => 259 | 171 => 151 | 205 => 260 | 321 => 261 | 322 => 262 | 243 => 196 | 246 => 218 | 283 => 228 | 284 => 229 | 285 => 230 | 286 => 231 | 129 => 209 | 317 => 235 | 318 => 236 | 319 => 237 | 320 => 238 | 337 => 241 | 338 => 242 | n => n, fun | 9 => 9 | 3 => 3 | 75 => 134 | 76 => 135 | 4 => 4 | 5 => 5 | 167 => 241 | 37 => 42 | 0 => 0 | 85 => 242 | 2 => 2 | 168 => 244 | 53 => 218 | 175 => 247 | 46 => 191 | 210 => 251 | 127 => 184 | 145 => 256 | 143 => 254 | 21 => 21 | 171 => 227 | 173 => 229 | 212 => 234 | 51 => 216 | 20 => 20 | 213 => 235 | 232 => 237 | 233 => 238 | 80 => 137 | n => n, fun | 15 => 4 | 16 => 5 | 17 => 1 | 18 => 2 | 19 => 3 | n => n⟩
theorem Tryz.laysC172 : Go.Proofs.LaysC.n172 Tryz.prog Tryz.laysC172_ren := {
 mixed := by kernel_rfl
 f129 := Tryz.func209.trans (congrArg some (by kernel_rfl))
 f171 := Tryz.func151.trans (congrArg some (by kernel_rfl))
 f172 := Tryz.func248.trans (congrArg some (by kernel_rfl))
 f205 := Tryz.func260.trans (congrArg some (by kernel_rfl))
 f243 := Tryz.func196.trans (congrArg some (by kernel_rfl))
 f244 := Tryz.func251.trans (congrArg some (by kernel_rfl))
 f245 := Tryz.func252.trans (congrArg some (by kernel_rfl))
 f246 := Tryz.func218.trans (congrArg some (by kernel_rfl))
 f247 := Tryz.func253.trans (congrArg some (by kernel_rfl))
 f279 := Tryz.func254.trans (congrArg some (by kernel_rfl))
 f280 := Tryz.func255.trans (congrArg some (by kernel_rfl))
 f281 := Tryz.func256.trans (congrArg some (by kernel_rfl))
 f282 := Tryz.func257.trans (congrArg some (by kernel_rfl))
 f283 := Tryz.func228.trans (congrArg some (by kernel_rfl))
 f284 := Tryz.func229.trans (congrArg some (by kernel_rfl))
 f285 := Tryz.func230.trans (congrArg some (by kernel_rfl))
 f286 := Tryz.func231.trans (congrArg some (by kernel_rfl))
 f287 := Tryz.func258.trans (congrArg some (by kernel_rfl))
 f316 := Tryz.func259.trans (congrArg some (by kernel_rfl))
 f317 := Tryz.func235.trans (congrArg some (by kernel_rfl))
 f318 := Tryz.func236.trans (congrArg some (by kernel_rfl))
 f319 := Tryz.func237.trans (congrArg some (by kernel_rfl))
 f320 := Tryz.func238.trans (congrArg some (by kernel_rfl))
 f321 := Tryz.func261.trans (congrArg some (by kernel_rfl))
 f322 := Tryz.func262.trans (congrArg some (by kernel_rfl))
 f337 := Tryz.func241.trans (congrArg some (by kernel_rfl))
 f338 := Tryz.func242.trans (congrArg some (by kernel_rfl))
 t0 := Tryz.underlying0
 a0 := Tryz.isAgg0
 z0 := Tryz.sizeOf0
 v0 := Tryz.zeroValue0
 t2 := Tryz.underlying2
 a2 := Tryz.isAgg2
 z2 := Tryz.sizeOf2
 v2 := Tryz.zeroValue2
 t3 := Tryz.underlying3
 a3 := Tryz.isAgg3
 z3 := Tryz.sizeOf3
 v3 := Tryz.zeroValue3
 t4 := Tryz.underlying4
 a4 := Tryz.isAgg4
 z4 := Tryz.sizeOf4
 v4 := Tryz.zeroValue4
 t5 := Tryz.underlying5
 a5 := Tryz.isAgg5
 z5 := Tryz.sizeOf5
 v5 := Tryz.zeroValue5
 t9 := Tryz.underlying9
 a9 := Tryz.isAgg9
 z9 := Tryz.sizeOf9
 v9 := Tryz.zeroValue9
 t20 := Tryz.underlying20
 a20 := Tryz.isAgg20
 z20 := Tryz.sizeOf20
 v20 := Tryz.zeroValue20
 t21 := Tryz.underlying21
 a21 := Tryz.isAgg21
 z21 := Tryz.sizeOf21
 v21 := Tryz.zeroValue21
 t37 := Tryz.underlying42
 a37 := Tryz.isAgg42
 z37 := Tryz.sizeOf42
 v37 := Tryz.zeroValue42
 t46 := Tryz.underlying191
 a46 := Tryz.isAgg191
 z46 := Tryz.sizeOf191
 v46 := Tryz.zeroValue191
 t51 := Tryz.underlying216
 a51 := Tryz.isAgg216
 z51 := Tryz.sizeOf216
 v51 := Tryz.zeroValue216
 t53 := Tryz.underlying218
 a53 := Tryz.isAgg218
 z53 := Tryz.sizeOf218
 v53 := Tryz.zeroValue218
 t75 := Tryz.underlying134
 a75 := Tryz.isAgg134
 z75 := Tryz.sizeOf134
 v75 := Tryz.zeroValue134
 t76 := Tryz.underlying135
 a76 := Tryz.isAgg135
 z76 := Tryz.sizeOf135
 v76 := Tryz.zeroValue135
 t85 := Tryz.underlying242
 a85 := Tryz.isAgg242
 z85 := Tryz.sizeOf242
 v85 := Tryz.zeroValue242
 t127 := Tryz.underlying184
 a127 := Tryz.isAgg184
 z127 := Tryz.sizeOf184
 v127 := Tryz.zeroValue184
 t143 := Tryz.underlying254
 a143 := Tryz.isAgg254
 z143 := Tryz.sizeOf254
 v143 := Tryz.zeroValue254
 t145 := Tryz.underlying256
 a145 := Tryz.isAgg256
 z145 := Tryz.sizeOf256
 v145 := Tryz.zeroValue256
 t167 := Tryz.underlying241
 a167 := Tryz.isAgg241
 z167 := Tryz.sizeOf241
 v167 := Tryz.zeroValue241
 t168 := Tryz.underlying244
 a168 := Tryz.isAgg244
 z168 := Tryz.sizeOf244
 v168 := Tryz.zeroValue244
 t171 := Tryz.underlying227
 a171 := Tryz.isAgg227
 z171 := Tryz.sizeOf227
 v171 := Tryz.zeroValue227
 t173 := Tryz.underlying229
 a173 := Tryz.isAgg229
 z173 := Tryz.sizeOf229
 v173 := Tryz.zeroValue229
 t175 := Tryz.underlying247
 a175 := Tryz.isAgg247
 z175 := Tryz.sizeOf247
 v175 := Tryz.zeroValue247
 t210 := Tryz.underlying251
 a210 := Tryz.isAgg251
 z210 := Tryz.sizeOf251
 v210 := Tryz.zeroValue251
 t212 := Tryz.underlying234
 a212 := Tryz.isAgg234
 z212 := Tryz.sizeOf234
 v212 := Tryz.zeroValue234
 t213 := Tryz.underlying235
 a213 := Tryz.isAgg235
 z213 := Tryz.sizeOf235
 t232 := Tryz.underlying237
 a232 := Tryz.isAgg237
 z232 := Tryz.sizeOf237
 v232 := Tryz.zeroValue237
 t233 := Tryz.underlying238
 a233 := Tryz.isAgg238
 z233 := Tryz.sizeOf238
 v233 := Tryz.zeroValue238
 g15 := by kernel_rfl
 g16 := by kernel_rfl
 g17 := by kernel_rfl
 g18 := by kernel_rfl
 g19 := by kernel_rfl
 t80 := Tryz.underlying137
 a80 := Tryz.isAgg137
 z80 := Tryz.sizeOf137
 v80 := Tryz.zeroValue137
 i0 := by kernel_rfl
 i2 := by kernel_rfl
 i3 := by kernel_rfl
 i4 := by kernel_rfl
 i5 := by kernel_rfl
 i9 := by kernel_rfl
 i20 := by kernel_rfl
 i21 := by kernel_rfl
 i37 := by kernel_rfl
 i46 := by kernel_rfl
 i51 := by kernel_rfl
 i53 := by kernel_rfl
 i75 := by kernel_rfl
 i76 := by kernel_rfl
 i80 := by kernel_rfl
 i85 := by kernel_rfl
 i127 := by kernel_rfl
 i143 := by kernel_rfl
 i145 := by kernel_rfl
 i167 := by kernel_rfl
 i168 := by kernel_rfl
 i171 := by kernel_rfl
 i173 := by kernel_rfl
 i175 := by kernel_rfl
 i210 := by kernel_rfl
 i212 := by kernel_rfl
 i232 := by kernel_rfl
 i233 := by kernel_rfl
 m15 := by kernel_rfl
 m16 := by kernel_rfl
 m17 := by kernel_rfl
 m18 := by kernel_rfl
 m19 := by kernel_rfl
 c0 := by kernel_rfl
 c2 := by kernel_rfl
 c3 := by kernel_rfl
 c4 := by kernel_rfl
 c5 := by kernel_rfl
 c9 := by kernel_rfl
 c20 := by kernel_rfl
 c21 := by kernel_rfl
 c37 := by kernel_rfl
 c46 := by kernel_rfl
 c51 := by kernel_rfl
 c53 := by kernel_rfl
 c75 := by kernel_rfl
 c76 := by kernel_rfl
 c80 := by kernel_rfl
 c85 := by kernel_rfl
 c127 := by kernel_rfl
 c143 := by kernel_rfl
 c145 := by kernel_rfl
 c167 := by kernel_rfl
 c168 := by kernel_rfl
 c171 := by kernel_rfl
 c173 := by kernel_rfl
 c175 := by kernel_rfl
 c210 := by kernel_rfl
 c212 := by kernel_rfl
 c213 := by kernel_rfl
 c232 := by kernel_rfl
 c233 := by kernel_rfl }
open Go.RowKit in
theorem Tryz.strconv_Atoi_ok (s : ByteArray) (hmax : s.size <= 9223372036854775806) (v : Int) (h : Lib.atoiAll s.data.toList = .ok v) (w : World) :
  Calls Tryz.prog 248 #[.string s] w fun e w' => e = .returned (.tuple #[.int .i64 v, .nilIface]) /\ (w' = w \/ ∃ t, w' = Lib.bytesWorld w 5 t) := Any.strconv_Atoi_ok Tryz.laysC172 s hmax v h w
open Go.RowKit in
theorem Tryz.strconv_Atoi_range_var (s : ByteArray) (hlim : s.size <= 281474976710656) (h : Lib.atoiAll s.data.toList = .range) (tp : TypeId) (p : Value) (w : World) (hvar : w.var? Tryz.prog "strconv.ErrRange" = some #[.iface tp p]) :
  Calls Tryz.prog 248 #[.string s] w fun e w' => ∃ N, e = .returned (.tuple #[.int .i64 (Lib.atoiSat s.data.toList), .iface 244 (.pointer (some ⟨N, 0, none⟩))]) /\ w.heap.size <= N /\ w'.heap[N]? = some (.cells #[.string ⟨#[65, 116, 111, 105]⟩, .string s, .iface tp p] 251 (0, 0)) /\ Below w.heap.size w w' := Any.strconv_Atoi_range_var Tryz.laysC172 s hlim h tp p w hvar
def Tryz.lays99_ren : Go.Shelf.Ren := ⟨fun | 99 => 182 | 206 => 210 | n => n, fun | 9 => 9 | 4 => 4 | 3 => 3 | n => n, fun | n => n⟩
theorem Tryz.lays99 : Go.Proofs.Lays.n99 Tryz.prog Tryz.lays99_ren := {
 mixed := by kernel_rfl
 f99 := Tryz.func182.trans (congrArg some (by kernel_rfl))
 f206 := Tryz.func210.trans (congrArg some (by kernel_rfl))
 t3 := Tryz.underlying3
 a3 := Tryz.isAgg3
 z3 := Tryz.sizeOf3
 v3 := Tryz.zeroValue3
 t4 := Tryz.underlying4
 a4 := Tryz.isAgg4
 z4 := Tryz.sizeOf4
 v4 := Tryz.zeroValue4
 t9 := Tryz.underlying9
 a9 := Tryz.isAgg9
 z9 := Tryz.sizeOf9
 v9 := Tryz.zeroValue9 }
open Go.RowKit Go.Lib in
theorem Tryz.strings_HasPrefix (s p : ByteArray) (w : World) :
  Calls Tryz.prog 182 #[.string s, .string p] w fun e w' => e = .returned (.bool (Lib.hasPrefix s.data.toList p.data.toList)) /\ w' = w := Any.strings_HasPrefix Tryz.lays99 s p w
def Tryz.laysNm220_ren : Go.Shelf.Ren := ⟨fun | 20 => 129 | n => n, fun | 22 => 47 | 3 => 3 | 4 => 4 | 0 => 0 | n => n, fun | n => n⟩
theorem Tryz.laysNm220 : Go.Proofs.Lays2.n20 Tryz.prog Tryz.laysNm220_ren := {
 mixed := by kernel_rfl
 f20 := Tryz.func129.trans (congrArg some (by kernel_rfl))
 t0 := Tryz.underlying0
 a0 := Tryz.isAgg0
 z0 := Tryz.sizeOf0
 v0 := Tryz.zeroValue0
 t3 := Tryz.underlying3
 a3 := Tryz.isAgg3
 z3 := Tryz.sizeOf3
 v3 := Tryz.zeroValue3
 t4 := Tryz.underlying4
 a4 := Tryz.isAgg4
 z4 := Tryz.sizeOf4
 v4 := Tryz.zeroValue4
 t22 := Tryz.underlying47
 a22 := Tryz.isAgg47
 z22 := Tryz.sizeOf47
 v22 := Tryz.zeroValue47
 i3 := by kernel_rfl }
open Go.RowKit Go.Lib Go.Sort in
theorem Tryz.slices_Compact_int (blk off cap : Nat) (zs : List Int) (w : World) (hH : Holds (Value.int .i64) w blk off zs.toArray) (hsz : zs.length <= 9223372036854775807) (hcap : zs.length <= cap) :
  Calls Tryz.prog 129 #[.slice (some ⟨blk, off, none⟩) zs.length cap] w fun e w' => e = .returned (.slice (some ⟨blk, off, none⟩) (Lib.compact zs).length cap) /\ ∃ q, w' = putRow (Value.int .i64) (Sort.ahead w q) blk off (Lib.compact zs ++ List.replicate (zs.length - (Lib.compact zs).length) 0).toArray := Any.slices_Compact_int Tryz.laysNm220 blk off cap zs w hH hsz hcap
open Go.RowKit Go.Lib Go.Sort in
theorem Tryz.slices_Compact_int_empty (a : Option Addr) (cap : Nat) (w : World) :
  Calls Tryz.prog 129 #[.slice a 0 cap] w fun e w' => e = .returned (.slice a 0 cap) /\ w' = w := Any.slices_Compact_int_empty Tryz.laysNm220 a cap w
end Go.Proofs
namespace Go.Proofs.YtaihlcdkcampbaaGreatDoor
end Go.Proofs.YtaihlcdkcampbaaGreatDoor
namespace Go.Proofs
open Go.Shelf
def Tryz.lays189_ren : Go.Shelf.Ren := ⟨fun | 189 => 128 | 125 => 178 | 257 => 177 | 128 => 208 | 129 => 209 | 294 => 199 | 295 => 200 | 296 => 201 | 297 => 202 | 298 => 203 | 299 => 204 | 216 => 205 | 300 => 206 | 301 => 207 | 328 => 219 | 329 => 220 | 330 => 221 | 331 => 222 | 332 => 223 | 215 => 224 | 343 => 232 | n => n, fun | 28 => 47 | 3 => 3 | 46 => 191 | 0 => 0 | 51 => 216 | 53 => 218 | 4 => 4 | 183 => 208 | 182 => 207 | 131 => 213 | 5 => 5 | 9 => 9 | 218 => 221 | 222 => 225 | 228 => 231 | 229 => 232 | n => n, fun | n => n⟩
theorem Tryz.lays189 : Go.Proofs.Lays.n189 Tryz.prog Tryz.lays189_ren := {
 mixed := by kernel_rfl
 f125 := Tryz.func178.trans (congrArg some (by kernel_rfl))
 f128 := Tryz.func208.trans (congrArg some (by kernel_rfl))
 f129 := Tryz.func209.trans (congrArg some (by kernel_rfl))
 f189 := Tryz.func128.trans (congrArg some (by kernel_rfl))
 f215 := Tryz.func224.trans (congrArg some (by kernel_rfl))
 f216 := Tryz.func205.trans (congrArg some (by kernel_rfl))
 f257 := Tryz.func177.trans (congrArg some (by kernel_rfl))
 f294 := Tryz.func199.trans (congrArg some (by kernel_rfl))
 f295 := Tryz.func200.trans (congrArg some (by kernel_rfl))
 f296 := Tryz.func201.trans (congrArg some (by kernel_rfl))
 f297 := Tryz.func202.trans (congrArg some (by kernel_rfl))
 f298 := Tryz.func203.trans (congrArg some (by kernel_rfl))
 f299 := Tryz.func204.trans (congrArg some (by kernel_rfl))
 f300 := Tryz.func206.trans (congrArg some (by kernel_rfl))
 f301 := Tryz.func207.trans (congrArg some (by kernel_rfl))
 f328 := Tryz.func219.trans (congrArg some (by kernel_rfl))
 f329 := Tryz.func220.trans (congrArg some (by kernel_rfl))
 f330 := Tryz.func221.trans (congrArg some (by kernel_rfl))
 f331 := Tryz.func222.trans (congrArg some (by kernel_rfl))
 f332 := Tryz.func223.trans (congrArg some (by kernel_rfl))
 f343 := Tryz.func232.trans (congrArg some (by kernel_rfl))
 t0 := Tryz.underlying0
 a0 := Tryz.isAgg0
 z0 := Tryz.sizeOf0
 v0 := Tryz.zeroValue0
 t3 := Tryz.underlying3
 a3 := Tryz.isAgg3
 z3 := Tryz.sizeOf3
 v3 := Tryz.zeroValue3
 t4 := Tryz.underlying4
 a4 := Tryz.isAgg4
 z4 := Tryz.sizeOf4
 v4 := Tryz.zeroValue4
 t5 := Tryz.underlying5
 a5 := Tryz.isAgg5
 z5 := Tryz.sizeOf5
 v5 := Tryz.zeroValue5
 t9 := Tryz.underlying9
 a9 := Tryz.isAgg9
 z9 := Tryz.sizeOf9
 v9 := Tryz.zeroValue9
 t28 := Tryz.underlying47
 a28 := Tryz.isAgg47
 z28 := Tryz.sizeOf47
 v28 := Tryz.zeroValue47
 t46 := Tryz.underlying191
 a46 := Tryz.isAgg191
 z46 := Tryz.sizeOf191
 v46 := Tryz.zeroValue191
 t51 := Tryz.underlying216
 a51 := Tryz.isAgg216
 z51 := Tryz.sizeOf216
 v51 := Tryz.zeroValue216
 t53 := Tryz.underlying218
 a53 := Tryz.isAgg218
 z53 := Tryz.sizeOf218
 v53 := Tryz.zeroValue218
 t131 := Tryz.underlying213
 a131 := Tryz.isAgg213
 z131 := Tryz.sizeOf213
 v131 := Tryz.zeroValue213
 t182 := Tryz.underlying207
 a182 := Tryz.isAgg207
 z182 := Tryz.sizeOf207
 v182 := Tryz.zeroValue207
 t183 := Tryz.underlying208
 a183 := Tryz.isAgg208
 z183 := Tryz.sizeOf208
 v183 := Tryz.zeroValue208
 t218 := Tryz.underlying221
 a218 := Tryz.isAgg221
 z218 := Tryz.sizeOf221
 v218 := Tryz.zeroValue221
 t222 := Tryz.underlying225
 a222 := Tryz.isAgg225
 z222 := Tryz.sizeOf225
 v222 := Tryz.zeroValue225
 t228 := Tryz.underlying231
 a228 := Tryz.isAgg231
 z228 := Tryz.sizeOf231
 v228 := Tryz.zeroValue231
 t229 := Tryz.underlying232
 a229 := Tryz.isAgg232
 z229 := Tryz.sizeOf232
 v229 := Tryz.zeroValue232 }
open Go.Sort Go.RowKit in
theorem Tryz.slices_Sort_int (blk off cap : Nat) (zs : List Int) (w : World) (hH : Holds (Value.int .i64) w blk off zs.toArray) (hblk : blk < w.heap.size) (hsz : zs.length < 4611686018427387904) :
  Calls Tryz.prog 128 #[.slice (some ⟨blk, off, none⟩) zs.length cap] w fun e w' =>
   e = .returned (.tuple #[]) /\ ∃ n os, w' = grow (putRow (Value.int .i64) (Sort.ahead w n) blk off (zs.mergeSort fun x y => decide (x <= y)).toArray) os := Any.slices_Sort_int Tryz.lays189 blk off cap zs w hH hblk hsz
open Go.RowKit Go.Sort in
theorem Tryz.slices_Sort_int_none (p : Option Addr) (cap : Nat) (w : World) :
  Calls Tryz.prog 128 #[.slice p 0 cap] w fun e w' => e = .returned (.tuple #[]) /\ w' = w := Any.slices_Sort_int_none Tryz.lays189 p cap w
end Go.Proofs
namespace Go.Proofs.YtaihlcdkcampbaaGreatDoor
section
open Go.Proofs Go.RowKit Go.Sort Go.Lib
def Hk (l : List Int) : List Int := l.mergeSort fun x y => decide (x <= y)
def Cm (_N : Nat) (l : List Int) : Option (List Int) := some (Hk l)
theorem FK {N : Nat} {l r : List Int} (h : Cm N l = some r) : r.length = l.length := by cases h; simp [Hk]
theorem FN : An Tryz.prog 128 := fun _ _ => by kernel_rfl
theorem FY (N : Nat) {wb w0 : World} {Fb F0 : Mem} {Lf : Own} (x0 : List Int) (a0 : Sy) (n0 : Nat) (e0 : Option Nat × Obj) (hr0 : Au Bu 3 F0 a0 n0 x0 e0) (hs0 : HS wb Fb w0 F0 (e0 :: Lf)) (r : List Int) (h : Cm N x0 = some r) :
  Calls Tryz.prog 128 ([.slice a0 x0.length n0] : List Value).toArray w0 (fun e w' => ∃ F' e', e = .returned (.tuple #[]) /\ HS wb Fb w' F' (e' :: Lf) /\ R5 F0 F' /\ Au Bu 3 F' a0 n0 r e') := by
 cases h
 by_cases hne : x0 = []
 ·subst hne
  refine (Tryz.slices_Sort_int_none a0 n0 w0).mono ?_
  rintro e w' ⟨rfl, rfl⟩
  exact ⟨F0, e0, rfl, hs0, R6 _, by simpa [Hk] using hr0⟩
 ·obtain ⟨b, C, rfl, rfl, hcap, hb, hH⟩ := hr0.holds Qh hs0 hne
  refine (Tryz.slices_Sort_int b 0 n0 x0 w0 hH hb (by have := hr0.1; omega)).mono ?_
  rintro e w' ⟨rfl, n, os, rfl⟩
  obtain ⟨e', h1, h2⟩ := hr0.putRow Qh hs0 hne rfl (n := n) (os := os) (d := Hk x0) (l' := Hk x0) (r := []) (by simp [Hk]) (by simp)
  exact ⟨F0, e', rfl, h1, R6 _, h2⟩
def BT (_N : Nat) (l : List Int) : Option (List Int) := if (Go.Lib.compact l).length <= l.length then some (Go.Lib.compact l) else none
theorem EP : An Tryz.prog 129 := fun _ _ => by kernel_rfl
theorem Fg (N : Nat) {wb w0 : World} {Fb F0 : Mem} {Lf : Own} (x0 : List Int) (a0 : Sy) (n0 : Nat) (e0 : Option Nat × Obj) (hr0 : Au Bu 3 F0 a0 n0 x0 e0) (hs0 : HS wb Fb w0 F0 (e0 :: Lf)) (r : List Int) (h : BT N x0 = some r) :
  Calls Tryz.prog 129 ([.slice a0 x0.length n0] : List Value).toArray w0 (fun e w' => ∃ F' e', e = .returned (.slice a0 r.length n0) /\ HS wb Fb w' F' (e' :: Lf) /\ R5 F0 F' /\ Au Bu 3 F' a0 n0 r e') := by
 unfold BT at h
 split at h
 ·rename_i hle
  cases h
  by_cases hne : x0 = []
  ·subst hne
   refine (Tryz.slices_Compact_int_empty a0 n0 w0).mono ?_
   rintro e w' ⟨rfl, rfl⟩
   have e1 : Go.Lib.compact ([] : List Int) = [] := List.length_eq_zero_iff.1 (Nat.le_zero.1 hle)
   rw [e1]
   exact ⟨F0, e0, rfl, hs0, R6 _, hr0⟩
  ·obtain ⟨b, C, rfl, rfl, hcap, hb, hH⟩ := hr0.holds Qh hs0 hne
   refine (Tryz.slices_Compact_int b 0 n0 x0 w0 hH (by have := hr0.1; omega) hcap).mono ?_
   rintro e w' ⟨rfl, n, rfl⟩
   obtain ⟨e', h1, h2⟩ := hr0.putRow Qh hs0 hne rfl (n := n) (os := #[]) (d := Go.Lib.compact x0 ++ List.replicate (x0.length - (Go.Lib.compact x0).length) 0) (l' := Go.Lib.compact x0) (r := List.replicate (x0.length - (Go.Lib.compact x0).length) 0) (by simp; omega) rfl
   rw [grow_empty] at h1
   exact ⟨F0, e', rfl, h1, R6 _, h2⟩
 ·cases h
end
def De (N : Nat) (x0 : Expr) : (List Int) -> Expr -> Option (List Int) := fun s37 y59 =>
 ((bif ((y59.Op == 2) && ((decide (y59.Value >= 0)) && (decide (y59.Value < 14)))) then ((EQ s37 [y59.Value]).bind fun r100 => some r100) else some s37).bind fun j85 => some j85)
def DA (N : Nat) (x0 : Expr) : Option (List Int) :=
 ((DU N (fun st x => ((De N x0) st x).map fun t => (true, t)) x0 ([] : List Int)).bind fun r45 => ((Cm N r45).bind fun r117 => ((BT N r117).bind fun r127 => some r127)))
theorem FV : An Tryz.prog 75 := fun _ _ => by kernel_rfl
theorem GO (N : Nat) (w0 : World) (F0 : Mem) (hF : Sz w0 F0) (x0 : Expr) (a0_2 : Sy) (n0_2 : Nat) (hb0_2 : LC x0.Kids.length n0_2) (hs0_2 : SlA Ao F0 a0_2 x0.Kids) (r : (List Int)) (h : DA N x0 = some r) :
  Calls Tryz.prog 75 ([(.agg (Ae x0 a0_2 n0_2))] : List Value).toArray w0 (AU w0 F0 fun F' v => ∃ (aq0_0 : Sy) (nq0_0 : Nat), v = (.slice aq0_0 r.length nq0_0) /\ LC r.length nq0_0 /\ SlA Bu F' aq0_0 r) := by
 have hs0 := R7 hF
 refine LD (n := 30) (c := B7 Tryz.f75) Tryz.func75 (by kernel_rfl) (by kernel_rfl) (by kernel_rfl) ?_
 refine Sq (Rg [0, 1] ?_)
 refine Bx' 33 (Ae x0 a0_2 n0_2) hs0 (fun b21 w22 hs23 => ?_)
 refine Vs 1 ?_
 refine Nss (Rg [0] ?_)
 refine Al' 47 #[(.slice none ([] : List Int).length 0)] hs23 (fun b24 w25 hs26 => ?_)
 refine Nss ?_
 refine Sq (Rg [0, 1] ?_)
 refine Ld hs26.at1 ?_
 refine RWP.callO (dst := (some 6)) (ty := 152) (g := none) (by kernel_rfl) rfl (f0 := (.func 127)) (aos := #[(.tmp 5)]) (ats := #[33]) (fid := 127) (first := #[]) (cap := #[]) (args := [(.agg (Ae x0 a0_2 n0_2))]) rfl Kx rfl hs26 (K7 w25 F0 hs26.pers x0 a0_2 n0_2 hb0_2 hs0_2) ?_
 rintro _ F1 w28 _ hs29 le30 ⟨b27, rfl, rfl⟩
 have hs31 : HS w0 F0 w28 F1 [(sb b27 (Ae x0 a0_2 n0_2) 33), (sb b24 #[(.slice none ([] : List Int).length 0)] 47), (sb b21 (Ae x0 a0_2 n0_2) 33)] := hs29
 refine Nt ?_
 refine Bk ?_
 obtain ⟨F2, hs32, le33, hF34⟩ := hs31.fc0
 have hs35 := hs32.dr1.dummy (oc #[] 0)
 obtain ⟨r45, hr46, h47⟩ := bind_some h
 refine CWP.rangeFunc (enc := Ok) (ok := Qi) (px := Qd) (m := fun {_} y s => DU N y x0 s) (L := [(none, .cells #[] 0 (0, 0)), (sb b24 #[(.slice none ([] : List Int).length 0)] 47)]) (B := []) (ps := [7]) (by kernel_rfl) (gf := 175) (cap := [(pt b27 0)]) rfl Ja rfl (by kernel_rfl) (by kernel_rfl) (by rintro ⟨_, _, _⟩; rfl) hs35 (JW N F2 x0 a0_2 n0_2 hb0_2 (R8 hs0_2 (le30.trans le33)) b27 hF34) (fun st x => ((De N x0) st x).map fun t => (true, t)) (fun (s37 : (List Int)) (F3 : Mem) (Lq : Own) => ∃ (as37_0 : Sy) (ns37_0 : Nat) (es37_0 : Option Nat × Obj), Lq = [es37_0, (sb b24 #[(.slice as37_0 s37.length ns37_0)] 47)] /\ Au Bu 3 F3 as37_0 ns37_0 s37 es37_0) ?_ (s := ([] : List Int)) (r := r45) ?_ hr46 (fun _ _ _ h => (HZ h).1) ?_ ?_
 ·rintro s F F' L ⟨as37_0, ns37_0, es37_0, rfl, hrs37_0⟩ hl
  exact ⟨as37_0, ns37_0, es37_0, rfl, (hrs37_0.mono hl)⟩
 ·exact ⟨none, 0, (none, .cells #[] 0 (0, 0)), rfl, (So Bu 3 F2 _)⟩
 ·rintro l48 s37 ⟨y59, ay59_2, ny59_2⟩ w51 F3 _ Rf53 ⟨_, q54⟩ le55 ⟨hby59_2, hsy59_2⟩ ⟨as37_0, ns37_0, es37_0, rfl, hrs37_0⟩ hs57 hy58
  have h60 := (HZ hy58).2
  have hs61 : HS w0 F0 w51 F3 (es37_0 :: (sb b24 #[(.slice as37_0 s37.length ns37_0)] 47) :: Rf53) := hs57
  refine Rg [0, 1] ?_
  refine Al' 33 #[(vi 0), (vi 0), (.slice none ([] : List Expr).length 0)] hs61 (fun b62 w63 hs64 => ?_)
  refine St0 (Ae y59 ay59_2 ny59_2) hs64 (fun w65 hs66 => ?_)
  refine RY ?_
  refine ⟨rfl, F3, [(sb b62 (Ae y59 ay59_2 ny59_2) 33), es37_0, (sb b24 #[(.slice as37_0 s37.length ns37_0)] 47)], hs66, fun w67 Rf68 hs69 => ?_⟩
  have hs70 : HS w0 F0 w67 F3 ((sb b62 (Ae y59 ay59_2 ny59_2) 33) :: es37_0 :: (sb b24 #[(.slice as37_0 s37.length ns37_0)] 47) :: Rf68) := hs69
  refine Bk ?_
  refine Sq (Rg [0, 1, 2, 3, 4, 5, 6, 7, 8, 9, 10, 11, 12] ?_)
  refine Sb (fun f w => ∃ (F5 : Mem), HS w0 F0 w F5 ((sb b62 (Ae y59 ay59_2 ny59_2) 33) :: es37_0 :: (sb b24 #[(.slice as37_0 s37.length ns37_0)] 47) :: Rf68) /\ R5 F3 F5 /\ FI f [] [(1, (pt b21 0)), (3, (pt b24 0)), (4, (pt b62 0)), (6, (.func (.func 175) #[] #[(pt b27 0)])), (20, (.bool ((y59.Op == 2) && ((decide (y59.Value >= 0)) && (decide (y59.Value < 14))))))]) ?_ ?_
  ·refine Vs 1 ?_
   refine Ld hs70.at0 ?_
   refine Vs 2 ?_
   refine Sa (y59.Op == 2) (fun hb80 => ?_) (fun hb80 => ?_)
   ·refine Vgs hb80 1 ?_
    refine Lg hb80 hs70.at0 ?_
    refine Vgs hb80 1 ?_
    refine Pk1 hb80 ?_
    refine Vs 1 ?_
    refine Sa (decide (y59.Value >= 0)) (fun hb81 => ?_) (fun hb81 => ?_)
    ·refine Vgs hb81 1 ?_
     refine Lg hb81 hs70.at0 ?_
     refine Vgs hb81 1 ?_
     refine Pk1 hb81 ?_
     exact RY ⟨rfl, F3, hs70, (R6 _), (fJ ⟨rfl, rfl, rfl, rfl, (congrArg Value.bool (Dc hb80 (Dc hb81 rfl))), trivial⟩)⟩
    ·refine Ss hb81 3 ?_
     refine Pk0 hb81 ?_
     exact RY ⟨rfl, F3, hs70, (R6 _), (fJ ⟨rfl, rfl, rfl, rfl, (congrArg Value.bool (Dc hb80 (E8 hb81 rfl))), trivial⟩)⟩
   ·refine Ss hb80 3 ?_
    refine Pk0 hb80 ?_
    refine Vs 1 ?_
    refine Ss (rfl : false = false) 3 ?_
    refine Pk0 (rfl : false = false) ?_
    exact RY ⟨rfl, F3, hs70, (R6 _), (fJ ⟨rfl, rfl, rfl, rfl, (congrArg Value.bool (E8 hb80 rfl)), trivial⟩)⟩
  ·rintro f w71 ⟨F5, hs72, le73, ⟨_, rfl⟩⟩
   refine Ac ?_
   obtain ⟨j85, hj90, h91⟩ := bind_some h60
   refine Se (fun f w => ∃ (F6 : Mem) (aj85_0 : Sy) (nj85_0 : Nat) (ej85_0 : Option Nat × Obj), HS w0 F0 w F6 (ej85_0 :: (sb b24 #[(.slice aj85_0 j85.length nj85_0)] 47) :: Rf68) /\ R5 F5 F6 /\ FI f [] [(1, (pt b21 0)), (3, (pt b24 0)), (6, (.func (.func 175) #[] #[(pt b27 0)]))] /\ Au Bu 3 F6 aj85_0 nj85_0 j85 ej85_0) ?_ ?_
   ·refine Cd hj90 (fun hb92 h93 => ?_) (fun hb92 h94 => ?_)
    ·refine Rg [0, 1, 2, 3, 4, 5] ?_
     refine Ld hs72.at2 ?_
     refine Vs 1 ?_
     refine Ld hs72.at0 ?_
     refine Bs 3 [(vi y59.Value)] hs72 (fun b95 w96 hs97 => ?_)
     have hr99 : Au Bu 3 F5 (some ⟨b95, 0, none⟩) 1 [y59.Value] (some b95, .cells ([(vi y59.Value)] : List Value).toArray 3 (0, 0)) := Sr ⟨rfl, rfl⟩ (by simp)
     obtain ⟨r100, hap101, h102⟩ := bind_some h93
     refine Ap2 RJ hs97 (hrs37_0.mono le73) (hs97.rd0 hr99) hap101 (fun a103 n104 e105 w106 hs107 hr108 => ?_)
     refine St3 #[(.slice a103 r100.length n104)] hs107 (fun w109 hs110 => ?_)
     refine RY ?_
     obtain rfl := Aa h102
     exact .inl ⟨rfl, F5, a103, n104, e105, hs110.dr0.dr0, (R6 _), fI, hr108⟩
    ·refine Sc ?_
     obtain rfl := Aa h94
     exact .inl ⟨rfl, F5, as37_0, ns37_0, es37_0, hs72.dr0, (R6 _), fI, (hrs37_0.mono le73)⟩
   ·rintro f w82 ⟨F6, aj85_0, nj85_0, ej85_0, hs83, le84, ⟨_, rfl⟩, hrj85_0⟩
    refine Ap ?_
    obtain rfl := Aa h91
    exact ⟨rfl, F6, [ej85_0, (sb b24 #[(.slice aj85_0 j85.length nj85_0)] 47)], hs83, (le73.trans le84), ⟨aj85_0, nj85_0, ej85_0, rfl, hrj85_0⟩⟩
 ·rintro D112 w113 F4 _ hs114 le115 ⟨as41_0, ns41_0, es41_0, rfl, hrs41_0⟩
  have hs116 : HS w0 F0 w113 F4 [(some D112, (.deferred (some []))), es41_0, (sb b24 #[(.slice as41_0 r45.length ns41_0)] 47)] := hs114
  refine Ap ?_
  refine Ac ?_
  refine Sq (Rg [0, 1] ?_)
  refine Ld hs116.at2 ?_
  obtain ⟨r117, hr118, h119⟩ := bind_some h47
  refine RWP.callS (dst := (some 27)) (ty := 0) (g := none) (by kernel_rfl) rfl (f0 := (.func 128)) (aos := #[(.tmp 26)]) (ats := #[47]) (fid := 128) (first := #[]) (cap := #[]) (args := [(.slice as41_0 r45.length ns41_0)]) rfl FN rfl (FY N (Lf := [(some D112, (.deferred (some []))), (sb b24 #[(.slice as41_0 r45.length ns41_0)] 47)]) r45 as41_0 ns41_0 es41_0 hrs41_0 hs116.pk2.pk1.pk2  _ hr118) ?_
  rintro _ w121 ⟨F7, e120, rfl, hs122, le123, hr124⟩
  refine ⟨_, rfl, ?_⟩
  have hs125 : HS w0 F0 w121 F7 [e120, (some D112, (.deferred (some []))), (sb b24 #[(.slice as41_0 r45.length ns41_0)] 47)] := hs122
  have hs126 : HS w0 F0 w121 F7 [e120, (some D112, (.deferred (some []))), (sb b24 #[(.slice as41_0 r117.length ns41_0)] 47)] := by rw [FK hr118]; exact hs125
  refine Nss (Rg [0, 1, 2] ?_)
  refine Ld hs126.at2 ?_
  obtain ⟨r127, hr128, h129⟩ := bind_some h119
  refine RWP.callS (dst := (some 29)) (ty := 47) (g := none) (by kernel_rfl) rfl (f0 := (.func 129)) (aos := #[(.tmp 28)]) (ats := #[47]) (fid := 129) (first := #[]) (cap := #[]) (args := [(.slice as41_0 r117.length ns41_0)]) rfl EP rfl (Fg N (Lf := [(some D112, (.deferred (some []))), (sb b24 #[(.slice as41_0 r117.length ns41_0)] 47)]) r117 as41_0 ns41_0 e120 hr124 hs126  _ hr128) ?_
  rintro _ w131 ⟨F8, e130, rfl, hs132, le133, hr134⟩
  refine ⟨_, rfl, ?_⟩
  have hs135 : HS w0 F0 w131 F8 [e130, (some D112, (.deferred (some []))), (sb b24 #[(.slice as41_0 r117.length ns41_0)] 47)] := hs132
  refine Vs 1 ?_
  refine Nt ?_
  refine Rt ?_
  have hb139 := Sn hr134
  obtain ⟨F9, hs136, le137, hs138⟩ := hs135.fr0 hr134
  have hs140 := hs136.put (k := 0) rfl (.deferred none)
  have hs141 : HS w0 F0 (Ct w131 D112 (.deferred none)) F9 [(sb b24 #[(.slice as41_0 r117.length ns41_0)] 47)] := hs140.drop 0
  obtain rfl := Aa h129
  exact .inr ⟨D112, rfl, hs136.ownAt (k := 0) rfl, (.slice as41_0 r127.length ns41_0), Av (l := [.tmp 2]) (by kernel_rfl) (vs := [(.slice as41_0 r127.length ns41_0)]) ⟨rfl, trivial⟩, (.slice as41_0 r127.length ns41_0), F9, rfl, hs141.clear, ⟨as41_0, ns41_0, rfl, hb139, hs138⟩⟩

section
variable {α σ ρ : Type}
theorem NC (l : List α) (gs : σ -> α -> σ) (Inv : Nat -> σ -> Prop) {body : σ × Int -> Option (BX ρ (σ × Int))} (hg : ∀ i s (h : i < l.length), Inv i s -> body (s, (i : Int)) = some (.next (gs s l[i], W64 ((i : Int) + 1))) /\ Inv (i + 1) (gs s l[i]))
  (he : ∀ s, body (s, (l.length : Int)) = some (.done (s, (l.length : Int))))
  {N : Nat} (hN : l.length < N) (hL : l.length < 9223372036854775808) (s0 : σ) (h0 : Inv 0 s0) : Br body N (s0, 0) = some (.done (l.foldl gs s0, (l.length : Int))) := by
 obtain ⟨o, ho, rfl⟩ := E1 (body := body) l.length (fun i s => s = ((l.take i).foldl gs s0, (i : Int)) /\ Inv i s.1) (fun o => o = .done (l.foldl gs s0, (l.length : Int))) (by
  rintro i s hi ⟨rfl, hv⟩
  by_cases h : i < l.length
  ·left
   obtain ⟨h1, h2⟩ := hg i _ h hv
   refine ⟨_, by rw [h1, FB (by omega)], ⟨?_, h2⟩, h⟩
   rw [List.take_succ_eq_append_getElem h, List.foldl_append]; rfl
  ·have : i = l.length := by omega
   subst this
   right
   exact ⟨_, he _, fun _ h => (by cases h), by rw [List.take_length]⟩) l.length N 0 (s0, 0) (by omega) ⟨rfl, h0⟩ hN
 exact ho
end
def fl1 (op v : Int) : List Int := if op = 2 /\ 0 <= v /\ v < 14 then [v] else []
def EA (e : Expr) : List Int := match e with
 | ⟨op, v, ks⟩ => fl1 op v ++ (ks.map fun x => EA x).flatten
def sz (e : Expr) : Nat := match e with
 | ⟨_, _, ks⟩ => 1 + (ks.map fun x => sz x).sum
theorem E4 (e : Expr) : EA e = fl1 e.Op e.Value ++ (e.Kids.map EA).flatten := by cases e; rw [EA]
theorem ER (e : Expr) : sz e = 1 + (e.Kids.map sz).sum := by cases e; rw [sz]
theorem Oi (op v : Int) : (fl1 op v).length <= 1 := by unfold fl1; split <;> simp
theorem Qp {op v x : Int} (h : x ∈ fl1 op v) : 0 <= x /\ x < 14 := by
 unfold fl1 at h; split at h
 ·rename_i h1; rw [List.mem_singleton.1 h]; exact h1.2
 ·cases h
theorem FL {e x : Expr} (h : x ∈ e.Kids) : sz x < sz e := by
 rw [ER e]
 have : ∀ l : List Expr, x ∈ l -> sz x <= (l.map sz).sum := by
  intro l
  induction l with
  | nil => intro h; cases h
  | cons a l ih =>
   intro h
   rw [List.map_cons, List.sum_cons]
   rcases List.mem_cons.1 h with rfl | h
   ·omega
   ·have := ih h; omega
 have := this _ h; omega
theorem MV : ∀ (n : Nat) (e : Expr), sz e <= n -> (EA e).length <= sz e
 | 0, e, h => by rw [ER] at h; omega
 | n + 1, e, h => by
  rw [E4, ER e, List.length_append]
  have h1 := Oi e.Op e.Value
  have : ∀ l : List Expr, (∀ x, x ∈ l -> x ∈ e.Kids) -> ((l.map EA).flatten).length <= (l.map sz).sum := by
   intro l
   induction l with
   | nil => simp
   | cons a l ih =>
    intro hl
    rw [List.map_cons, List.flatten_cons, List.length_append, List.map_cons, List.sum_cons]
    have h2 := MV n a (by have := FL (hl a (by simp)); omega)
    have h3 := ih (fun x hx => hl x (by simp [hx]))
    omega
  have := this e.Kids (fun _ h => h); omega
theorem MU : ∀ (n : Nat) (e : Expr), sz e <= n -> ∀ x, x ∈ EA e -> 0 <= x /\ x < 14
 | 0, e, h, _, _ => by rw [ER] at h; omega
 | n + 1, e, h, x, hx => by
  rw [E4] at hx
  rcases List.mem_append.1 hx with hx | hx
  ·exact Qp hx
  ·obtain ⟨l, hl, hx⟩ := List.mem_flatten.1 hx
   obtain ⟨k, hk, rfl⟩ := List.mem_map.1 hl
   exact MU n k (by have := FL hk; omega) x hx
abbrev yF (N : Nat) (x0 : Expr) : List Int -> Expr -> Option (Bool × List Int) := fun st x => ((De N x0) st x).map fun t => (true, t)
theorem Q7 {N : Nat} {x0 : Expr} {s : List Int} {x : Expr} (h : s.length + 1 < 4294967296) : yF N x0 s x = some (true, s ++ fl1 x.Op x.Value) := by
 unfold yF De fl1
 by_cases hc : x.Op = 2 /\ 0 <= x.Value /\ x.Value < 14
 ·rw [if_pos hc, show ((x.Op == 2) && ((decide (x.Value >= 0)) && (decide (x.Value < 14)))) = true by simp [hc.1, hc.2.1, hc.2.2], cond_true, J2 (by simpa using h)]; rfl
 ·rw [if_neg hc, show ((x.Op == 2) && ((decide (x.Value >= 0)) && (decide (x.Value < 14)))) = false by
   cases e : ((x.Op == 2) && ((decide (x.Value >= 0)) && (decide (x.Value < 14)))) with
   | false => rfl
   | true => simp at e; exact absurd ⟨e.1, e.2.1, e.2.2⟩ hc, cond_false, List.append_nil]; rfl
theorem MP {N M : Nat} (hM : M <= N) (x0 : Expr) : ∀ {n k : Nat} {e : Expr}, Ht M n e -> n <= k -> ∀ s : List Int, s.length + sz e < 4294967296 -> Kn N (yF N x0) k s e = some (true, s ++ EA e)
 | 0, _, _, h, _, _, _ => h.elim
 | n + 1, 0, _, _, h, _, _ => absurd h (by omega)
 | n + 1, k + 1, e, ⟨h1, h2, h3⟩, hk, s, hs => by
  show J1 N (yF N x0) (Kn N (yF N x0) k) s e = _
  have hse := ER e
  unfold J1
  rw [Q7 (by omega), Option.bind_some]
  simp only [Bool.not_true, cond_false]
  rw [NC e.Kids (fun st x => st ++ EA x) (fun i st => st.length + ((e.Kids.drop i).map sz).sum < 4294967296) (by
   intro i st hi hv
   have hd : e.Kids.drop i = e.Kids[i] :: e.Kids.drop (i + 1) := List.drop_eq_getElem_cons hi
   rw [hd, List.map_cons, List.sum_cons] at hv
   refine ⟨?_, ?_⟩
   ·unfold HX
    simp only
    rw [KW hi, cond_true, CA hi, Option.bind_some, MP hM x0 (h3 _ (List.getElem_mem hi)) (by omega) st (by omega)]; rfl
   ·have := MV _ e.Kids[i] (Nat.le_refl _)
    simp only [List.length_append]; omega) (fun st => by unfold HX; simp only; rw [L2, cond_false]) (by omega) h2 _ (by
    simp only [List.drop_zero, List.length_append]
    have := Oi e.Op e.Value
    omega)]
  simp only [Option.bind_some, BX.k]
  rw [E4 e]
  have : ∀ (l : List Expr) (a : List Int), l.foldl (fun st x => st ++ EA x) a = a ++ (l.map EA).flatten := by
   intro l
   induction l with
   | nil => intro a; simp
   | cons x l ih => intro a; rw [List.foldl_cons, ih]; simp [List.append_assoc]
  rw [this, List.append_assoc]
def BI (e : Expr) : List Int := ((List.range 14).filter fun (i : Nat) => decide ((i : Int) ∈ EA e)).map fun (i : Nat) => (i : Int)
theorem DE (zs : List Int) {j : Nat} (h : j < zs.length) : zs.toArray[j]! = zs[j] := by simp [h]
theorem Ov {l : List Int} {x : Int} : x ∈ Hk l ↔ x ∈ l := by
 unfold Hk; exact (List.mergeSort_perm l _).mem_iff
theorem LO (l : List Int) : (Hk l).Pairwise (fun x y => x <= y) := by
 unfold Hk
 have := List.pairwise_mergeSort (le := fun x y : Int => decide (x <= y)) (by intro a b c h1 h2; simp at h1 h2 ⊢; omega) (by intro a b; simp; omega) l
 exact this.imp (fun h => by simpa using h)
theorem Mc {zs : List Int} {x : Int} : x ∈ Go.Lib.compact zs ↔ x ∈ zs := by
 constructor
 ·intro h
  unfold Go.Lib.compact Go.Lib.compactUpTo at h
  obtain ⟨j, hj, rfl⟩ := List.mem_map.1 h
  have := List.mem_range.1 (List.mem_filter.1 hj).1
  rw [DE zs this]; exact List.getElem_mem this
 ·intro h
  obtain ⟨j, hj, hx⟩ := List.getElem_of_mem h
  have key : ∀ n j, j <= n -> ∀ hj : j < zs.length, zs[j] = x -> x ∈ Go.Lib.compact zs := by
   intro n
   induction n with
   | zero =>
    intro j hjn hj hx
    have : j = 0 := by omega
    subst this
    unfold Go.Lib.compact Go.Lib.compactUpTo
    rw [List.mem_map]
    exact ⟨0, by rw [List.mem_filter, List.mem_range]; exact ⟨hj, by simp [Go.Lib.keeps]⟩, by rw [DE zs hj]; exact hx⟩
   | succ n ih =>
    intro j hjn hj hx
    by_cases hk : Go.Lib.keeps zs.toArray j = true
    ·unfold Go.Lib.compact Go.Lib.compactUpTo
     rw [List.mem_map]
     exact ⟨j, by rw [List.mem_filter, List.mem_range]; exact ⟨hj, hk⟩, by rw [DE zs hj]; exact hx⟩
    ·unfold Go.Lib.keeps at hk
     rw [decide_eq_true_eq] at hk
     have h0 : j ≠ 0 := fun h => hk (.inl h)
     have h1 : zs.toArray[j]! = zs.toArray[j - 1]! := Classical.byContradiction fun h => hk (.inr h)
     rw [DE zs hj, DE zs (show j - 1 < zs.length by omega)] at h1
     exact ih (j - 1) (by omega) (by omega) (by rw [<- h1]; exact hx)
  exact key j j (Nat.le_refl _) hj hx
theorem Kv {zs : List Int} (h : zs.Pairwise fun x y => x <= y) : (Go.Lib.compact zs).Pairwise fun x y => x < y := by
 unfold Go.Lib.compact Go.Lib.compactUpTo
 rw [List.pairwise_map]
 have hr : ((List.range zs.length).filter (Go.Lib.keeps zs.toArray)).Pairwise (· < ·) := List.pairwise_lt_range.filter _
 refine hr.imp_of_mem ?_
 intro i j hi hj hij
 have h1 := List.mem_range.1 (List.mem_filter.1 hi).1
 have h2 := List.mem_range.1 (List.mem_filter.1 hj).1
 have hk := (List.mem_filter.1 hj).2
 unfold Go.Lib.keeps at hk
 rw [decide_eq_true_eq] at hk
 have hne : zs.toArray[j]! ≠ zs.toArray[j - 1]! := by
  rcases hk with h | h
  ·omega
  ·exact h
 rw [DE zs h2, DE zs (show j - 1 < zs.length by omega)] at hne
 rw [DE zs h1, DE zs h2]
 have a1 : zs[i] <= zs[j - 1]'(by omega) := by
  rcases Nat.lt_or_ge i (j - 1) with h' | h'
  ·exact List.pairwise_iff_getElem.1 h i (j - 1) h1 (by omega) h'
  ·have : i = j - 1 := by omega
   subst this; exact Int.le_refl _
 have a2 : zs[j - 1]'(by omega) <= zs[j] := List.pairwise_iff_getElem.1 h (j - 1) j (by omega) h2 (by omega)
 omega
theorem J7 : ∀ {l m : List Int}, l.Pairwise (fun x y => x < y) -> m.Pairwise (fun x y => x < y) -> (∀ x, x ∈ l ↔ x ∈ m) -> l = m
 | [], [], _, _, _ => rfl
 | [], b :: m, _, _, h => absurd ((h b).2 (by simp)) (by simp)
 | a :: l, [], _, _, h => absurd ((h a).1 (by simp)) (by simp)
 | a :: l, b :: m, hl, hm, h => by
  rw [List.pairwise_cons] at hl hm
  have hab : a = b := by
   have h1 := (h a).1 (by simp)
   have h2 := (h b).2 (by simp)
   rcases List.mem_cons.1 h1 with e | h1
   ·exact e
   ·rcases List.mem_cons.1 h2 with e | h2
    ·exact e.symm
    ·have := hm.1 a h1; have := hl.1 b h2; omega
  subst hab
  congr 1
  refine J7 hl.2 hm.2 fun x => ⟨fun hx => ?_, fun hx => ?_⟩
  ·rcases List.mem_cons.1 ((h x).1 (by simp [hx])) with e | h'
   ·subst e; have := hl.1 x hx; omega
   ·exact h'
  ·rcases List.mem_cons.1 ((h x).2 (by simp [hx])) with e | h'
   ·subst e; have := hm.1 x hx; omega
   ·exact h'
theorem Kq {e : Expr} {x : Int} : x ∈ BI e ↔ x ∈ EA e := by
 unfold BI
 rw [List.mem_map]
 constructor
 ·rintro ⟨i, hi, rfl⟩
  simpa using (List.mem_filter.1 hi).2
 ·intro h
  have := MU _ e (Nat.le_refl _) x h
  exact ⟨x.toNat, by rw [List.mem_filter, List.mem_range]; exact ⟨by omega, by rw [decide_eq_true_eq, Int.toNat_of_nonneg this.1]; exact h⟩, Int.toNat_of_nonneg this.1⟩
theorem Gv (e : Expr) : (BI e).Pairwise fun x y => x < y := by
 unfold BI
 rw [List.pairwise_map]
 exact (List.pairwise_lt_range.filter _).imp fun h => by omega
theorem MT (e : Expr) : (BI e).length <= 14 := by
 unfold BI
 rw [List.length_map]
 have := List.length_filter_le (fun (i : Nat) => decide ((i : Int) ∈ EA e)) (List.range 14)
 rw [List.length_range] at this; exact this
theorem Mx {N : Nat} {e : Expr} (h : Fit N e) (hs : sz e < 4294967296) : DA N e = some (BI e) := by
 obtain ⟨n, h1, h2⟩ := h
 unfold DA DU
 rw [MP (Nat.le_refl _) e h1 (by omega) [] (by simpa using hs)]
 simp only [Option.map_some, Option.bind_some, List.nil_append]
 unfold Cm BT
 rw [Option.bind_some, if_pos (Go.Lib.compact_length_le _), Option.bind_some]
 congr 1
 refine J7 (Kv (LO _)) (Gv e) fun x => ?_
 rw [Mc, Ov, Kq]
section
open Go.ChangeShapes Go.WideShapes Go.ChangeAt Go.RowKit
theorem O1 {H : Type} {α : Type} {S : α -> Nat} : ∀ {l : List α} {ds : List (DataW H)}, l.length = ds.length -> (∀ (i : Nat) (x : α) (d : DataW H), l[i]? = some x -> ds[i]? = some d -> S x <= Rows.uptoBulk d) -> (l.map S).sum <= Rows.uptoBulkAll ds
 | [], [], _, _ => by simp [Rows.uptoBulkAll]
 | x :: l, d :: ds, hl, h => by
  have h1 := h 0 x d rfl rfl
  have h2 := O1 (l := l) (ds := ds) (by simpa using hl) (fun i y e hy he => h (i + 1) y e hy he)
  simp only [List.map_cons, List.sum_cons, Rows.uptoBulkAll]; omega
structure Eh (P : Program) (t : TypeId) {α : Type} (T : Ty α) (Q : α -> Prop) (S : α -> Nat) : Prop where
 op : ∀ {H : Type} {enc : TypeId × Value -> H} {W : World} {fuel : Nat} {cs : List Value} {x : DataW H × List MemPlace}, DataW.trod enc P W 0 (fun _ => true) true fuel t cs = some x -> SzW P t x.1 -> ∃ a, T.R (Fv W) cs a /\ Q a /\ S a <= Rows.uptoBulk x.1
 sz : P.cellsOf t = T.sz
theorem Nx {P : Program} {t : TypeId} (hu : P.underlying t = some (.int .i64)) (hs : P.cellsOf t = 1) : Eh P t Bu rI (fun _ => 1) :=
 ⟨fun h hw => by
  obtain ⟨a, h1, h2⟩ := (IH hu hs).op h hw
  obtain ⟨n, _, h3, _⟩ := DataW.trod_int hu h
  exact ⟨a, h1, h2, by rw [h3]; simp [Rows.uptoBulk]⟩, hs⟩
theorem Lk {P : Program} {t e : TypeId} {α : Type} {T : Ty α} {Q : α -> Prop} {S : α -> Nat} (hsz : P.cellsOf e = T.sz) (hpos : 0 < T.sz) (hu : P.underlying t = some (.slice e))
  {H : Type} {enc : TypeId × Value -> H} {W : World} {fuel : Nat} {cs : List Value} {x : DataW H × List MemPlace}
  (he : ∀ n csi y, fuel = n + 1 -> DataW.trod enc P W 0 (fun _ => true) true n e csi = some y -> SzW P e y.1 -> ∃ a, T.R (Fv W) csi a /\ Q a /\ S a <= Rows.uptoBulk y.1)
  (h : DataW.trod enc P W 0 (fun _ => true) true fuel t cs = some x) (hw : SzW P t x.1) :
  ∃ l, (tSl T).R (Fv W) cs l /\ (l.length < 9223372036854775808 /\ l.length * P.bytesOf e <= reachBytes /\ ∀ x, x ∈ l -> Q x) /\ (l.map S).sum + 1 <= Rows.uptoBulk x.1 := by
 rcases DataW.trod_slice hu h with ⟨h1, h2⟩ | ⟨a, len, cap, elems, rest, n, hf, h1, hx, _, h2, h3, h4, h5, _, _⟩
 ·exact ⟨[], ⟨none, 0, h1, R9 (α := α), .inl rfl⟩, ⟨by simp, by simp, fun x hx => by cases hx⟩, by rw [h2]; simp [Rows.uptoBulk]⟩
 have hby : (elems.length + rest.length) * P.bytesOf e <= reachBytes := by
  have hw' := hw
  rw [hx] at hw'
  unfold SzW at hw'
  simp only [DataW.weights, hu, List.all_cons, Bool.and_eq_true, List.length_map, decide_eq_true_eq] at hw'
  exact hw'.1
 have h3' : cap <= 9223372036854775807 := h3
 have hcell : ∀ i, i < len -> ∃ csi y, W.cells? 0 (a.add (i * T.sz)) T.sz = some csi /\ DataW.trod enc P W 0 (fun _ => true) true n e csi = some y /\ SzW P e y.1 /\ elems[i]? = some y := by
  intro i hi
  have hsz' : ∀ y, elems[i]? = some y -> SzW P e y.1 := fun y hy => by
   rw [hx] at hw
   unfold SzW at hw ⊢
   simp only [DataW.weights, hu, List.all_cons, Bool.and_eq_true, List.all_append] at hw
   exact List.all_eq_true.2 fun m hm => List.all_eq_true.1 hw.2.1 m (Jn (List.mem_map.2 ⟨y, List.mem_of_getElem? hy, rfl⟩) m hm)
  have := h5 i hi
  rw [hsz] at this
  have hlt : i < elems.length := by omega
  rw [List.getElem?_eq_getElem hlt] at this
  cases hc : W.cells? 0 (a.add (i * T.sz)) T.sz with
  | none => rw [hc] at this; cases this
  | some csi => rw [hc] at this; exact ⟨csi, _, rfl, this, hsz' _ (List.getElem?_eq_getElem hlt), List.getElem?_eq_getElem hlt⟩
 obtain ⟨l, hl, hR⟩ := Jy (R := fun i (x : α) => ∃ csi, W.cells? 0 (a.add (i * T.sz)) T.sz = some csi /\ T.R (Fv W) csi x /\ Q x /\ ∃ y, elems[i]? = some y /\ S x <= Rows.uptoBulk y.1) (n := len) (fun i hi => by
  obtain ⟨csi, y, hc, ht, hsy, hey⟩ := hcell i hi
  obtain ⟨z, hz, hq, hs⟩ := he n csi y hf ht hsy
  exact ⟨z, csi, hc, hz, hq, y, hey, hs⟩)
 have hsum : (l.map S).sum + 1 <= Rows.uptoBulk x.1 := by
  rw [hx]
  simp only [Rows.uptoBulk]
  have := O1 (S := S) (l := l) (ds := elems.map (·.1)) (by rw [List.length_map, hl, h4]) (fun i z d hz hd => by
   obtain ⟨_, _, _, _, y, hy, hs⟩ := hR i z hz
   rw [List.getElem?_map, hy] at hd
   cases hd; exact hs)
  omega
 refine ⟨l, ⟨some a, cap, by rw [hl]; exact h1, ⟨by omega, by omega⟩, ?_⟩, ⟨by omega, Nat.le_trans (Nat.mul_le_mul_right _ (by omega)) hby, fun x hx => ?_⟩, hsum⟩
 ·rcases Nat.eq_zero_or_pos len with h0 | hp
  ·exact .inl (List.length_eq_zero_iff.1 (by omega))
  ·right
   obtain ⟨csi, y, hc, _, _⟩ := hcell 0 hp
   obtain ⟨C, E, fz, hsp, hb, _⟩ := M0 hc hpos
   have hb' : W.heap[a.block]? = some (.cells C E fz) := by rw [Jk] at hb; exact hb
   have hsp' : a.spot = none := by rw [Nat.zero_mul] at hsp; have e0 : a.add 0 = a := by { unfold Addr.add; simp }; rw [e0] at hsp; exact hsp
   refine ⟨a.block, a.off, C, E, fz, by obtain ⟨_, _, _⟩ := a; simp only at hsp'; subst hsp'; rfl, hb', fun i x hx => ?_⟩
   obtain ⟨csi, hc, hz, _⟩ := hR i x hx
   obtain ⟨C', E', fz', _, hb2, hcs⟩ := M0 hc hpos
   have hb2' : W.heap[a.block]? = some (.cells C' E' fz') := by rw [Jk] at hb2; exact hb2
   rw [hb'] at hb2'
   cases hb2'
   rw [Om] at hcs
   rw [hcs]; exact hz
 ·obtain ⟨i, hi, rfl⟩ := List.getElem_of_mem hx
  obtain ⟨_, _, _, hq, _⟩ := hR i _ (List.getElem?_eq_getElem hi)
  exact hq
theorem LZ {P : Program} {t e : TypeId} {α : Type} {T : Ty α} {Q : α -> Prop} {S : α -> Nat} (he : Eh P e T Q S) (hpos : 0 < T.sz) (hu : P.underlying t = some (.slice e)) (hs : P.cellsOf t = 1) :
  Eh P t (tSl T) (fun l => l.length < 9223372036854775808 /\ ∀ x, x ∈ l -> Q x) (fun l => (l.map S).sum + 1) :=
 ⟨fun h hw => by
  obtain ⟨l, h1, ⟨h2, _, h3⟩, h4⟩ := Lk he.sz hpos hu (fun n csi y _ ht hsy => he.op ht hsy) h hw
  exact ⟨l, h1, ⟨h2, h3⟩, h4⟩, hs⟩
theorem RS {H : Type} {enc : TypeId × Value -> H} {P : Program} {W : World} {fuel : Nat} {t e : TypeId} {cs : List Value} {x : DataW H × List MemPlace} {i off c : Nat} (hf : fieldAt P t i = some (e, off)) (hc : P.cellsOf e = c)
  (h : DataW.trod enc P W 0 (fun _ => true) true fuel t cs = some x) (hw : SzW P t x.1) : ∃ n y ds, fuel = n + 1 /\ DataW.trod enc P W 0 (fun _ => true) true n e ((cs.drop off).take c) = some y /\ SzW P e y.1 /\ x.1 = .agg ds /\ ds[i]? = some y.1 := by
 unfold fieldAt at hf
 cases hu : P.underlying t with
 | none => rw [hu] at hf; cases hf
 | some k =>
  rw [hu] at hf
  cases k <;> simp only at hf <;> first | cases hf | skip
  rename_i fs
  cases hi : fs[i]? with
  | none => rw [hi] at hf; cases hf
  | some f =>
   rw [hi] at hf
   simp only [Option.map_some, Option.some.injEq, Prod.mk.injEq] at hf
   obtain ⟨rfl, rfl⟩ := hf
   obtain ⟨xs, n, rfl, rfl, hlen, hxl, hf⟩ := DataW.trod_struct hu h
   have hlt : i < xs.length := by
    rw [hxl]
    rcases Nat.lt_or_ge i fs.size with h' | h'
    ·exact h'
    ·rw [Array.getElem?_eq_none h'] at hi; cases hi
   have := hf i f hi
   rw [List.getElem?_eq_getElem hlt, hc] at this
   refine ⟨n, _, _, rfl, this, ?_, rfl, by rw [List.getElem?_map, List.getElem?_eq_getElem hlt]; rfl⟩
   unfold SzW at hw
   simp only [DataW.weights, hu] at hw
   refine SzW.each hw (j := i) ?_ ?_
   ·rw [List.getElem?_map, Array.getElem?_toList, hi]; rfl
   ·rw [List.getElem?_map, List.getElem?_eq_getElem hlt]; rfl
theorem PA {H : Type} {enc : TypeId × Value -> H} {W : World} : ∀ (m : Nat) {fuel : Nat} {cs : List Value} {x : DataW H × List MemPlace}, fuel <= m -> DataW.trod enc Tryz.prog W 0 (fun _ => true) true fuel 33 cs = some x -> SzW Tryz.prog 33 x.1 -> ∃ a, Ao.R (Fv W) cs a /\ MK a /\ sz a <= Rows.uptoBulk x.1 := by
 intro m
 induction m with
 | zero =>
  intro fuel cs x hm h hw
  cases fuel with
  | zero => cases h
  | succ n => exact absurd hm (by omega)
 | succ m ih =>
  intro fuel cs x hm h hw
  obtain ⟨n0, y0, e0, t0, z0⟩ := fld (i := 0) (off := 0) (e := 3) (c := 1) (by kernel_rfl) (by kernel_rfl) h hw
  obtain ⟨n1, y1, e1, t1, z1⟩ := fld (i := 1) (off := 1) (e := 3) (c := 1) (by kernel_rfl) (by kernel_rfl) h hw
  obtain ⟨n2, y2, ds, e2, t2, z2, hag, hd2⟩ := RS (i := 2) (off := 2) (e := 24) (c := 1) (by kernel_rfl) (by kernel_rfl) h hw
  have hl := Nc (k := 3) (by kernel_rfl) (by decide) h
  obtain ⟨op, r0, _⟩ := (IH (t := 3) (by kernel_rfl) (by kernel_rfl) : KR Tryz.prog 3 Bu rI).op t0 z0
  obtain ⟨v, r1, _⟩ := (IH (t := 3) (by kernel_rfl) (by kernel_rfl) : KR Tryz.prog 3 Bu rI).op t1 z1
  obtain ⟨ks, r2, ⟨q1, q0, q2⟩, hsum⟩ := Lk (T := Ao) (Q := MK) (S := sz) (e := 33) (by kernel_rfl) (by decide) (by kernel_rfl) (fun n csi y hn ht hs => by
   exact ih (by omega) ht hs) t2 z2
  have qb : ks.length < 3518437208781 := by
   have e40 : Tryz.prog.bytesOf 33 = 40 := by kernel_rfl
   rw [e40] at q0
   have : reachBytes = 140737488351232 := rfl
   omega
  have hbulk : 1 + (ks.map sz).sum <= Rows.uptoBulk x.1 := by
   rw [hag]
   simp only [Rows.uptoBulk]
   match ds, hd2 with
   | [], hd => cases hd
   | [_], hd => cases hd
   | [_, _], hd => cases hd
   | a :: b :: c :: r, hd => cases hd; simp only [Rows.uptoBulkAll]; omega
  clear h t0 t1 t2
  obtain ⟨n, hn⟩ := Oh q2
  match cs, hl with
  | [c0, c1, c2], _ =>
   have e0 : [c0] = [.int .i64 op] := r0
   have e1 : [c1] = [.int .i64 v] := r1
   obtain ⟨a, c, e2, b2, s2⟩ := r2
   have e2 : [c2] = _ := e2
   cases e0; cases e1; cases e2
   exact ⟨⟨op, v, ks⟩, A6 ⟨a, c, rfl, b2, s2⟩, ⟨n + 1, Ht.mk qb q1 hn⟩, by rw [sz]; exact hbulk⟩
theorem Km : Eh Tryz.prog 33 Ao MK sz := ⟨fun h hw => PA _ (Nat.le_refl _) h hw, by kernel_rfl⟩
theorem Eh.agg {P : Program} {t : TypeId} {α : Type} {T : Ty α} {Q : α -> Prop} {S : α -> Nat} (o : Eh P t T Q S) (hs : (match P.underlying t with | some (.struct _) => true | _ => false) = true)
  {H : Type} {enc : TypeId × Value -> H} {W : World} {r : Reach} {b0 : Nat} {v : Value} {d : DataW H} {ps : List MemPlace} (hv : Value.okWide P W r b0 t v) (h : DataW.Trod enc P W 0 (fun _ => true) true t v d ps) (hw : SzW P t d) :
  ∃ cs a, v = .agg cs /\ T.R (Fv W) cs.toList a /\ Q a /\ S a <= Rows.uptoBulk d := by
 cases hu : P.underlying t with
 | none => simp [hu] at hs
 | some q =>
  cases q <;> simp [hu] at hs
  obtain ⟨cs, rfl, _⟩ := okWide_struct hu hv
  obtain ⟨n, hn⟩ := h
  obtain ⟨a, h1, h2, h3⟩ := o.op hn hw
  exact ⟨cs, a, rfl, h1, h2, h3⟩
theorem Eh.one {P : Program} {t : TypeId} {α : Type} {T : Ty α} {Q : α -> Prop} {S : α -> Nat} (o : Eh P t T Q S) (hs : (match P.underlying t with | some (.int _) => true | some .bool => true | some .string => true | some (.slice _) => true | _ => false) = true)
  {H : Type} {enc : TypeId × Value -> H} {W : World} {r : Reach} {b0 : Nat} {v : Value} {d : DataW H} {ps : List MemPlace} (hv : Value.okWide P W r b0 t v) (h : DataW.Trod enc P W 0 (fun _ => true) true t v d ps) (hw : SzW P t d) :
  ∃ a, T.R (Fv W) [v] a /\ Q a /\ S a <= Rows.uptoBulk d := by
 obtain ⟨n, hn⟩ := h
 cases hu : P.underlying t with
 | none => simp [hu] at hs
 | some q =>
  cases q <;> simp [hu] at hs
  ·obtain ⟨_, rfl⟩ := okWide_bool hu hv; exact o.op hn hw
  ·obtain ⟨_, rfl⟩ := okWide_int hu hv; exact o.op hn hw
  ·obtain ⟨_, rfl⟩ := okWide_string hu hv; exact o.op hn hw
  ·obtain ⟨_, _, _, rfl⟩ := okWide_slice hu hv; exact o.op hn hw
theorem LK {H : Type} {enc : TypeId × Value -> H} {C : Checked} {os : Os} {f : FuncId} {fn : Func} {s : OpenSpec} {conds : List PathCond} {apart : Bool} {laid : List (String × DataW Unit)} (modest : Bool) (w0 : World) (args : Array Value) (hos : w0.os = os)
  (hsh : (w0.forCall (fun _ _ => 0) ⟨#[], args, []⟩).Shaped C.prog) (hok : Input.okWideB C.prog (w0.forCall (fun _ _ => 0) ⟨#[], args, []⟩) f ⟨#[], args, []⟩ = true)
  (hrow : s.preRow enc C.prog fn conds apart laid (w0.forCall (fun _ _ => 0) ⟨#[], args, []⟩).memory args) :
  ∃ (w : World) (tape : Tape) (i : Input), w.os = os /\ (w.forCall tape i).Shaped C.prog /\ i.vars = [] /\ Input.okWide C.prog (w.forCall tape i) .any w.heap.size f i /\
   s.preRow enc C.prog fn conds apart laid (w.forCall tape i).memory i.args /\ ({ modest := modest } : Assume).holds C.prog (lone (Frame.enter C.prog f i.args .normal) [] (w.forCall tape i)) :=
 ⟨w0, fun _ _ => 0, ⟨#[], args, []⟩, hos, hsh, (Input.okWide_of_okWideB (base := 0) hok).1, (Input.okWide_of_okWideB hok).2, hrow, by
  simp only [Assume.holds]
  exact ⟨by simp, by simp, fun _ => Modest.zero, by simp, by simp⟩⟩
end
theorem Bj {a b : Bool} (ha : a = true) (hb : b = true) : (a && b) = true := by rw [ha, hb]; rfl
set_option maxRecDepth 100000 in
theorem RR : (laidOutB Tryz.pinned.checked.prog) = true := by kernel_rfl
set_option maxRecDepth 100000 in
theorem RQ : (mapsRowed Tryz.pinned.checked.prog) = true := by kernel_rfl
set_option maxRecDepth 100000 in
theorem RP : ((Tryz.pinned.checked.prog.stops == [])) = true := by kernel_rfl
set_option maxRecDepth 100000 in
theorem RO : ((Tryz.pinned.checked.prog.stopKnobs == [])) = true := by kernel_rfl
set_option maxRecDepth 100000 in
theorem Ru : ((Rows.rulesParsesRow.plainKeys == Tryz.pinned.checked.prog.plainKeys)) = true := by kernel_rfl
set_option maxRecDepth 100000 in
theorem Rr : (Tryz.pinned.checked.prog.stopsHeard) = true := by kernel_rfl
set_option maxRecDepth 100000 in
theorem Rq : (Tryz.pinned.checked.prog.mayEnter) = true := by kernel_rfl
set_option maxRecDepth 100000 in
theorem Rp : ((Rows.rulesParsesRow.lifted == Tryz.pinned.checked.prog.liftsFinal)) = true := by kernel_rfl
set_option maxRecDepth 100000 in
theorem Ro : ((Tryz.pinned.checked.prog.make == some Rows.rulesParsesRow.make)) = true := by kernel_rfl
theorem Qn : Tryz.pinned.checked.prog.mainIs = some (true, "9ef67a4cb07571d798ed60e513598468ebe5a66f3455e0900720288bced703b8".toList) := by kernel_rfl
theorem Py : true = Tryz.pinned.checked.prog.looks [] := by kernel_rfl
def Bt (N : Nat) (x0 : (List Clause)) (x1 : (Clause -> Option Bool)) : Int -> Option (BX Int Int) := fun s24 =>
 (bif (decide (s24 < (x0.length : Int))) then ((idx x0 s24).bind fun x47 => ((x1 x47).bind fun r61 => (bif r61 then some (.ret s24) else some (.next (W64 (s24 + 1)))))) else some (.done s24))
def BA (N : Nat) (x0 : (List Clause)) (x1 : (Clause -> Option Bool)) : Option Int :=
 ((Br (Bt N x0 x1) N 0).bind fun o => o.k (fun r => some r) (fun s33 => some (-1)))
theorem CE : An Tryz.prog 162 := fun _ _ => by kernel_rfl
theorem CG (N : Nat) (w0 : World) (F0 : Mem) (hF : Sz w0 F0) (x0 : (List Clause)) (a0_0 : Sy) (n0_0 : Nat) (hb0_0 : LC x0.length n0_0) (hs0_0 : SlA AB F0 a0_0 x0) (gx1 : FuncId) (fx1 kx1 : List Value) (x1 : Clause -> Option Bool) (hox1 : An Tryz.prog gx1) (hpx1 : Oo F0 gx1 fx1 kx1 x1) (r : Int) (h : BA N x0 x1 = some r) :
  Calls Tryz.prog 162 ([(.slice a0_0 x0.length n0_0), (.func (.func gx1) fx1.toArray kx1.toArray)] : List Value).toArray w0 (AU w0 F0 fun F' v => v = (vi r)) := by
 have hs0 := R7 hF
 refine Go 19 Tryz.func162 ?_
 refine Sq (Rg [0] ?_)
 refine Vs 1 ?_
 refine Nss ?_
 refine Sq (Rg [0, 1, 2] ?_)
 refine Vs 3 ?_
 refine Nt ?_
 obtain ⟨o21, ho22, h23⟩ := bind_some h
 refine Se (fun f w => ∃ (s33 : Int) (F2 : Mem), o21 = .done s33 /\ HS w0 F0 w F2 [] /\ R5 F0 F2 /\ FI f [] []) ?_ ?_
 ·refine Bk ?_
  refine R4 (by kernel_rfl) (fun m f w => ∃ (s24 : Int) (F1 : Mem), Br (Bt N x0 x1) m s24 = some o21 /\ HS w0 F0 w F1 [] /\ R5 F0 F1 /\ FI f [] [(0, (.slice a0_0 x0.length n0_0)), (1, (.func (.func gx1) fx1.toArray kx1.toArray)), (7, (vi (x0.length : Int))), (8, (vi s24))]) N ⟨0, F0, ho22, hs0, (R6 _), fI⟩ ?_
  rintro m38 f w25 ⟨s24, F1, hit39, hs26, le27, ⟨_, rfl⟩⟩
  obtain ⟨m40, fl41, rfl, hb42, hnx43⟩ := A7 hit39
  refine Sq (Rg [0] ?_)
  refine Vs 1 ?_
  refine Nss ?_
  refine Cd hb42 (fun hb44 h45 => ?_) (fun hb44 h46 => ?_)
  ·refine Sc ?_
   refine Ac ?_
   refine Sq ?_
   refine Bk ?_
   refine Sq (Rg [0, 1] ?_)
   refine Vs 2 ?_
   refine Nss (Rg [0, 1, 2, 3, 4, 5] ?_)
   refine Vs 3 ?_
   obtain ⟨x47, hx48, h50⟩ := bind_some h45
   obtain ⟨hi49, hx48'⟩ := Ay hx48
   obtain ⟨b51, o52, C53, E54, fz55, rfl, hF57, hE58⟩ := Sh (R8 hs0_0 le27) hx48'
   obtain ⟨ae59_2, ne59_2, ae59_5, ne59_5, hc60, hbe59_2, hse59_2, hbe59_5, hse59_5⟩ := hE58 _ _ hx48'
   refine Ix hi49 ?_
   refine Lx 0 (hs26.pers _ _ hF57) hc60 ?_
   obtain ⟨r61, hr62, h63⟩ := bind_some h50
   refine Cq hox1 hs26 (hpx1 w25 F1 x47 ae59_2 ne59_2 hbe59_2 hse59_2 ae59_5 ne59_5 hbe59_5 hse59_5 _ le27 hs26.pers hr62) ?_
   rintro _ F3 w65 hs66 le67 rfl
   refine Nt ?_
   refine Cd h63 (fun hb69 h70 => ?_) (fun hb69 h71 => ?_)
   ·refine Sq (Rg [0, 1] ?_)
    refine Vs 2 ?_
    refine Nt ?_
    refine Rt ?_
    refine Ah ?_
    refine Af ?_
    refine Af ?_
    refine Ah ?_
    have hret := Cf h70 hnx43
    subst hret
    refine .inr ?_
    refine Af ?_
    obtain rfl := Aa h23
    exact Re [(vi s24)] hs66 rfl
   ·refine Sc ?_
    refine Ap ?_
    refine Ac ?_
    refine Rg [0, 1] ?_
    refine Vs 2 ?_
    refine RY ?_
    have hn72 := A0 h71 hnx43
    exact ⟨m40, Nat.lt_succ_self _, (W64 (s24 + 1)), F3, hn72, hs66, (le27.trans le67), fI⟩
  ·refine Ex ?_
   refine AC ?_
   refine AC ?_
   refine AV rfl ?_
   have ho73 := Bd h46 hnx43
   exact .inl ⟨rfl, s24, F1, ho73, hs26, le27, fI⟩
 ·rintro f w34 ⟨s33, F2, rfl, hs35, le36, ⟨_, rfl⟩⟩
  have h74 := Cu h23
  refine Ac ?_
  refine Sq (Rg [0] ?_)
  refine Vs 1 ?_
  refine Nt ?_
  refine Rt ?_
  obtain rfl := Aa h74
  exact Re [(vi (-1))] hs35 rfl



def Fa (N : Nat) (x0 : Clause) (z0 : (List Int)) : Option Bool :=
 ((CL N x0.When z0).bind fun r24 => some (r24 == 1))
theorem Jb : An Tryz.prog 163 := fun _ _ => by kernel_rfl
theorem JX (N : Nat) (w0 : World) (F0 : Mem) (hF : Sz w0 F0) (x0 : Clause) (a0_2 : Sy) (n0_2 : Nat) (hb0_2 : LC x0.When.Kids.length n0_2) (hs0_2 : SlA Ao F0 a0_2 x0.When.Kids) (a0_5 : Sy) (n0_5 : Nat) (hb0_5 : LC x0.Then.Kids.length n0_5) (hs0_5 : SlA Ao F0 a0_5 x0.Then.Kids) (bz0 : Nat) (z0 : (List Int)) (az0_0 : Sy) (nz0_0 : Nat) (hbz0_0 : LC z0.length nz0_0) (hsz0_0 : SlA Bu F0 az0_0 z0) (hz0 : F0 bz0 = some (oc #[(.slice az0_0 z0.length nz0_0)] 47)) (r : Bool) (h : Fa N x0 z0 = some r) :
  Calls Tryz.prog 163 ([(.agg (H3 x0 a0_2 n0_2 a0_5 n0_5)), (pt bz0 0)] : List Value).toArray w0 (AU w0 F0 fun F' v => v = (.bool r)) := by
 have hs0 := R7 hF
 refine Go 9 Tryz.func163 ?_
 refine Sq (Rg [0, 1] ?_)
 refine Bx' 56 (H3 x0 a0_2 n0_2 a0_5 n0_5) hs0 (fun b21 w22 hs23 => ?_)
 refine Vs 1 ?_
 refine Nss (Rg [0, 1, 2, 3, 4, 5] ?_)
 refine Vs 1 ?_
 refine Ld hs23.at0 ?_
 refine Ld (hs23.pers _ _ hz0) ?_
 obtain ⟨r24, hr25, h26⟩ := bind_some h
 refine Cl' CU hs23 (DY N w22 F0 hs23.pers x0.When a0_2 n0_2 hb0_2 hs0_2 z0 az0_0 nz0_0 hbz0_0 hsz0_0 _ hr25) ?_
 rintro _ F1 w28 hs29 le30 rfl
 refine Vs 2 ?_
 refine Nt ?_
 refine Rt ?_
 obtain rfl := Aa h26
 exact Re [(.bool (r24 == 1))] hs29 rfl
def Jp (N : Nat) (x0 : (List Clause)) (x1 : (List Int)) : Option Int :=
 ((BA N x0 (fun y0 => Fa N y0 x1)).bind fun r27 => some r27)
theorem Ky : An Tryz.prog 103 := fun _ _ => by kernel_rfl
theorem K8 (N : Nat) (w0 : World) (F0 : Mem) (hF : Sz w0 F0) (x0 : (List Clause)) (a0_0 : Sy) (n0_0 : Nat) (hb0_0 : LC x0.length n0_0) (hs0_0 : SlA AB F0 a0_0 x0) (x1 : (List Int)) (a1_0 : Sy) (n1_0 : Nat) (hb1_0 : LC x1.length n1_0) (hs1_0 : SlA Bu F0 a1_0 x1) (r : Int) (h : Jp N x0 x1 = some r) :
  Calls Tryz.prog 103 ([(.slice a0_0 x0.length n0_0), (.slice a1_0 x1.length n1_0)] : List Value).toArray w0 (AU w0 F0 fun F' v => v = (vi r)) := by
 have hs0 := R7 hF
 refine Go 8 Tryz.func103 ?_
 refine Sq (Rg [0, 1] ?_)
 refine Bx' 47 #[(.slice a1_0 x1.length n1_0)] hs0 (fun b21 w22 hs23 => ?_)
 refine Vs 1 ?_
 refine Nss (Rg [0, 1, 2, 3] ?_)
 refine Vs 2 ?_
 obtain ⟨F1, hs24, le25, hF26⟩ := hs23.fc0
 obtain ⟨r27, hr28, h29⟩ := bind_some h
 refine Cl' CE hs24 (CG N w22 F1 hs24.pers x0 a0_0 n0_0 hb0_0 (R8 hs0_0 le25) 163 [] [(pt b21 0)] (fun y0 => Fa N y0 x1) Jb (fun w1 F1 y0 ay0_2 ny0_2 hby0_2 hsy0_2 ay0_5 ny0_5 hby0_5 hsy0_5 r le1 pe1 hr1 => JX N w1 F1 pe1  y0 ay0_2 ny0_2 hby0_2 hsy0_2 ay0_5 ny0_5 hby0_5 hsy0_5 b21 x1 a1_0 n1_0 hb1_0 (R8 (R8 hs1_0 le25) le1) (le1 _ _ hF26) r hr1) _ hr28) ?_
 rintro _ F2 w31 hs32 le33 rfl
 refine Vs 1 ?_
 refine Nt ?_
 refine Rt ?_
 obtain rfl := Aa h29
 exact Re [(vi r27)] hs32 rfl



def EI (N : Nat) (x0 : Expr) (x1 : (List Int)) : Option (Int × Int) :=
 ((CM N x0).bind fun r24 => (bif (!r24) then some (0, 61) else ((Cr N x1).bind fun r35 => (bif (!r35) then some (0, 63) else ((CL N x0 x1).bind fun r46 => some (r46, 0))))))
theorem Hv : An Tryz.prog 36 := fun _ _ => by kernel_rfl
theorem Iq (N : Nat) (w0 : World) (F0 : Mem) (hF : Sz w0 F0) (x0 : Expr) (a0_2 : Sy) (n0_2 : Nat) (hb0_2 : LC x0.Kids.length n0_2) (hs0_2 : SlA Ao F0 a0_2 x0.Kids) (x1 : (List Int)) (a1_0 : Sy) (n1_0 : Nat) (hb1_0 : LC x1.length n1_0) (hs1_0 : SlA Bu F0 a1_0 x1) (r : (Int × Int)) (h : EI N x0 x1 = some r) :
  Calls Tryz.prog 36 ([(.agg (Ae x0 a0_2 n0_2)), (.slice a1_0 x1.length n1_0)] : List Value).toArray w0 (AU w0 F0 fun F' v => v = (.tuple #[(vi r.1), (vi r.2)])) := by
 have hs0 := R7 hF
 refine Go 17 Tryz.func36 ?_
 refine Sq (Rg [0, 1, 2] ?_)
 refine Bx' 33 (Ae x0 a0_2 n0_2) hs0 (fun b21 w22 hs23 => ?_)
 refine Vs 2 ?_
 refine Nss ?_
 refine Bk ?_
 refine Sq (Rg [0, 1, 2, 3] ?_)
 refine Ld hs23.at0 ?_
 obtain ⟨r24, hr25, h26⟩ := bind_some h
 refine Cl' DB hs23 (D0 N w22 F0 hs23.pers x0 a0_2 n0_2 hb0_2 hs0_2 _ hr25) ?_
 rintro _ F1 w28 hs29 le30 rfl
 refine Vs 2 ?_
 refine Nt ?_
 refine Cd h26 (fun hb32 h33 => ?_) (fun hb32 h34 => ?_)
 ·refine Sq (Rg [0, 1] ?_)
  refine Vs 2 ?_
  refine Nt ?_
  refine Rt ?_
  refine Ah ?_
  refine Af ?_
  obtain rfl := Aa h33
  exact Re [(vi 0), (vi 61)] hs29 rfl
 ·refine Sq (Rg [0, 1, 2, 3] ?_)
  refine Vs 1 ?_
  obtain ⟨r35, hr36, h37⟩ := bind_some h34
  refine Cl' Ep hs29 (EO N w28 F1 hs29.pers x1 a1_0 n1_0 hb1_0 (R8 hs1_0 le30) _ hr36) ?_
  rintro _ F2 w39 hs40 le41 rfl
  refine Vs 2 ?_
  refine Nt ?_
  refine Cd h37 (fun hb43 h44 => ?_) (fun hb43 h45 => ?_)
  ·refine Sq (Rg [0, 1] ?_)
   refine Vs 2 ?_
   refine Nt ?_
   refine Rt ?_
   refine Ah ?_
   refine Af ?_
   obtain rfl := Aa h44
   exact Re [(vi 0), (vi 63)] hs40 rfl
  ·refine Sc ?_
   refine Ap ?_
   refine Ac ?_
   refine Sq (Rg [0, 1, 2, 3, 4] ?_)
   refine Ld hs40.at0 ?_
   refine Vs 1 ?_
   obtain ⟨r46, hr47, h48⟩ := bind_some h45
   refine Cl' CU hs40 (DY N w39 F2 hs40.pers x0 a0_2 n0_2 hb0_2 (R8 hs0_2 (le30.trans le41)) x1 a1_0 n1_0 hb1_0 (R8 hs1_0 (le30.trans le41)) _ hr47) ?_
   rintro _ F3 w50 hs51 le52 rfl
   refine Vs 2 ?_
   refine Nt ?_
   refine Rt ?_
   obtain rfl := Aa h48
   exact Re [(vi r46), (vi 0)] hs51 rfl





def Ca (N : Nat) (x1 : Int) : Option (List Clause) :=
 (bif (decide (x1 < 0)) then none else (bif (decide ((W64 (x1 - (W64 (0 - (([] : List Clause).length : Int))))) > 0)) then ((mk0 ({ When := ({ Op := 0, Value := 0, Kids := ([] : List Expr) } : Expr), Then := ({ Op := 0, Value := 0, Kids := ([] : List Expr) } : Expr) } : Clause) (W64 (x1 - (W64 (0 - (([] : List Clause).length : Int)))))).bind fun r7 => ((sub r7 0 (([] : List Clause).length : Int)).bind fun r17 => some r17)) else some ([] : List Clause)))
theorem C7 : An Tryz.prog 173 := fun _ _ => by kernel_rfl
theorem Db (N : Nat) (w0 : World) (F0 : Mem) (hF : Sz w0 F0) (x1 : Int) (r : (List Clause)) (h : Ca N x1 = some r) :
  Calls Tryz.prog 173 ([.slice none 0 0, (vi x1)] : List Value).toArray w0 (PT w0 F0 fun F' v L' => ∃ (a : Sy) (n : Nat) (e : Option Nat × Obj), v = .slice a r.length n /\ L' = [e] /\ Au AB 56 F' a n r e) := by
 have hs0 := R7 hF
 refine Ea (n := 27) (c := B7 Tryz.f173) Tryz.func173 (by kernel_rfl) (by kernel_rfl) (by kernel_rfl) ?_
 refine Sq (Rg [0] ?_)
 refine Vs 1 ?_
 refine Nss ?_
 refine Sq (Rg [0, 1] ?_)
 refine Vs 1 ?_
 refine Vs 1 ?_
 refine Nt ?_
 refine Cd h (fun hb1 h2 => ?_) (fun hb1 h3 => ?_)
 ·refine Rg [0, 1] ?_
  refine V 7 20 (FF (t := 9) (x := (.const (.string ⟨([99, 97, 110, 110, 111, 116, 32, 98, 101, 32, 110, 101, 103, 97, 116, 105, 118, 101] : Sx).toArray⟩))) (v := (.string ⟨(([99, 97, 110, 110, 111, 116, 32, 98, 101, 32, 110, 101, 103, 97, 116, 105, 118, 101] : Sx)).toArray⟩)) rfl (by kernel_rfl)) ?_
  cases h2
 ·refine Sc ?_
  refine Ac ?_
  refine Sq ?_
  refine Sq (Rg [0, 1, 2, 3, 4, 5, 6, 7] ?_)
  refine Vs 1 ?_
  refine Vs 1 ?_
  refine V 10 3 (Hm (x := (.tmp 9)) (ats := #[23]) (a := none) (n := 0) (c := 0) (E := 56) (s := 6) (by_ := 80) rfl rfl (by kernel_rfl)) ?_
  refine Vs 1 ?_
  refine Vs 1 ?_
  refine Vs 1 ?_
  refine Vs 1 ?_
  refine Vs 1 ?_
  refine Nss (Rg [0, 1] ?_)
  refine Vs 1 ?_
  refine Vs 1 ?_
  refine Nt ?_
  refine Cd h3 (fun hb4 h5 => ?_) (fun hb4 h6 => ?_)
  ·refine Rg [0, 1, 2, 3, 4, 5, 6, 7, 8, 9] ?_
   refine Vs 1 ?_
   refine Vs 1 ?_
   refine V 19 3 (Hm (x := (.tmp 18)) (ats := #[23]) (a := none) (n := 0) (c := 0) (E := 56) (s := 6) (by_ := 80) rfl rfl (by kernel_rfl)) ?_
   refine V 20 23 (KU (t := 23) (x := (.tmp 17)) (y := (.tmp 19)) (E := 56) (s := 6) (by_ := 80) rfl (by kernel_rfl) (by kernel_rfl) rfl) ?_
   refine Vs 1 ?_
   obtain ⟨r7, hm8, h9⟩ := bind_some h5
   refine RWP.appendNil (dst := (some 22)) (ty := 23) (g := none) (by kernel_rfl) rfl (x := (.tmp 20)) (y := (.tmp 21)) (t := 23) (t2 := 3) (by_ := 80) (z := (.agg #[(vi 0), (vi 0), (.slice none ([] : List Expr).length 0), (vi 0), (vi 0), (.slice none ([] : List Expr).length 0)])) (T := AB) (E := 56) rfl rfl (by kernel_rfl) (by decide) (by kernel_rfl) (by kernel_rfl) (z0 := ({ When := ({ Op := 0, Value := 0, Kids := ([] : List Expr) } : Expr), Then := ({ Op := 0, Value := 0, Kids := ([] : List Expr) } : Expr) } : Clause)) (fun _ => ⟨none, 0, none, 0, rfl, R9, (.inl rfl), R9, (.inl rfl)⟩) (by decide) hs0 hm8 (fun a10 n11 e12 w13 (hs14 : HS w0 F0 w13 F0 [e12]) hr15 => ?_)
   refine Vs 1 ?_
   refine Vs 1 ?_
   obtain ⟨r17, hr18, h19⟩ := bind_some h9
   refine RWP.sliceRow (T := AB) (x := (.tmp 22)) (y := (.tmp 24)) (t := 23) (E := 56) (by_ := 80) (c := n11) (a := a10) (l := r7) (r := r17) (ih := (([] : List Clause).length : Int)) (dst := (some 25)) (ty := 23) (g := none) (by kernel_rfl) rfl rfl (by kernel_rfl) (by kernel_rfl) hr15 rfl hr18 (fun hr20 => ?_)
   refine Vs 1 ?_
   refine Nss (Rg [0, 1] ?_)
   refine Vs 1 ?_
   refine Vs 1 ?_
   refine Nt ?_
   refine Rt ?_
   have hfin := Aa h19
   subst hfin
   exact ⟨rfl, (.slice a10 r17.length n11), Av (l := [.tmp 4]) (by kernel_rfl) (vs := [(.slice a10 r17.length n11)]) ⟨rfl, trivial⟩, (.slice a10 r17.length n11), F0, _, rfl, hs14, _, _, _, rfl, rfl, hr20⟩
  ·refine Sc ?_
   refine Ac ?_
   refine Sq (Rg [0, 1] ?_)
   refine Vs 1 ?_
   refine Vs 1 ?_
   refine Nt ?_
   refine Rt ?_
   have hs21 := hs0.dummy (oc #[] 0)
   have hfin := Aa h6
   subst hfin
   exact ⟨rfl, (.slice none ([] : List Clause).length 0), Av (l := [.tmp 4]) (by kernel_rfl) (vs := [(.slice none ([] : List Clause).length 0)]) ⟨rfl, trivial⟩, (.slice none ([] : List Clause).length 0), F0, _, rfl, hs21, _, _, _, rfl, rfl, (So AB 56 F0 _)⟩
def BC (N : Nat) (x0 : (List (List Clause))) : (Int × Int) -> Option (BX (List Clause) (Int × Int)) := fun s24 =>
 (bif (decide (s24.2 < (x0.length : Int))) then ((idx x0 s24.2).bind fun x50 => (bif (decide ((W64 (s24.1 + (x50.length : Int))) < 0)) then none else some (.next ((W64 (s24.1 + (x50.length : Int))), (W64 (s24.2 + 1)))))) else some (.done (s24.1, s24.2)))
def BB (N : Nat) (x0 : (List (List Clause))) (s34 : (Int × Int)) (r70 : (List Clause)) : (List Clause × Int) -> Option (BX (List Clause) (List Clause × Int)) := fun s87 =>
 (bif (decide (s87.2 < (x0.length : Int))) then ((idx x0 s87.2).bind fun x111 => ((EQ s87.1 x111).bind fun r125 => some (.next (r125, (W64 (s87.2 + 1)))))) else some (.done (s87.1, s87.2)))
def BZ (N : Nat) (x0 : (List (List Clause))) : Option (List Clause) :=
 ((Br (BC N x0) N (0, 0)).bind fun o => o.k (fun r => some r) (fun s34 => ((Ca N s34.1).bind fun r70 => ((Br (BB N x0 s34 r70) N (r70, 0)).bind fun o => o.k (fun r => some r) (fun s96 => some s96.1)))))
theorem CT : An Tryz.prog 122 := fun _ _ => by kernel_rfl
theorem C4 (N : Nat) (w0 : World) (F0 : Mem) (hF : Sz w0 F0) (x0 : (List (List Clause))) (a0_0 : Sy) (n0_0 : Nat) (hb0_0 : LC x0.length n0_0) (hs0_0 : SlA (tSl AB) F0 a0_0 x0) (r : (List Clause)) (h : BZ N x0 = some r) :
  Calls Tryz.prog 122 ([(.slice a0_0 x0.length n0_0)] : List Value).toArray w0 (AU w0 F0 fun F' v => ∃ (aq0_0 : Sy) (nq0_0 : Nat), v = (.slice aq0_0 r.length nq0_0) /\ LC r.length nq0_0 /\ SlA AB F' aq0_0 r) := by
 have hs0 := R7 hF
 refine Go 36 Tryz.func122 ?_
 refine Sq (Rg [0] ?_)
 refine Vs 1 ?_
 refine Nss (Rg [0] ?_)
 refine Vs 1 ?_
 refine Nss ?_
 refine Sq (Rg [0, 1, 2] ?_)
 refine Vs 3 ?_
 refine Nt ?_
 obtain ⟨o21, ho22, h23⟩ := bind_some h
 refine Se (fun f w => ∃ (s34 : (Int × Int)) (F2 : Mem), o21 = .done s34 /\ HS w0 F0 w F2 [] /\ R5 F0 F2 /\ FI f [] [(0, (.slice a0_0 x0.length n0_0)), (3, (vi s34.1))]) ?_ ?_
 ·refine Bk ?_
  refine R4 (by kernel_rfl) (fun m f w => ∃ (s24 : (Int × Int)) (F1 : Mem), Br (BC N x0) m s24 = some o21 /\ HS w0 F0 w F1 [] /\ R5 F0 F1 /\ FI f [] [(0, (.slice a0_0 x0.length n0_0)), (3, (vi s24.1)), (9, (.slice a0_0 x0.length n0_0)), (10, (vi (x0.length : Int))), (11, (vi s24.2))]) N ⟨(0, 0), F0, ho22, hs0, (R6 _), fI⟩ ?_
  rintro m41 f w25 ⟨s24, F1, hit42, hs26, le27, ⟨_, rfl⟩⟩
  obtain ⟨m43, fl44, rfl, hb45, hnx46⟩ := A7 hit42
  refine Sq (Rg [0] ?_)
  refine Vs 1 ?_
  refine Nss ?_
  refine Cd hb45 (fun hb47 h48 => ?_) (fun hb47 h49 => ?_)
  ·refine Sc ?_
   refine Ac ?_
   refine Sq ?_
   refine Bk ?_
   refine Sq (Rg [0, 1, 2] ?_)
   obtain ⟨x50, hx51, h53⟩ := bind_some h48
   obtain ⟨hi52, hx51'⟩ := Ay hx51
   obtain ⟨b54, o55, C56, E57, fz58, rfl, hF60, hE61⟩ := Sh (R8 hs0_0 le27) hx51'
   obtain ⟨ae62_0, ne62_0, hc63, hbe62_0, hse62_0⟩ := hE61 _ _ hx51'
   refine Ix hi52 ?_
   refine Lx 0 (hs26.pers _ _ hF60) hc63 ?_
   refine Vs 1 ?_
   refine Nss (Rg [0, 1, 2, 3, 4] ?_)
   refine Vs 5 ?_
   refine Nss (Rg [0, 1] ?_)
   refine Vs 2 ?_
   refine Nt ?_
   refine Cd h53 (fun hb64 h65 => ?_) (fun hb64 h66 => ?_)
   ·refine Rg [0, 1] ?_
    refine V 21 20 (FF (t := 9) (x := (.const (.string ⟨([108, 101, 110, 32, 111, 117, 116, 32, 111, 102, 32, 114, 97, 110, 103, 101] : Sx).toArray⟩))) (v := (.string ⟨(([108, 101, 110, 32, 111, 117, 116, 32, 111, 102, 32, 114, 97, 110, 103, 101] : Sx)).toArray⟩)) rfl (by kernel_rfl)) ?_
    cases h65
   ·refine Sc ?_
    refine Ap ?_
    refine Ac ?_
    refine Rg [0, 1] ?_
    refine Vs 2 ?_
    refine RY ?_
    have hn67 := A0 h66 hnx46
    exact ⟨m43, Nat.lt_succ_self _, ((W64 (s24.1 + (x50.length : Int))), (W64 (s24.2 + 1))), F1, hn67, hs26, le27, fI⟩
  ·refine Ex ?_
   refine AC ?_
   refine AC ?_
   refine AV rfl ?_
   have ho68 := Bd h49 hnx46
   exact .inl ⟨rfl, (s24.1, s24.2), F1, ho68, hs26, le27, fI⟩
 ·rintro f w35 ⟨s34, F2, rfl, hs36, le37, ⟨_, rfl⟩⟩
  have h69 := Cu h23
  refine Ac ?_
  refine Sq (Rg [0, 1, 2] ?_)
  refine Vs 1 ?_
  obtain ⟨r70, hr71, h72⟩ := bind_some h69
  refine RWP.callO (dst := (some 24)) (ty := 23) (g := none) (by kernel_rfl) rfl (f0 := (.func 173)) (aos := #[(.const (.slice none 0 0)), (.tmp 23)]) (ats := #[23, 3]) (fid := 173) (first := #[]) (cap := #[]) (args := [(.slice none ([] : List Clause).length 0), (vi s34.1)]) rfl C7 rfl hs36 (Db N w35 F2 hs36.pers s34.1 _ hr71) ?_
  rintro _ F3 w74 _ hs75 le76 ⟨a78, n79, e80, rfl, rfl, hr81⟩
  have hs83 : HS w0 F0 w74 F3 [e80] := hs75
  refine Vs 1 ?_
  refine Nss ?_
  refine Sq (Rg [0, 1, 2] ?_)
  refine Vs 3 ?_
  refine Nt ?_
  obtain ⟨o84, ho85, h86⟩ := bind_some h72
  refine Se (fun f w => ∃ (s96 : (List Clause × Int)) (F5 : Mem) (as96_0 : Sy) (ns96_0 : Nat) (es96_0 : Option Nat × Obj), o84 = .done s96 /\ HS w0 F0 w F5 [es96_0] /\ R5 F3 F5 /\ FI f [] [(6, (.slice as96_0 s96.1.length ns96_0))] /\ Au AB 56 F5 as96_0 ns96_0 s96.1 es96_0) ?_ ?_
  ·refine Bk ?_
   refine R4 (by kernel_rfl) (fun m f w => ∃ (s87 : (List Clause × Int)) (F4 : Mem) (as87_0 : Sy) (ns87_0 : Nat) (es87_0 : Option Nat × Obj), Br (BB N x0 s34 r70) m s87 = some o84 /\ HS w0 F0 w F4 [es87_0] /\ R5 F3 F4 /\ FI f [] [(6, (.slice as87_0 s87.1.length ns87_0)), (25, (.slice a0_0 x0.length n0_0)), (26, (vi (x0.length : Int))), (27, (vi s87.2))] /\ Au AB 56 F4 as87_0 ns87_0 s87.1 es87_0) N ⟨(r70, 0), F3, a78, n79, e80, ho85, hs83, (R6 _), fI, hr81⟩ ?_
   rintro m102 f w88 ⟨s87, F4, as87_0, ns87_0, es87_0, hit103, hs89, le90, ⟨_, rfl⟩, hrs87_0⟩
   obtain ⟨m104, fl105, rfl, hb106, hnx107⟩ := A7 hit103
   refine Sq (Rg [0] ?_)
   refine Vs 1 ?_
   refine Nss ?_
   refine Cd hb106 (fun hb108 h109 => ?_) (fun hb108 h110 => ?_)
   ·refine Sc ?_
    refine Ac ?_
    refine Sq ?_
    refine Bk ?_
    refine Sq (Rg [0, 1, 2] ?_)
    obtain ⟨x111, hx112, h114⟩ := bind_some h109
    obtain ⟨hi113, hx112'⟩ := Ay hx112
    obtain ⟨b115, o116, C117, E118, fz119, rfl, hF121, hE122⟩ := Sh (R8 hs0_0 ((le37.trans le76).trans le90)) hx112'
    obtain ⟨ae123_0, ne123_0, hc124, hbe123_0, hse123_0⟩ := hE122 _ _ hx112'
    refine Ix hi113 ?_
    refine Lx 0 (hs89.pers _ _ hF121) hc124 ?_
    refine Vs 1 ?_
    refine Nt ?_
    refine Rg [0, 1, 2, 3] ?_
    refine Vs 2 ?_
    obtain ⟨r125, hap126, h127⟩ := bind_some h114
    refine Ap0 Oa hs89 hrs87_0 (SlA.rd hs89 hse123_0) hap126 (fun a128 n129 e130 w131 hs132 hr133 => ?_)
    refine Vs 1 ?_
    refine RY ?_
    refine Ap ?_
    refine Ac ?_
    refine Rg [0, 1] ?_
    refine Vs 2 ?_
    refine RY ?_
    have hn134 := A0 h127 hnx107
    exact ⟨m104, Nat.lt_succ_self _, (r125, (W64 (s87.2 + 1))), F4, a128, n129, e130, hn134, hs132, le90, fI, hr133⟩
   ·refine Ex ?_
    refine AC ?_
    refine AC ?_
    refine AV rfl ?_
    have ho135 := Bd h110 hnx107
    exact .inl ⟨rfl, (s87.1, s87.2), F4, as87_0, ns87_0, es87_0, ho135, hs89, le90, fI, hrs87_0⟩
  ·rintro f w97 ⟨s96, F5, as96_0, ns96_0, es96_0, rfl, hs98, le99, ⟨_, rfl⟩, hrs96_0⟩
   have h136 := Cu h86
   refine Ac ?_
   refine Sq (Rg [0, 1] ?_)
   refine Vs 2 ?_
   refine Nt ?_
   refine Rt ?_
   have hb140 := Sn hrs96_0
   obtain ⟨F6, hs137, le138, hs139⟩ := hs98.fr0 hrs96_0
   obtain rfl := Aa h136
   exact Re [(.slice as96_0 s96.1.length ns96_0)] hs137 ⟨as96_0, ns96_0, rfl, hb140, hs139⟩
end Go.Proofs.YtaihlcdkcampbaaGreatDoor
