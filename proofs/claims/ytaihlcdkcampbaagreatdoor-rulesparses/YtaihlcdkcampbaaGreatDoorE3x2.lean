/- Lemmas of the claim RulesParses, printed by a program of the claimant and by hand. No statement of the seat is proved here. -/
import Derived.Test.YtaihlcdkcampbaaGreatDoorE3x1
set_option linter.unusedVariables false
set_option linter.unusedSimpArgs false
set_option linter.unusedSectionVars false
set_option maxHeartbeats 4000000
set_option maxRecDepth 100000
namespace Go.Proofs.YtaihlcdkcampbaaGreatDoor
def ups (g : Fr) (d : List Deferred) : List (Nat × Value) -> Fr
 | [] => ⟨g.v, d⟩
 | (i, v) :: l => upd (ups g d l) i v
def FI (f : Fr) (d : List Deferred) (l : List (Nat × Value)) : Prop := ∃ g, f = ups g d l
theorem Qi {f : Fr} {i : Nat} {v : Value} (h : f i = v) : upd f i v = f := by
 subst h
 cases f with
 | mk fv fd =>
  simp only [upd, Fr.mk.injEq, and_true]
  funext j
  cases hb : Nat.beq j i with
  | false => rfl
  | true => rw [Nat.eq_of_beq_eq_true hb]; rfl
def Eqs (f : Fr) : List (Nat × Value) -> Prop
 | [] => True
 | (i, v) :: l => f i = v /\ Eqs f l
theorem Lv {f : Fr} {d : List Deferred} (hd : f.d = d) : ∀ {l : List (Nat × Value)}, Eqs f l -> f = ups f d l
 | [], _ => by subst hd; rfl
 | (i, v) :: l, h => by
  show f = upd (ups f d l) i v
  rw [<- Lv hd h.2]; exact (Qi h.1).symm
theorem QM {f : Fr} : ∀ {l : List (Nat × Value)}, l.map (fun p => f p.1) = l.map (·.2) -> Eqs f l
 | [], _ => trivial
 | (i, v) :: l, h => by
  simp only [List.map_cons, List.cons.injEq] at h
  exact ⟨h.1, QM h.2⟩
theorem kq {α : Type} {a : α} (b : α) {c : α} (h : b = c) (k : a = b := by kernel_rfl) : a = c := k.trans h
theorem fI {f : Fr} {d : List Deferred} {l : List (Nat × Value)} (h : l.map (fun p => f p.1) = l.map (·.2) := by kernel_rfl) (hd : f.d = d := by kernel_rfl) : FI f d l := ⟨f, Lv hd (QM h)⟩
theorem fJ {f : Fr} {d : List Deferred} {l : List (Nat × Value)} (h : Eqs f l) (hd : f.d = d := by kernel_rfl) : FI f d l := ⟨f, Lv hd h⟩
def pkC : Op -> Operand | .pick c _ _ => c | _ => .tmp 0
def pkA : Op -> Operand | .pick _ a _ => a | _ => .tmp 0
def pkB : Op -> Operand | .pick _ _ b => b | _ => .tmp 0
def PU : Op -> Bool | .pick _ _ _ => true | _ => false
theorem Ih {op : Op} (h : PU op = true) : op = .pick (pkC op) (pkA op) (pkB op) := by cases op <;> simp_all [PU, pkC, pkA, pkB]
def ldX : Op -> Operand | .load _ x => x | _ => .tmp 0
def ldT : Op -> TypeId | .load t _ => t | _ => 0
def Ok : Op -> Bool | .load _ _ => true | _ => false
theorem Fo {op : Op} (h : Ok op = true) : op = .load (ldT op) (ldX op) := by cases op <;> simp_all [Ok, ldX, ldT]
def pO : Value -> Nat | .pointer (some ⟨_, o, _⟩) => o | _ => 0
def sB : Value -> Nat | .slice (some ⟨b, _, _⟩) _ _ => b | _ => 0
def sO : Value -> Nat | .slice (some ⟨_, o, _⟩) _ _ => o | _ => 0
def sC : Value -> Nat | .slice _ _ c => c | _ => 0
def iK : Value -> IntKind | .int k _ => k | _ => .i64
def ixX : Op -> Operand | .indexAddr _ x _ => x | _ => .tmp 0
def ixY : Op -> Operand | .indexAddr _ _ y => y | _ => .tmp 0
def ixT : Op -> TypeId | .indexAddr t _ _ => t | _ => 0
def OS : Op -> Bool | .indexAddr _ _ _ => true | _ => false
theorem GD {op : Op} (h : OS op = true) : op = .indexAddr (ixT op) (ixX op) (ixY op) := by cases op <;> simp_all [OS, ixT, ixX, ixY]
def stX : Op -> Operand | .store _ x _ => x | _ => .tmp 0
def stY : Op -> Operand | .store _ _ y => y | _ => .tmp 0
def stT : Op -> TypeId | .store t _ _ => t | _ => 0
def Ik : Op -> Bool | .store _ _ _ => true | _ => false
theorem Ey {op : Op} (h : Ik op = true) : op = .store (stT op) (stX op) (stY op) := by cases op <;> simp_all [Ik, stT, stX, stY]
def RH (t : TypeId) : Op -> Bool | .alloc t' => Nat.beq t t' | _ => false
theorem MU {t : TypeId} {op : Op} (h : RH t op = true) : op = .alloc t := by
 cases op <;> simp only [RH, Bool.false_eq_true] at h
 rw [Nat.eq_of_beq_eq_true h]
def bxX : Op -> Operand | .box _ x => x | _ => .tmp 0
def Si (t : TypeId) : Op -> Bool | .box t' _ => Nat.beq t t' | _ => false
theorem PV {t : TypeId} {op : Op} (h : Si t op = true) : op = .box t (bxX op) := by
 cases op <;> simp only [Si, Bool.false_eq_true] at h
 rw [Nat.eq_of_beq_eq_true h]; rfl
def bsV (P : Program) (f : Fr) : Op -> Option (TypeId × List Value) | .buildSlice t len parts => Kd P t len (parts.toList.map fun p => (p.1, fev f p.2)) | _ => none
def bsL : Op -> Nat | .buildSlice _ len _ => len | _ => 0
def clV (f : Fr) : Op -> Option (FuncId × List Value)
 | .call c => (match c.callee with
  | .value f0 => (match fev f f0 with
   | .func (.func g) fi ca => some (g, fi.toList ++ c.args.toList.map (fev f) ++ ca.toList)
   | _ => none)
  | _ => none)
 | _ => none
theorem HN {P : Program} {w : World} {f : Fr} {op : Op} {ty : TypeId} {g : FuncId} {args : List Value} (h : clV f op = some (g, args)) (hok : Au P g) : (Ax (fev f) op ty).run P w = .ok (.enter g args.toArray) w := by
 unfold clV at h
 split at h
 ·rename_i c
  obtain ⟨callee, aos, ats⟩ := c
  simp only at h
  split at h
  ·split at h
   ·rename_i hf
    simp only [Option.some.injEq, Prod.mk.injEq] at h
    obtain ⟨rfl, rfl⟩ := h
    exact DR hf hok rfl
   ·cases h
  ·cases h
 ·cases h
section
variable {P : Program} {ro : Option Nat} {n : Nat} {R : Array Oper} {Q : Exit -> Fr -> World -> Prop} {i : Nat} {rest : List Nat} {f : Fr} {w w' w0 : World} {F0 F : Mem} {L : List (Option Nat × Obj)}
theorem RWP.valU {v : Value} (ho : ung R i = true) (hy : (Ax (fev f) (Ar R i) (Gg R i)).run P w = .ok (.value v) w') (k : RWP P ro n R Q rest (Bi f (Bz R i) v) w') : RWP P ro n R Q (i :: rest) f w := Tk (BG ho) rfl hy k
theorem Pk1 {t : Bool} (ht : t = true) (k : RWP P ro n R Q rest (Bi f (Bz R i) (fev f (pkA (Ar R i)))) w) (hc : fev f (pkC (Ar R i)) = .bool t := by kernel_rfl) (ho : (ung R i && PU (Ar R i)) = true := by kernel_rfl) : RWP P ro n R Q (i :: rest) f w := by
 simp only [Bool.and_eq_true] at ho
 refine RWP.valU ho.1 ?_ k
 have := Ih ho.2
 rw [this] at hc ⊢; exact Kj hc ht rfl
theorem Pk0 {t : Bool} (ht : t = false) (k : RWP P ro n R Q rest (Bi f (Bz R i) (fev f (pkB (Ar R i)))) w) (hc : fev f (pkC (Ar R i)) = .bool t := by kernel_rfl) (ho : (ung R i && PU (Ar R i)) = true := by kernel_rfl) : RWP P ro n R Q (i :: rest) f w := by
 simp only [Bool.and_eq_true] at ho
 refine RWP.valU ho.1 ?_ k
 have := Ih ho.2
 rw [this] at hc ⊢; exact Kk hc ht rfl
def ldV (P : Program) (t : TypeId) (C : Array Value) (o : Nat) : Value := match Ep P t with | some (g, s) => mkV g (AF C o s) | none => undef
def ldK (P : Program) (t : TypeId) (C : Array Value) (o : Nat) : Bool := match Ep P t with | some (g, s) => Nat.beq (AF C o s).length s && (g || s == 1) | none => false
theorem OD {ρ : Operand -> Value} {t ty : TypeId} {x : Operand} {b o : Nat} {C : Array Value} {E : TypeId} {fz : Nat × Nat} (hx : ρ x = .pointer (some ⟨b, o, none⟩)) (hp : w.heap[b]? = some (.cells C E fz)) (hk : ldK P t C o = true) :
  (Ax ρ (.load t x) ty).run P w = .ok (.value (ldV P t C o)) w := by
 unfold ldK at hk; unfold ldV
 split at hk
 ·rename_i g s ht
  simp only [Bool.and_eq_true] at hk
  exact Bh hx ht hp (Nat.eq_of_beq_eq_true hk.1) hk.2 rfl
 ·cases hk
theorem Ld {b : Nat} {C : Array Value} {E : TypeId} {fz : Nat × Nat} (hp : w.heap[b]? = some (.cells C E fz)) (k : RWP P ro n R Q rest (Bi f (Bz R i) (ldV P (ldT (Ar R i)) C (pO (fev f (ldX (Ar R i)))))) w)
  (hx : fev f (ldX (Ar R i)) = .pointer (some ⟨b, pO (fev f (ldX (Ar R i))), none⟩) := by kernel_rfl) (ho : (ung R i && (Ok (Ar R i) && ldK P (ldT (Ar R i)) C (pO (fev f (ldX (Ar R i)))))) = true := by kernel_rfl) : RWP P ro n R Q (i :: rest) f w := by
 simp only [Bool.and_eq_true] at ho
 refine RWP.valU ho.1 ?_ k
 have := Fo ho.2.1
 rw [this]; exact OD hx hp ho.2.2
def lxV (P : Program) (t : TypeId) (cs : List Value) (j : Nat) : Value := match Ep P t with | some (g, s) => mkV g ((cs.drop j).take s) | none => undef
def lxK (P : Program) (t : TypeId) (cs : List Value) (j kk : Nat) : Bool := match Ep P t with | some (g, s) => decide (j + s <= kk) && (Nat.beq ((cs.drop j).take s).length s && (g || s == 1)) | none => false
theorem OA {ρ : Operand -> Value} {t ty : TypeId} {x : Operand} {j b o kk : Nat} {C : Array Value} {E : TypeId} {fz : Nat × Nat} {cs : List Value} (hx : ρ x = .pointer (some ⟨b, o + j, none⟩)) (hp : w.heap[b]? = some (.cells C E fz)) (hc : AF C o kk = cs) (hk : lxK P t cs j kk = true) :
  (Ax ρ (.load t x) ty).run P w = .ok (.value (lxV P t cs j)) w := by
 unfold lxK at hk; unfold lxV
 split at hk
 ·rename_i g s ht
  simp only [Bool.and_eq_true] at hk
  exact Kl hx ht hp hc hk.1 ⟨Nat.eq_of_beq_eq_true hk.2.1, trivial⟩ hk.2.2 rfl
 ·cases hk
theorem Lx (j : Nat) {b o kk : Nat} {C : Array Value} {E : TypeId} {fz : Nat × Nat} {cs : List Value} (hp : w.heap[b]? = some (.cells C E fz)) (hc : AF C o kk = cs) (k : RWP P ro n R Q rest (Bi f (Bz R i) (lxV P (ldT (Ar R i)) cs j)) w)
  (hx : fev f (ldX (Ar R i)) = .pointer (some ⟨b, o + j, none⟩) := by kernel_rfl) (ho : (ung R i && (Ok (Ar R i) && lxK P (ldT (Ar R i)) cs j kk)) = true := by kernel_rfl) : RWP P ro n R Q (i :: rest) f w := by
 simp only [Bool.and_eq_true] at ho
 refine RWP.valU ho.1 ?_ k
 have := Fo ho.2.1
 rw [this]; exact OA hx hp hc ho.2.2
def elS (P : Program) (t : TypeId) : Nat := match Bw P t with | some (_, s, _) => s | none => 0
theorem Ix {m : Nat} {y : Int} (hi : 0 <= y /\ y < (m : Int)) (k : RWP P ro n R Q rest (Bi f (Bz R i) (.pointer (some ⟨sB (fev f (ixX (Ar R i))), sO (fev f (ixX (Ar R i))) + y.toNat * elS P (ixT (Ar R i)), none⟩))) w)
  (hx : fev f (ixX (Ar R i)) = .slice (some ⟨sB (fev f (ixX (Ar R i))), sO (fev f (ixX (Ar R i))), none⟩) m (sC (fev f (ixX (Ar R i)))) := by kernel_rfl) (hy : fev f (ixY (Ar R i)) = .int (iK (fev f (ixY (Ar R i)))) y := by kernel_rfl)
  (ho : (ung R i && (OS (Ar R i) && slQ P (ixT (Ar R i)))) = true := by kernel_rfl) : RWP P ro n R Q (i :: rest) f w := by
 simp only [Bool.and_eq_true] at ho
 obtain ⟨h1, h2, h3⟩ := ho
 refine RWP.valU h1 ?_ k
 unfold slQ at h3
 split at h3
 ·rename_i q hq; obtain ⟨E, s, by_⟩ := q
  have es : elS P (ixT (Ar R i)) = s := by simp [elS, hq]
  rw [es]
  have e := GD h2
  have := Gy (P := P) (w := w) (ty := Gg R i) hx hy hq hi
  rw [<- e] at this; exact this
 ·cases h3
theorem Ix0 {m : Nat} {y : Int} (hi : 0 <= y /\ y < (m : Int)) (k : RWP P ro n R Q rest (Bi f (Bz R i) (.pointer (some ⟨sB (fev f (ixX (Ar R i))), y.toNat * elS P (ixT (Ar R i)), none⟩))) w)
  (hx : fev f (ixX (Ar R i)) = .slice (some ⟨sB (fev f (ixX (Ar R i))), 0, none⟩) m (sC (fev f (ixX (Ar R i)))) := by kernel_rfl) (hy : fev f (ixY (Ar R i)) = .int (iK (fev f (ixY (Ar R i)))) y := by kernel_rfl)
  (ho : (ung R i && (OS (Ar R i) && slQ P (ixT (Ar R i)))) = true := by kernel_rfl) : RWP P ro n R Q (i :: rest) f w := by
 simp only [Bool.and_eq_true] at ho
 obtain ⟨h1, h2, h3⟩ := ho
 refine RWP.valU h1 ?_ k
 unfold slQ at h3
 split at h3
 ·rename_i q hq; obtain ⟨E, s, by_⟩ := q
  have es : elS P (ixT (Ar R i)) = s := by simp [elS, hq]
  rw [es]
  have e := GD h2
  have := LE (P := P) (w := w) (ty := Gg R i) hx hy hq hi
  rw [<- e] at this; exact this
 ·cases h3
theorem Qq {ρ : Operand -> Value} {t ty : TypeId} {x y : Operand} {m : Nat} {q : Int} (hi : 0 <= q /\ q < (m : Int)) (hx : ρ x = .slice (some ⟨sB (ρ x), sO (ρ x), none⟩) m (sC (ρ x))) (hy : ρ y = .int (iK (ρ y)) q) (h3 : slQ P t = true) :
  (Ax ρ (.indexAddr t x y) ty).run P w = .ok (.value (.pointer (some ⟨sB (ρ x), sO (ρ x) + q.toNat * elS P t, none⟩))) w := by
 unfold slQ at h3
 split at h3
 ·rename_i a hq; obtain ⟨E, s, by_⟩ := a
  have es : elS P t = s := by simp [elS, hq]
  rw [es]; exact Gy hx hy hq hi
 ·cases h3
theorem Rp {t ty : TypeId} {x y : Operand} {m : Nat} {q : Int} (hi : 0 <= q /\ q < (m : Int)) (hx : fev f x = .slice (some ⟨sB (fev f x), 0, none⟩) m (sC (fev f x))) (hy : fev f y = .int (iK (fev f y)) q) (h3 : slQ P t = true) :
  (Ax (fev f) (.indexAddr t x y) ty).run P w = .ok (.value (.pointer (some ⟨sB (fev f x), q.toNat * elS P t, none⟩))) w := by
 unfold slQ at h3
 split at h3
 ·rename_i a hq; obtain ⟨E, s, by_⟩ := a
  have es : elS P t = s := by simp [elS, hq]
  rw [es]; exact LE hx hy hq hi
 ·cases h3
theorem RWP.valG {gb' gc : Bool} (hg : gc = gb') {v : Value} (hy : (Ax (fev f) (Ar R i) (Gg R i)).run P w = .ok (.value v) w') (k : RWP P ro n R Q rest (Bi f (Bz R i) v) w')
  (ho2 : Mn R (gj R [i]) gb' i = true) (hj : FH R (gj R [i]) = some (gq R [i])) (hf : f (gq R [i]) = .bool gc) : RWP P ro n R Q (i :: rest) f w := by
 rcases LN ho2 with e | e
 ·exact Tk e rfl hy k
 ·exact Tk e (FG hj hf hg) hy k
theorem Pg1 {gb' gc : Bool} (hg : gc = gb') {t : Bool} (ht : t = true) (k : RWP P ro n R Q rest (Bi f (Bz R i) (fev f (pkA (Ar R i)))) w) (hc : fev f (pkC (Ar R i)) = .bool t := by kernel_rfl) (ho : PU (Ar R i) = true := by kernel_rfl)
  (ho2 : Mn R (gj R [i]) gb' i = true := by kernel_rfl) (hj : FH R (gj R [i]) = some (gq R [i]) := by kernel_rfl) (hf : f (gq R [i]) = .bool gc := by kernel_rfl) : RWP P ro n R Q (i :: rest) f w := by
 refine RWP.valG hg ?_ k ho2 hj hf
 have := Ih ho
 rw [this] at hc ⊢; exact Kj hc ht rfl
theorem Pg0 {gb' gc : Bool} (hg : gc = gb') {t : Bool} (ht : t = false) (k : RWP P ro n R Q rest (Bi f (Bz R i) (fev f (pkB (Ar R i)))) w) (hc : fev f (pkC (Ar R i)) = .bool t := by kernel_rfl) (ho : PU (Ar R i) = true := by kernel_rfl)
  (ho2 : Mn R (gj R [i]) gb' i = true := by kernel_rfl) (hj : FH R (gj R [i]) = some (gq R [i]) := by kernel_rfl) (hf : f (gq R [i]) = .bool gc := by kernel_rfl) : RWP P ro n R Q (i :: rest) f w := by
 refine RWP.valG hg ?_ k ho2 hj hf
 have := Ih ho
 rw [this] at hc ⊢; exact Kk hc ht rfl
theorem Lg {gb' gc : Bool} (hg : gc = gb') {b : Nat} {C : Array Value} {E : TypeId} {fz : Nat × Nat} (hp : w.heap[b]? = some (.cells C E fz)) (k : RWP P ro n R Q rest (Bi f (Bz R i) (ldV P (ldT (Ar R i)) C (pO (fev f (ldX (Ar R i)))))) w)
  (hx : fev f (ldX (Ar R i)) = .pointer (some ⟨b, pO (fev f (ldX (Ar R i))), none⟩) := by kernel_rfl) (ho : (Ok (Ar R i) && ldK P (ldT (Ar R i)) C (pO (fev f (ldX (Ar R i))))) = true := by kernel_rfl)
  (ho2 : Mn R (gj R [i]) gb' i = true := by kernel_rfl) (hj : FH R (gj R [i]) = some (gq R [i]) := by kernel_rfl) (hf : f (gq R [i]) = .bool gc := by kernel_rfl) : RWP P ro n R Q (i :: rest) f w := by
 simp only [Bool.and_eq_true] at ho
 refine RWP.valG hg ?_ k ho2 hj hf
 have := Fo ho.1
 rw [this]; exact OD hx hp ho.2
theorem Lxg {gb' gc : Bool} (hg : gc = gb') (j : Nat) {b o kk : Nat} {C : Array Value} {E : TypeId} {fz : Nat × Nat} {cs : List Value} (hp : w.heap[b]? = some (.cells C E fz)) (hcs : AF C o kk = cs) (k : RWP P ro n R Q rest (Bi f (Bz R i) (lxV P (ldT (Ar R i)) cs j)) w)
  (hx : fev f (ldX (Ar R i)) = .pointer (some ⟨b, o + j, none⟩) := by kernel_rfl) (ho : (Ok (Ar R i) && lxK P (ldT (Ar R i)) cs j kk) = true := by kernel_rfl)
  (ho2 : Mn R (gj R [i]) gb' i = true := by kernel_rfl) (hj : FH R (gj R [i]) = some (gq R [i]) := by kernel_rfl) (hf : f (gq R [i]) = .bool gc := by kernel_rfl) : RWP P ro n R Q (i :: rest) f w := by
 simp only [Bool.and_eq_true] at ho
 refine RWP.valG hg ?_ k ho2 hj hf
 have := Fo ho.1
 rw [this]; exact OA hx hp hcs ho.2
theorem Ixg {gb' gc : Bool} (hg : gc = gb') {m : Nat} {y : Int} (hi : 0 <= y /\ y < (m : Int)) (k : RWP P ro n R Q rest (Bi f (Bz R i) (.pointer (some ⟨sB (fev f (ixX (Ar R i))), sO (fev f (ixX (Ar R i))) + y.toNat * elS P (ixT (Ar R i)), none⟩))) w)
  (hx : fev f (ixX (Ar R i)) = .slice (some ⟨sB (fev f (ixX (Ar R i))), sO (fev f (ixX (Ar R i))), none⟩) m (sC (fev f (ixX (Ar R i)))) := by kernel_rfl) (hy : fev f (ixY (Ar R i)) = .int (iK (fev f (ixY (Ar R i)))) y := by kernel_rfl)
  (ho : (OS (Ar R i) && slQ P (ixT (Ar R i))) = true := by kernel_rfl)
  (ho2 : Mn R (gj R [i]) gb' i = true := by kernel_rfl) (hj : FH R (gj R [i]) = some (gq R [i]) := by kernel_rfl) (hf : f (gq R [i]) = .bool gc := by kernel_rfl) : RWP P ro n R Q (i :: rest) f w := by
 simp only [Bool.and_eq_true] at ho
 refine RWP.valG hg ?_ k ho2 hj hf
 have e := GD ho.1
 have := Qq (P := P) (w := w) (ty := Gg R i) hi hx hy ho.2
 rw [<- e] at this; exact this
theorem Al' (t : TypeId) (C : Array Value) (hs : HS w0 F0 w F L) (k : ∀ b w', HS w0 F0 w' F ((some b, .cells C t (0, 0)) :: L) -> RWP P ro n R Q rest (Bi f (Bz R i) (.pointer (some ⟨b, 0, none⟩))) w')
  (hC : (BS P t).map Value.cells = some C := by kernel_rfl) (ho : (ung R i && RH t (Ar R i)) = true := by kernel_rfl) : RWP P ro n R Q (i :: rest) f w := by
 simp only [Bool.and_eq_true] at ho
 cases hz : BS P t with
 | none => rw [hz] at hC; cases hC
 | some z =>
  rw [hz] at hC; simp only [Option.map_some, Option.some.injEq] at hC
  have e := MU ho.2
  have := BG ho.1
  rw [e] at this
  exact Tv this rfl hz hC hs k
theorem Bx' (t : TypeId) (C : Array Value) (hs : HS w0 F0 w F L) (k : ∀ b w', HS w0 F0 w' F ((some b, .cells C t (0, 0)) :: L) -> RWP P ro n R Q rest (Bi f (Bz R i) (.pointer (some ⟨b, 0, none⟩))) w')
  (hC : (fev f (bxX (Ar R i))).cells = C := by kernel_rfl) (ho : (ung R i && Si t (Ar R i)) = true := by kernel_rfl) : RWP P ro n R Q (i :: rest) f w := by
 simp only [Bool.and_eq_true] at ho
 have e := PV ho.2
 have := BG ho.1
 rw [e] at this
 exact RWP.box this rfl rfl hC hs k
theorem Bs (E : TypeId) (cs : List Value) (hs : HS w0 F0 w F L) (k : ∀ b w', HS w0 F0 w' F ((some b, .cells cs.toArray E (0, 0)) :: L) -> RWP P ro n R Q rest (Bi f (Bz R i) (.slice (some ⟨b, 0, none⟩) (bsL (Ar R i)) (bsL (Ar R i)))) w')
  (hb : bsV P f (Ar R i) = some (E, cs) := by kernel_rfl) (ho : ung R i = true := by kernel_rfl) : RWP P ro n R Q (i :: rest) f w := by
 have := BG ho
 cases e : Ar R i with
 | buildSlice t len parts =>
  rw [e] at hb this k
  exact RWP.buildSlice this rfl rfl hb hs k
 | _ => rw [e] at hb; simp [bsV] at hb
def DM (P : Program) (t : TypeId) (v : Value) (o : Nat) (C : Array Value) : Bool := match Ep P t with | some (_, s) => Nat.beq v.cells.size s && (decide (o + s <= C.size) && v.cells.toList.all (·.oneCell')) | none => false
theorem I0 {ρ : Operand -> Value} {t ty : TypeId} {x y : Operand} {b o : Nat} {C C' : Array Value} {E : TypeId} (hx : ρ x = .pointer (some ⟨b, o, none⟩)) (hp : w.heap[b]? = some (.cells C E (0, 0))) (hk : DM P t (ρ y) o C = true) (hC : DP C o (ρ y).cells.toList = C') :
  (Ax ρ (.store t x y) ty).run P w = .ok .skip (Dc w b (.cells C' E (0, 0))) := by
 unfold DM at hk
 split at hk
 ·rename_i g s ht
  simp only [Bool.and_eq_true] at hk
  exact GK hx rfl ht hp (Nat.eq_of_beq_eq_true hk.1) hk.2.1 hk.2.2 hC
 ·cases hk
theorem Jh {b : Nat} {C C' : Array Value} {E : TypeId} (hp : w.heap[b]? = some (.cells C E (0, 0))) (k : RWP P ro n R Q rest f (Dc w b (.cells C' E (0, 0))))
  (hx : fev f (stX (Ar R i)) = .pointer (some ⟨b, pO (fev f (stX (Ar R i))), none⟩)) (hC : DP C (pO (fev f (stX (Ar R i)))) (fev f (stY (Ar R i))).cells.toList = C')
  (ho : (ung R i && (Ik (Ar R i) && (DM P (stT (Ar R i)) (fev f (stY (Ar R i))) (pO (fev f (stX (Ar R i)))) C && (match Bz R i with | none => true | some _ => false)))) = true) : RWP P ro n R Q (i :: rest) f w := by
 simp only [Bool.and_eq_true] at ho
 obtain ⟨h1, h2, h3, h4⟩ := ho
 have e := Ey h2
 have := BG h1
 cases hd : Bz R i with
 | some d => rw [hd] at h4; cases h4
 | none =>
  rw [hd] at this
  refine RWP.unit this rfl ?_ k
  rw [e]; exact I0 hx hp h3 hC
theorem Cl' {fid : FuncId} {args : List Value} {post : Mem -> Value -> Prop} (hok : Au P fid) (hs : HS w0 F0 w F L) (hc : Calls P fid args.toArray w (Bd w F post))
  (k : ∀ v F1 w1, HS w0 F0 w1 F1 L -> Tn F F1 -> post F1 v -> RWP P ro n R Q rest (Bi f (Bz R i) v) w1) (ha : clV f (Ar R i) = some (fid, args) := by kernel_rfl) (ho : ung R i = true := by kernel_rfl) : RWP P ro n R Q (i :: rest) f w := by
 refine Tl (BG ho) rfl (HN ha hok) hc ?_
 rintro e w' ⟨r, F', rfl, h1, h2⟩
 exact k r F' w' (hs.call h1) h1.le h2
theorem Cg {fid : FuncId} {args : List Value} {post : Mem -> Value -> Prop} {b c : Bool} (hg : c = b) (hok : Au P fid) (hs : HS w0 F0 w F L) (hc : Calls P fid args.toArray w (Bd w F post))
  (k : ∀ v F1 w1, HS w0 F0 w1 F1 L -> Tn F F1 -> post F1 v -> RWP P ro n R Q rest (Bi f (Bz R i) v) w1) (ha : clV f (Ar R i) = some (fid, args) := by kernel_rfl)
  (ho : Mn R (gj R [i]) b i = true := by kernel_rfl) (hj : FH R (gj R [i]) = some (gq R [i]) := by kernel_rfl) (hf : f (gq R [i]) = .bool c := by kernel_rfl) : RWP P ro n R Q (i :: rest) f w := by
 have hE : ∀ e w', Bd w F post e w' -> match e with
   | .returned v => RWP P ro n R Q rest (Bi f (Bz R i) v) w'
   | .panicked chain => Q (.panic chain) f w'
   | .outgrown => False := by
  rintro e w' ⟨r, F', rfl, h1, h2⟩
  exact k r F' w' (hs.call h1) h1.le h2
 rcases LN ho with e | e
 ·exact Tl e rfl (HN ha hok) hc hE
 ·exact Tl e (FG hj hf hg) (HN ha hok) hc hE
theorem CB {fid : FuncId} {args : List Value} {wb : World} {Fb : Mem} {post : Mem -> Value -> Own -> Prop} (hok : Au P fid) (hc : Calls P fid args.toArray w (D4 wb Fb F post))
  (k : ∀ v F1 w1 L', HS wb Fb w1 F1 L' -> Tn F F1 -> post F1 v L' -> RWP P ro n R Q rest (Bi f (Bz R i) v) w1) (ha : clV f (Ar R i) = some (fid, args) := by kernel_rfl) (ho : ung R i = true := by kernel_rfl) : RWP P ro n R Q (i :: rest) f w := by
 refine Tl (BG ho) rfl (HN ha hok) hc ?_
 rintro e w' ⟨F', r, L', rfl, h1, h2, h3⟩
 exact k r F' w' L' h1 h2 h3
theorem CP {fid : FuncId} {args : List Value} {wb : World} {Fb : Mem} {α β : Type} {Lf : Own} {res : β ⊕ α} {bv : β -> Value} {post : α -> Mem -> Value -> Own -> Prop} (hok : Au P fid) (hc : Calls P fid args.toArray w (Cj wb Fb F Lf res bv post))
  (k : ∀ r v F1 w1 L', res = .inr r -> HS wb Fb w1 F1 L' -> Tn F F1 -> post r F1 v L' -> RWP P ro n R Q rest (Bi f (Bz R i) v) w1)
  (kp : ∀ b F1 w1, res = .inl b -> HS wb Fb w1 F1 Lf -> Tn F F1 -> Q (.panic [{ v := bv b, recovered := false }]) f w1) (ha : clV f (Ar R i) = some (fid, args) := by kernel_rfl) (ho : ung R i = true := by kernel_rfl) : RWP P ro n R Q (i :: rest) f w := by
 refine Tl (BG ho) rfl (HN ha hok) hc ?_
 rintro e w' (⟨r, F', v, L', h0, rfl, h1, h2, h3⟩ | ⟨b, F', h0, rfl, h1, h2⟩)
 ·exact k r v F' w' L' h0 h1 h2 h3
 ·exact kp b F' w' h0 h1 h2
def clQ (f : Fr) : Op -> Option (FuncId × List Value)
 | .call c => (match c.callee with
  | .value f0 => (match fev f f0 with
   | .func (.func g) fi ca => some (g, fi.toList ++ (c.args.toList.map (fev f) ++ ca.toList))
   | _ => none)
  | _ => none)
 | _ => none
theorem QV (f : Fr) (op : Op) : clQ f op = clV f op := by
 unfold clQ clV
 split <;> try rfl
 split <;> try rfl
 split <;> try rfl
 simp [List.append_assoc]
theorem Cq {fid : FuncId} {args : List Value} {post : Mem -> Value -> Prop} (hok : Au P fid) (hs : HS w0 F0 w F L) (hc : Calls P fid args.toArray w (Bd w F post))
  (k : ∀ v F1 w1, HS w0 F0 w1 F1 L -> Tn F F1 -> post F1 v -> RWP P ro n R Q rest (Bi f (Bz R i) v) w1) (ha : clQ f (Ar R i) = some (fid, args) := by kernel_rfl) (ho : ung R i = true := by kernel_rfl) : RWP P ro n R Q (i :: rest) f w := Cl' hok hs hc k (QV f _ ▸ ha) ho
theorem CPq {fid : FuncId} {args : List Value} {wb : World} {Fb : Mem} {α β : Type} {Lf : Own} {res : β ⊕ α} {bv : β -> Value} {post : α -> Mem -> Value -> Own -> Prop} (hok : Au P fid) (hc : Calls P fid args.toArray w (Cj wb Fb F Lf res bv post))
  (k : ∀ r v F1 w1 L', res = .inr r -> HS wb Fb w1 F1 L' -> Tn F F1 -> post r F1 v L' -> RWP P ro n R Q rest (Bi f (Bz R i) v) w1)
  (kp : ∀ b F1 w1, res = .inl b -> HS wb Fb w1 F1 Lf -> Tn F F1 -> Q (.panic [{ v := bv b, recovered := false }]) f w1) (ha : clQ f (Ar R i) = some (fid, args) := by kernel_rfl) (ho : ung R i = true := by kernel_rfl) : RWP P ro n R Q (i :: rest) f w := CP hok hc k kp (QV f _ ▸ ha) ho
theorem Go (m : Nat) {fid : FuncId} {fn : Func} {args : List Value} {S : Ending -> World -> Prop} (hf : P.funcs[fid]? = some fn) (h : CWP P none m (CT fn) (SJ P fn.results S) (f0 args) w)
  (hk : (Nat.beq fn.ntmps m && (decide (args.length <= m) && isS fn.body)) = true := by kernel_rfl) : Calls P fid args.toArray w S := by
 simp only [Bool.and_eq_true] at hk
 have h1 := Hu (d := .skip) hk.2.2
 exact FO hf h1 (Nat.eq_of_beq_eq_true hk.1) hk.2.1 h
theorem Sd {α : Type} {t : Bool} {x y r : α} (h : (bif t then x else y) = r) {PQ : List PanicEntry -> List Deferred -> World -> Prop} {Post : Fr -> World -> Prop} {z : Nat} {Sw : Bool -> World -> Prop} {fuel : Nat} {l : List Bool}
  (ht : t = true -> x = r -> DWP P n R PQ Post z Sw fuel l f w) (hf : t = false -> y = r -> DWP P n R PQ Post z Sw fuel l f w) : DWP P n R PQ Post z Sw fuel l f w :=
 DWP.split t (fun e => ht e (OW h e)) (fun e => hf e (OX h e))
variable {c : Code} {Q' : Exit -> Fr -> World -> Prop}
theorem Cd {α : Type} {t : Bool} {x y r : α} (h : (bif t then x else y) = r) (ht : t = true -> x = r -> CWP P ro n (QU c) Q f w) (hf : t = false -> y = r -> CWP P ro n (QW c) Q f w) (hc : fev f (OV c) = .bool t := by kernel_rfl) (hk : kin c = 4 := by kernel_rfl) : CWP P ro n c Q f w :=
 CWP.cond hk hc (fun e => ht e (OW h e)) (fun e => hf e (OX h e))
theorem Cp (t : Bool) (ht : t = true -> CWP P ro n (QU c) Q f w) (hf : t = false -> CWP P ro n (QW c) Q f w) (hc : fev f (OV c) = .bool t := by kernel_rfl) (hk : kin c = 4 := by kernel_rfl) : CWP P ro n c Q f w := CWP.cond hk hc ht hf
theorem C1 {t : Bool} (e : t = true) (h : CWP P ro n (QU c) Q f w) (hc : fev f (OV c) = .bool t := by kernel_rfl) (hk : kin c = 4 := by kernel_rfl) : CWP P ro n c Q f w := CWP.cond1 hk hc e h
theorem C0 {t : Bool} (e : t = false) (h : CWP P ro n (QW c) Q f w) (hc : fev f (OV c) = .bool t := by kernel_rfl) (hk : kin c = 4 := by kernel_rfl) : CWP P ro n c Q f w := CWP.cond0 hk hc e h
theorem Sp {α : Type} {t : Bool} {x y r : α} (h : (bif t then x else y) = r) {l : List Nat} (ht : t = true -> x = r -> RWP P ro n R Q l f w) (hf : t = false -> y = r -> RWP P ro n R Q l f w) : RWP P ro n R Q l f w :=
 Ts t (fun e => ht e (OW h e)) (fun e => hf e (OX h e))
theorem Rt (h : Q .ret f w) (hk : kin c = 8 := by kernel_rfl) : CWP P ro n c Q f w := CWP.ret hk h
theorem Ex (h : Q (.exit (cid c)) f w) (hk : kin c = 7 := by kernel_rfl) : CWP P ro n c Q f w := CWP.exit hk h
end
def OH (f : Fr) : List ResultVar -> Option (List Value)
 | [] => some []
 | .tmp t :: rs => (match OH f rs with | some l => some (f t :: l) | none => none)
 | _ => none
theorem Ic {P : Program} {w : World} {f : Fr} : ∀ {rs : List ResultVar} {vs : List Value}, OH f rs = some vs -> Q4 P w f rs vs
 | [], _, h => by cases h; trivial
 | .tmp t :: rs, vs, h => by
  unfold OH at h
  split at h
  ·rename_i l hl; cases h; exact ⟨rfl, Ic hl⟩
  ·cases h
 | .cell _ _ :: rs, vs, h => by simp [OH] at h
theorem Re {P : Program} {rs : Array ResultVar} {w w0 : World} {F0 F : Mem} {f : Fr} {L : List (Option Nat × Obj)} {post : Mem -> Value -> Prop} (vs : List Value) (hs : HS w0 F0 w F L) (hp : post F (Gh vs)) (hr : OH f rs.toList = some vs := by kernel_rfl) (hd : f.d = [] := by kernel_rfl) :
  f.d = [] /\ ∃ v, (C4 rs f).run P w = .ok v w /\ Bd w0 F0 post (.returned v) w :=
 ⟨hd, Gh vs, AE rfl (Ic hr), Gh vs, F, rfl, hs.clear, hp⟩
theorem ReB {P : Program} {rs : Array ResultVar} {w wb : World} {Fb F0 F : Mem} {f : Fr} {L : Own} {post : Mem -> Value -> Own -> Prop} (vs : List Value) (hs : HS wb Fb w F L) (hl : Tn F0 F) (hp : post F (Gh vs) L) (hr : OH f rs.toList = some vs := by kernel_rfl) (hd : f.d = [] := by kernel_rfl) :
  f.d = [] /\ ∃ v, (C4 rs f).run P w = .ok v w /\ D4 wb Fb F0 post (.returned v) w :=
 ⟨hd, Gh vs, AE rfl (Ic hr), F, Gh vs, L, rfl, hs, hl, hp⟩
theorem ReP {P : Program} {rs : Array ResultVar} {w wb : World} {Fb F0 F : Mem} {f : Fr} {L Lf : Own} {α β : Type} {a : α} {bv : β -> Value} {post : α -> Mem -> Value -> Own -> Prop} (vs : List Value) (hs : HS wb Fb w F L) (hl : Tn F0 F) (hp : post a F (Gh vs) L) (hr : OH f rs.toList = some vs := by kernel_rfl) (hd : f.d = [] := by kernel_rfl) :
  f.d = [] /\ ∃ v, (C4 rs f).run P w = .ok v w /\ Cj wb Fb F0 Lf (.inr a) bv post (.returned v) w :=
 ⟨hd, Gh vs, AE rfl (Ic hr), .inl ⟨a, F, Gh vs, L, rfl, rfl, hs, hl, hp⟩⟩
theorem CI {w wb : World} {Fb F0 F : Mem} {f : Fr} {Lf : Own} {α β : Type} {b : β} {bv : β -> Value} {post : α -> Mem -> Value -> Own -> Prop} (hs : HS wb Fb w F Lf) (hl : Tn F0 F) (hd : f.d = [] := by kernel_rfl) :
  f.d = [] /\ Cj wb Fb F0 Lf (.inl b) bv post (.panicked [{ v := bv b, recovered := false }]) w := ⟨hd, .inr ⟨b, F, rfl, rfl, hs, hl⟩⟩
section
variable {w0 w : World} {F0 F : Mem} {L : List (Option Nat × Obj)} {e : Option Nat × Obj}
theorem HS.dr0 (h : HS w0 F0 w F (e :: L)) : HS w0 F0 w F (L) := h.drop 0
theorem HS.at0 {b : Nat} {o : Obj} (h : HS w0 F0 w F ((some b, o) :: L)) : w.heap[b]? = some o := h.ownAt (k := 0) rfl
theorem HS.fc0 {b : Nat} {o : Obj} (h : HS w0 F0 w F ((some b, o) :: L)) : ∃ F1, HS w0 F0 w F1 (L) /\ Tn F F1 /\ F1 b = some o := h.freezeC (k := 0) rfl
theorem HS.fr0 {α : Type} {T : Ty α} {E : TypeId} {a : TO} {cap : Nat} {l : List α} (h : HS w0 F0 w F (e :: L)) (hr : Av T E F a cap l e) : ∃ F1, HS w0 F0 w F1 (L) /\ Tn F F1 /\ SlA T F1 a l := h.freezeRow (k := 0) rfl hr
theorem HS.rd0 {α : Type} {T : Ty α} {E : TypeId} {a : TO} {cap : Nat} {l : List α} (h : HS w0 F0 w F (e :: L)) (hr : Av T E F a cap l e) : Rd T F w a l := Av.rd h (k := 0) rfl hr
theorem HS.dr1 {e0 : Option Nat × Obj} (h : HS w0 F0 w F (e0 :: e :: L)) : HS w0 F0 w F (e0 :: L) := h.drop 1
theorem HS.pk1 {e0 : Option Nat × Obj} (h : HS w0 F0 w F (e0 :: e :: L)) : HS w0 F0 w F (e :: e0 :: L) := h.pick (k := 1) rfl
theorem HS.at1 {e0 : Option Nat × Obj} {b : Nat} {o : Obj} (h : HS w0 F0 w F (e0 :: (some b, o) :: L)) : w.heap[b]? = some o := h.ownAt (k := 1) rfl
theorem HS.fc1 {e0 : Option Nat × Obj} {b : Nat} {o : Obj} (h : HS w0 F0 w F (e0 :: (some b, o) :: L)) : ∃ F1, HS w0 F0 w F1 (e0 :: L) /\ Tn F F1 /\ F1 b = some o := h.freezeC (k := 1) rfl
theorem HS.fr1 {e0 : Option Nat × Obj} {α : Type} {T : Ty α} {E : TypeId} {a : TO} {cap : Nat} {l : List α} (h : HS w0 F0 w F (e0 :: e :: L)) (hr : Av T E F a cap l e) : ∃ F1, HS w0 F0 w F1 (e0 :: L) /\ Tn F F1 /\ SlA T F1 a l := h.freezeRow (k := 1) rfl hr
theorem HS.dr2 {e0 e1 : Option Nat × Obj} (h : HS w0 F0 w F (e0 :: e1 :: e :: L)) : HS w0 F0 w F (e0 :: e1 :: L) := h.drop 2
theorem HS.pk2 {e0 e1 : Option Nat × Obj} (h : HS w0 F0 w F (e0 :: e1 :: e :: L)) : HS w0 F0 w F (e :: e0 :: e1 :: L) := h.pick (k := 2) rfl
theorem HS.at2 {e0 e1 : Option Nat × Obj} {b : Nat} {o : Obj} (h : HS w0 F0 w F (e0 :: e1 :: (some b, o) :: L)) : w.heap[b]? = some o := h.ownAt (k := 2) rfl
theorem HS.fr2 {e0 e1 : Option Nat × Obj} {α : Type} {T : Ty α} {E : TypeId} {a : TO} {cap : Nat} {l : List α} (h : HS w0 F0 w F (e0 :: e1 :: e :: L)) (hr : Av T E F a cap l e) : ∃ F1, HS w0 F0 w F1 (e0 :: e1 :: L) /\ Tn F F1 /\ SlA T F1 a l := h.freezeRow (k := 2) rfl hr
theorem HS.dr3 {e0 e1 e2 : Option Nat × Obj} (h : HS w0 F0 w F (e0 :: e1 :: e2 :: e :: L)) : HS w0 F0 w F (e0 :: e1 :: e2 :: L) := h.drop 3
theorem HS.pk3 {e0 e1 e2 : Option Nat × Obj} (h : HS w0 F0 w F (e0 :: e1 :: e2 :: e :: L)) : HS w0 F0 w F (e :: e0 :: e1 :: e2 :: L) := h.pick (k := 3) rfl
theorem HS.at3 {e0 e1 e2 : Option Nat × Obj} {b : Nat} {o : Obj} (h : HS w0 F0 w F (e0 :: e1 :: e2 :: (some b, o) :: L)) : w.heap[b]? = some o := h.ownAt (k := 3) rfl
theorem HS.fr3 {e0 e1 e2 : Option Nat × Obj} {α : Type} {T : Ty α} {E : TypeId} {a : TO} {cap : Nat} {l : List α} (h : HS w0 F0 w F (e0 :: e1 :: e2 :: e :: L)) (hr : Av T E F a cap l e) : ∃ F1, HS w0 F0 w F1 (e0 :: e1 :: e2 :: L) /\ Tn F F1 /\ SlA T F1 a l := h.freezeRow (k := 3) rfl hr
theorem HS.pk4 {e0 e1 e2 e3 : Option Nat × Obj} (h : HS w0 F0 w F (e0 :: e1 :: e2 :: e3 :: e :: L)) : HS w0 F0 w F (e :: e0 :: e1 :: e2 :: e3 :: L) := h.pick (k := 4) rfl
theorem HS.at4 {e0 e1 e2 e3 : Option Nat × Obj} {b : Nat} {o : Obj} (h : HS w0 F0 w F (e0 :: e1 :: e2 :: e3 :: (some b, o) :: L)) : w.heap[b]? = some o := h.ownAt (k := 4) rfl
theorem HS.pk5 {e0 e1 e2 e3 e4 : Option Nat × Obj} (h : HS w0 F0 w F (e0 :: e1 :: e2 :: e3 :: e4 :: e :: L)) : HS w0 F0 w F (e :: e0 :: e1 :: e2 :: e3 :: e4 :: L) := h.pick (k := 5) rfl
theorem HS.at5 {e0 e1 e2 e3 e4 : Option Nat × Obj} {b : Nat} {o : Obj} (h : HS w0 F0 w F (e0 :: e1 :: e2 :: e3 :: e4 :: (some b, o) :: L)) : w.heap[b]? = some o := h.ownAt (k := 5) rfl
theorem HS.pk6 {e0 e1 e2 e3 e4 e5 : Option Nat × Obj} (h : HS w0 F0 w F (e0 :: e1 :: e2 :: e3 :: e4 :: e5 :: e :: L)) : HS w0 F0 w F (e :: e0 :: e1 :: e2 :: e3 :: e4 :: e5 :: L) := h.pick (k := 6) rfl
theorem HS.pk7 {e0 e1 e2 e3 e4 e5 e6 : Option Nat × Obj} (h : HS w0 F0 w F (e0 :: e1 :: e2 :: e3 :: e4 :: e5 :: e6 :: e :: L)) : HS w0 F0 w F (e :: e0 :: e1 :: e2 :: e3 :: e4 :: e5 :: e6 :: L) := h.pick (k := 7) rfl
variable {P : Program} {ro : Option Nat} {n : Nat} {R : Array Oper} {Q : Exit -> Fr -> World -> Prop} {i : Nat} {rest : List Nat} {f : Fr} {α : Type} {T : Ty α} {E : TypeId} {a : TO} {cap : Nat} {l m : List α}
def apX : Op -> Operand | .call c => c.args[0]?.getD (.tmp 0) | _ => .tmp 0
def apY : Op -> Operand | .call c => c.args[1]?.getD (.tmp 0) | _ => .tmp 0
def apK (P : Program) (E : TypeId) (sz : Nat) : Op -> Bool
 | .call c => (match c.callee with
  | .builtin .append => (match c.args.toList, c.argTypes.toList with
   | [_, _], [t, t2] => (match Bw P t, BS P E with
    | some (E', s, by_), some z => Nat.beq E E' && (Nat.beq s sz && (decide (by_ <= 1024) && (Oj P t2 && Nat.beq z.cells.size sz)))
    | _, _ => false)
   | _, _ => false)
  | _ => false)
 | _ => false
theorem GI {op : Op} {sz : Nat} (h : apK P E sz op = true) : ∃ t t2 by_ z, op = .call { callee := .builtin .append, args := #[apX op, apY op], argTypes := #[t, t2] } /\ Bw P t = some (E, sz, by_) /\ decide (by_ <= 1024) = true /\ Oj P t2 = true /\ BS P E = some z /\ z.cells.size = sz := by
 unfold apK at h
 split at h
 ·rename_i c
  obtain ⟨callee, aos, ats⟩ := c
  simp only at h
  split at h
  ·split at h
   ·rename_i x y t t2 h1 h2
    split at h
    ·rename_i E' s by_ z he hz
     simp only [Bool.and_eq_true] at h
     obtain ⟨e1, e2, e3, e4, e5⟩ := h
     have e1 := Nat.eq_of_beq_eq_true e1
     have e2 := Nat.eq_of_beq_eq_true e2
     subst e1; subst e2
     have ha : aos = #[x, y] := by cases aos; simpa using h1
     have hb : ats = #[t, t2] := by cases ats; simpa using h2
     subst ha; subst hb
     exact ⟨t, t2, by_, z, rfl, he, e3, e4, hz, Nat.eq_of_beq_eq_true e5⟩
    ·cases h
   ·cases h
  ·cases h
 ·cases h
theorem St0 {b : Nat} {C : Array Value} {E : TypeId} (C' : Array Value) (hs : HS w0 F0 w F ((some b, .cells C E (0, 0)) :: L)) (k : ∀ w', HS w0 F0 w' F ((some b, .cells C' E (0, 0)) :: L) -> RWP P ro n R Q rest f w')
  (hx : fev f (stX (Ar R i)) = .pointer (some ⟨b, pO (fev f (stX (Ar R i))), none⟩) := by kernel_rfl) (hC : DP C (pO (fev f (stX (Ar R i)))) (fev f (stY (Ar R i))).cells.toList = C' := by kernel_rfl)
  (ho : (ung R i && (Ik (Ar R i) && (DM P (stT (Ar R i)) (fev f (stY (Ar R i))) (pO (fev f (stX (Ar R i)))) C && (match Bz R i with | none => true | some _ => false)))) = true := by kernel_rfl) : RWP P ro n R Q (i :: rest) f w :=
 Jh (hs.ownAt (k := 0) rfl) (k _ (hs.put (k := 0) rfl _)) hx hC ho
theorem Ap0 {a2 : TO} (h1 : T.One) (hs : HS w0 F0 w F (e :: L)) (hr : Av T E F a cap l e) (hm : Rd T F w a2 m) {r : List α} (hap : CU l m = some r)
  (k : ∀ a' cap' e' w', HS w0 F0 w' F (e' :: L) -> Av T E F a' cap' r e' -> RWP P ro n R Q rest (Bi f (Bz R i) (.slice a' r.length cap')) w')
  (hx : fev f (apX (Ar R i)) = .slice a l.length cap := by kernel_rfl) (hy : fev f (apY (Ar R i)) = .slice a2 m.length (sC (fev f (apY (Ar R i)))) := by kernel_rfl) (ho : (ung R i && apK P E T.sz (Ar R i)) = true := by kernel_rfl) : RWP P ro n R Q (i :: rest) f w := by
 simp only [Bool.and_eq_true] at ho
 obtain ⟨t, t2, by_, z, e1, he, hb, hni, hz, hzs⟩ := GI ho.2
 have := BG ho.1
 rw [e1] at this
 exact RWP.append this rfl hx hy he hb hni hz hzs h1 hs (k := 0) rfl hr hm hap k
theorem St1 {e0 : Option Nat × Obj} {b : Nat} {C : Array Value} {E : TypeId} (C' : Array Value) (hs : HS w0 F0 w F (e0 :: (some b, .cells C E (0, 0)) :: L)) (k : ∀ w', HS w0 F0 w' F (e0 :: (some b, .cells C' E (0, 0)) :: L) -> RWP P ro n R Q rest f w')
  (hx : fev f (stX (Ar R i)) = .pointer (some ⟨b, pO (fev f (stX (Ar R i))), none⟩) := by kernel_rfl) (hC : DP C (pO (fev f (stX (Ar R i)))) (fev f (stY (Ar R i))).cells.toList = C' := by kernel_rfl)
  (ho : (ung R i && (Ik (Ar R i) && (DM P (stT (Ar R i)) (fev f (stY (Ar R i))) (pO (fev f (stX (Ar R i)))) C && (match Bz R i with | none => true | some _ => false)))) = true := by kernel_rfl) : RWP P ro n R Q (i :: rest) f w :=
 Jh (hs.ownAt (k := 1) rfl) (k _ (hs.put (k := 1) rfl _)) hx hC ho
theorem Ap1 {e0 : Option Nat × Obj} {a2 : TO} (h1 : T.One) (hs : HS w0 F0 w F (e0 :: e :: L)) (hr : Av T E F a cap l e) (hm : Rd T F w a2 m) {r : List α} (hap : CU l m = some r)
  (k : ∀ a' cap' e' w', HS w0 F0 w' F (e0 :: e' :: L) -> Av T E F a' cap' r e' -> RWP P ro n R Q rest (Bi f (Bz R i) (.slice a' r.length cap')) w')
  (hx : fev f (apX (Ar R i)) = .slice a l.length cap := by kernel_rfl) (hy : fev f (apY (Ar R i)) = .slice a2 m.length (sC (fev f (apY (Ar R i)))) := by kernel_rfl) (ho : (ung R i && apK P E T.sz (Ar R i)) = true := by kernel_rfl) : RWP P ro n R Q (i :: rest) f w := by
 simp only [Bool.and_eq_true] at ho
 obtain ⟨t, t2, by_, z, e1, he, hb, hni, hz, hzs⟩ := GI ho.2
 have := BG ho.1
 rw [e1] at this
 exact RWP.append this rfl hx hy he hb hni hz hzs h1 hs (k := 1) rfl hr hm hap k
theorem St2 {e0 e1 : Option Nat × Obj} {b : Nat} {C : Array Value} {E : TypeId} (C' : Array Value) (hs : HS w0 F0 w F (e0 :: e1 :: (some b, .cells C E (0, 0)) :: L)) (k : ∀ w', HS w0 F0 w' F (e0 :: e1 :: (some b, .cells C' E (0, 0)) :: L) -> RWP P ro n R Q rest f w')
  (hx : fev f (stX (Ar R i)) = .pointer (some ⟨b, pO (fev f (stX (Ar R i))), none⟩) := by kernel_rfl) (hC : DP C (pO (fev f (stX (Ar R i)))) (fev f (stY (Ar R i))).cells.toList = C' := by kernel_rfl)
  (ho : (ung R i && (Ik (Ar R i) && (DM P (stT (Ar R i)) (fev f (stY (Ar R i))) (pO (fev f (stX (Ar R i)))) C && (match Bz R i with | none => true | some _ => false)))) = true := by kernel_rfl) : RWP P ro n R Q (i :: rest) f w :=
 Jh (hs.ownAt (k := 2) rfl) (k _ (hs.put (k := 2) rfl _)) hx hC ho
theorem St3 {e0 e1 e2 : Option Nat × Obj} {b : Nat} {C : Array Value} {E : TypeId} (C' : Array Value) (hs : HS w0 F0 w F (e0 :: e1 :: e2 :: (some b, .cells C E (0, 0)) :: L)) (k : ∀ w', HS w0 F0 w' F (e0 :: e1 :: e2 :: (some b, .cells C' E (0, 0)) :: L) -> RWP P ro n R Q rest f w')
  (hx : fev f (stX (Ar R i)) = .pointer (some ⟨b, pO (fev f (stX (Ar R i))), none⟩) := by kernel_rfl) (hC : DP C (pO (fev f (stX (Ar R i)))) (fev f (stY (Ar R i))).cells.toList = C' := by kernel_rfl)
  (ho : (ung R i && (Ik (Ar R i) && (DM P (stT (Ar R i)) (fev f (stY (Ar R i))) (pO (fev f (stX (Ar R i)))) C && (match Bz R i with | none => true | some _ => false)))) = true := by kernel_rfl) : RWP P ro n R Q (i :: rest) f w :=
 Jh (hs.ownAt (k := 3) rfl) (k _ (hs.put (k := 3) rfl _)) hx hC ho
theorem St4 {e0 e1 e2 e3 : Option Nat × Obj} {b : Nat} {C : Array Value} {E : TypeId} (C' : Array Value) (hs : HS w0 F0 w F (e0 :: e1 :: e2 :: e3 :: (some b, .cells C E (0, 0)) :: L)) (k : ∀ w', HS w0 F0 w' F (e0 :: e1 :: e2 :: e3 :: (some b, .cells C' E (0, 0)) :: L) -> RWP P ro n R Q rest f w')
  (hx : fev f (stX (Ar R i)) = .pointer (some ⟨b, pO (fev f (stX (Ar R i))), none⟩) := by kernel_rfl) (hC : DP C (pO (fev f (stX (Ar R i)))) (fev f (stY (Ar R i))).cells.toList = C' := by kernel_rfl)
  (ho : (ung R i && (Ik (Ar R i) && (DM P (stT (Ar R i)) (fev f (stY (Ar R i))) (pO (fev f (stX (Ar R i)))) C && (match Bz R i with | none => true | some _ => false)))) = true := by kernel_rfl) : RWP P ro n R Q (i :: rest) f w :=
 Jh (hs.ownAt (k := 4) rfl) (k _ (hs.put (k := 4) rfl _)) hx hC ho
theorem St5 {e0 e1 e2 e3 e4 : Option Nat × Obj} {b : Nat} {C : Array Value} {E : TypeId} (C' : Array Value) (hs : HS w0 F0 w F (e0 :: e1 :: e2 :: e3 :: e4 :: (some b, .cells C E (0, 0)) :: L)) (k : ∀ w', HS w0 F0 w' F (e0 :: e1 :: e2 :: e3 :: e4 :: (some b, .cells C' E (0, 0)) :: L) -> RWP P ro n R Q rest f w')
  (hx : fev f (stX (Ar R i)) = .pointer (some ⟨b, pO (fev f (stX (Ar R i))), none⟩) := by kernel_rfl) (hC : DP C (pO (fev f (stX (Ar R i)))) (fev f (stY (Ar R i))).cells.toList = C' := by kernel_rfl)
  (ho : (ung R i && (Ik (Ar R i) && (DM P (stT (Ar R i)) (fev f (stY (Ar R i))) (pO (fev f (stX (Ar R i)))) C && (match Bz R i with | none => true | some _ => false)))) = true := by kernel_rfl) : RWP P ro n R Q (i :: rest) f w :=
 Jh (hs.ownAt (k := 5) rfl) (k _ (hs.put (k := 5) rfl _)) hx hC ho
theorem St6 {e0 e1 e2 e3 e4 e5 : Option Nat × Obj} {b : Nat} {C : Array Value} {E : TypeId} (C' : Array Value) (hs : HS w0 F0 w F (e0 :: e1 :: e2 :: e3 :: e4 :: e5 :: (some b, .cells C E (0, 0)) :: L)) (k : ∀ w', HS w0 F0 w' F (e0 :: e1 :: e2 :: e3 :: e4 :: e5 :: (some b, .cells C' E (0, 0)) :: L) -> RWP P ro n R Q rest f w')
  (hx : fev f (stX (Ar R i)) = .pointer (some ⟨b, pO (fev f (stX (Ar R i))), none⟩) := by kernel_rfl) (hC : DP C (pO (fev f (stX (Ar R i)))) (fev f (stY (Ar R i))).cells.toList = C' := by kernel_rfl)
  (ho : (ung R i && (Ik (Ar R i) && (DM P (stT (Ar R i)) (fev f (stY (Ar R i))) (pO (fev f (stX (Ar R i)))) C && (match Bz R i with | none => true | some _ => false)))) = true := by kernel_rfl) : RWP P ro n R Q (i :: rest) f w :=
 Jh (hs.ownAt (k := 6) rfl) (k _ (hs.put (k := 6) rfl _)) hx hC ho
end
section
variable {P : Program} {n : Nat} {R : Array Oper} {Q : Exit -> Fr -> World -> Prop} {PQ : List PanicEntry -> List Deferred -> World -> Prop} {Post : Fr -> World -> Prop} {z fuel : Nat} {Sw : Bool -> World -> Prop} {i : Nat} {f : Fr} {w w' w0 : World} {F0 F Fs : Mem} {l : List Bool} {L Lc Lz : List (Option Nat × Obj)} {e : Option Nat × Obj}
def rdy (R : Array Oper) (z i : Nat) (l : List Bool) : Bool := Region.free .any R l.toArray i && ((Region.ready .any R l.toArray).contains i && IE R z i)
def dvf (P : Program) (R : Array Oper) : List Nat -> Fr -> Fr
 | [], f => f
 | i :: is, f => dvf P R is (Bi f (Bz R i) ((pv P (fev f) (Ar R i)).getD undef))
def dvl : List Nat -> List Bool -> List Bool
 | [], l => l
 | i :: is, l => dvl is (l.set i true)
def QQ (P : Program) (R : Array Oper) (z : Nat) : List Nat -> List Bool -> Fr -> Bool
 | [], _, _ => true
 | i :: is, l, f => ung R i && (isS (pv P (fev f) (Ar R i)) && (rdy R z i l && QQ P R z is (l.set i true) (Bi f (Bz R i) ((pv P (fev f) (Ar R i)).getD undef))))
theorem Q6 : ∀ (is : List Nat) {l : List Bool} {f : Fr} {fuel : Nat}, DWP P n R PQ Post z Sw fuel (dvl is l) (dvf P R is f) w -> QQ P R z is l f = true -> DWP P n R PQ Post z Sw (fuel + is.length) l f w
 | [], _, _, _, k, _ => k
 | i :: is, l, f, fuel, k, h => by
  simp only [QQ, rdy, Bool.and_eq_true] at h
  obtain ⟨h1, h2, ⟨h3, h4, h5⟩, h6⟩ := h
  exact Tz (BG h1) h3 h4 h5 rfl rfl (fun _ _ => Na (Hu h2)) rfl (Q6 is k h6)
theorem Dv (is : List Nat) {fu : Nat} (k : DWP P n R PQ Post z Sw (fu - is.length) (dvl is l) (dvf P R is f) w) (h : QQ P R z is l f = true := by kernel_rfl) (hfu : Nat.beq fu ((fu - is.length) + is.length) = true := by kernel_rfl) : DWP P n R PQ Post z Sw fu l f w := by
 have := Nat.eq_of_beq_eq_true hfu; rw [this]
 exact Q6 is k h
theorem Dvl (is : List Nat) (l' : List Bool) {fu : Nat} (k : DWP P n R PQ Post z Sw (fu - is.length) l' (dvf P R is f) w) (h : QQ P R z is l f = true := by kernel_rfl) (hl : dvl is l = l' := by kernel_rfl) (hfu : Nat.beq fu ((fu - is.length) + is.length) = true := by kernel_rfl) : DWP P n R PQ Post z Sw fu l f w := by
 subst hl; exact Dv is k h hfu
theorem DWP.tk {v : Value} (i : Nat) {fu : Nat} (hy : ∀ w', Sw (l.toArray.getD z true) w' -> (Ax (fev f) (Ar R i) (Gg R i)).run P w' = .ok (.value v) w') (k : DWP P n R PQ Post z Sw (fu - 1) (l.set i true) (Bi f (Bz R i) v) w) (ho : ung R i = true) (hr : rdy R z i l = true)
  (hfu : Nat.beq fu ((fu - 1) + 1) = true) : DWP P n R PQ Post z Sw fu l f w := by
 simp only [rdy, Bool.and_eq_true] at hr
 have := Nat.eq_of_beq_eq_true hfu; rw [this]
 exact Tz (BG ho) hr.1 hr.2.1 hr.2.2 rfl rfl hy rfl k
theorem Dl (i : Nat) {fu : Nat} {b : Nat} {C : Array Value} {E : TypeId} {fz : Nat × Nat} (hp : ∀ w', Sw (l.toArray.getD z true) w' -> w'.heap[b]? = some (.cells C E fz)) (k : DWP P n R PQ Post z Sw (fu - 1) (l.set i true) (Bi f (Bz R i) (ldV P (ldT (Ar R i)) C (pO (fev f (ldX (Ar R i)))))) w)
  (hx : fev f (ldX (Ar R i)) = .pointer (some ⟨b, pO (fev f (ldX (Ar R i))), none⟩) := by kernel_rfl) (ho : (ung R i && (Ok (Ar R i) && ldK P (ldT (Ar R i)) C (pO (fev f (ldX (Ar R i)))))) = true := by kernel_rfl) (hr : rdy R z i l = true := by kernel_rfl)
  (hfu : Nat.beq fu ((fu - 1) + 1) = true := by kernel_rfl) : DWP P n R PQ Post z Sw fu l f w := by
 simp only [Bool.and_eq_true] at ho
 refine DWP.tk i (fun w' hw => ?_) k ho.1 hr hfu
 have := Fo ho.2.1
 rw [this]; exact OD hx (hp w' hw) ho.2.2
theorem Dx (i j : Nat) {fu : Nat} {b o kk : Nat} {C : Array Value} {E : TypeId} {fz : Nat × Nat} {cs : List Value} (hp : ∀ w', Sw (l.toArray.getD z true) w' -> w'.heap[b]? = some (.cells C E fz)) (hc : AF C o kk = cs) (k : DWP P n R PQ Post z Sw (fu - 1) (l.set i true) (Bi f (Bz R i) (lxV P (ldT (Ar R i)) cs j)) w)
  (hx : fev f (ldX (Ar R i)) = .pointer (some ⟨b, o + j, none⟩) := by kernel_rfl) (ho : (ung R i && (Ok (Ar R i) && lxK P (ldT (Ar R i)) cs j kk)) = true := by kernel_rfl) (hr : rdy R z i l = true := by kernel_rfl)
  (hfu : Nat.beq fu ((fu - 1) + 1) = true := by kernel_rfl) : DWP P n R PQ Post z Sw fu l f w := by
 simp only [Bool.and_eq_true] at ho
 refine DWP.tk i (fun w' hw => ?_) k ho.1 hr hfu
 have := Fo ho.2.1
 rw [this]; exact OA hx (hp w' hw) hc ho.2.2
theorem Di (i : Nat) {fu m : Nat} {q : Int} (hi : 0 <= q /\ q < (m : Int)) (k : DWP P n R PQ Post z Sw (fu - 1) (l.set i true) (Bi f (Bz R i) (.pointer (some ⟨sB (fev f (ixX (Ar R i))), sO (fev f (ixX (Ar R i))) + q.toNat * elS P (ixT (Ar R i)), none⟩))) w)
  (hx : fev f (ixX (Ar R i)) = .slice (some ⟨sB (fev f (ixX (Ar R i))), sO (fev f (ixX (Ar R i))), none⟩) m (sC (fev f (ixX (Ar R i)))) := by kernel_rfl) (hy : fev f (ixY (Ar R i)) = .int (iK (fev f (ixY (Ar R i)))) q := by kernel_rfl)
  (ho : (ung R i && (OS (Ar R i) && slQ P (ixT (Ar R i)))) = true := by kernel_rfl) (hr : rdy R z i l = true := by kernel_rfl) (hfu : Nat.beq fu ((fu - 1) + 1) = true := by kernel_rfl) : DWP P n R PQ Post z Sw fu l f w := by
 simp only [Bool.and_eq_true] at ho
 refine DWP.tk i (fun w' hw => ?_) k ho.1 hr hfu
 have e := GD ho.2.1
 have := Qq (P := P) (w := w') (ty := Gg R i) hi hx hy ho.2.2
 rw [<- e] at this; exact this
theorem Dj (i : Nat) {fu m : Nat} {q : Int} (hi : 0 <= q /\ q < (m : Int)) (k : DWP P n R PQ Post z Sw (fu - 1) (l.set i true) (Bi f (Bz R i) (.pointer (some ⟨sB (fev f (ixX (Ar R i))), q.toNat * elS P (ixT (Ar R i)), none⟩))) w)
  (hx : fev f (ixX (Ar R i)) = .slice (some ⟨sB (fev f (ixX (Ar R i))), 0, none⟩) m (sC (fev f (ixX (Ar R i)))) := by kernel_rfl) (hy : fev f (ixY (Ar R i)) = .int (iK (fev f (ixY (Ar R i)))) q := by kernel_rfl)
  (ho : (ung R i && (OS (Ar R i) && slQ P (ixT (Ar R i)))) = true := by kernel_rfl) (hr : rdy R z i l = true := by kernel_rfl) (hfu : Nat.beq fu ((fu - 1) + 1) = true := by kernel_rfl) : DWP P n R PQ Post z Sw fu l f w := by
 simp only [Bool.and_eq_true] at ho
 refine DWP.tk i (fun w' hw => ?_) k ho.1 hr hfu
 have e := GD ho.2.1
 have := Rp (P := P) (w := w') (ty := Gg R i) hi hx hy ho.2.2
 rw [<- e] at this; exact this
theorem D1 (i : Nat) {fu : Nat} (h : AB P n R PQ Post z Sw (fu - 1) l i f w) (hr : Region.ready .any R l.toArray = [i] := by kernel_rfl) (hfu : Nat.beq fu ((fu - 1) + 1) = true := by kernel_rfl) : DWP P n R PQ Post z Sw fu l f w := by
 have := Nat.eq_of_beq_eq_true hfu; rw [this]
 exact TA hr h
theorem zdT {zd : Bool} {A : Prop} (h : zd = true) : zd = false -> A := fun e => by rw [h] at e; cases e
theorem DCl {fid : FuncId} {args : List Value} {post : Mem -> Value -> Prop} (hok : Au P fid) (hs : HS w0 F0 w F L) (hc : Calls P fid args.toArray w (Bd w F post))
  (k : ∀ v F1 w1, HS w0 F0 w1 F1 L -> Tn F F1 -> post F1 v -> DWP P n R PQ Post z (DZ Fs Lc Lz) fuel (l.set i true) (Bi f (Bz R i) v) w1) (ha : clV f (Ar R i) = some (fid, args) := by kernel_rfl) (ho : ung R i = true := by kernel_rfl)
  (hz : ((l.set i true).toArray.getD z true == l.toArray.getD z true) = true := by kernel_rfl) : AB P n R PQ Post z (DZ Fs Lc Lz) fuel l i f w := by
 cases e : Ar R i with
 | call c =>
  obtain ⟨callee, aos, ats⟩ := c
  have ho' := BG ho
  rw [e] at ha ho'
  unfold clV at ha
  simp only at ha
  split at ha
  ·split at ha
   ·rename_i hf
    simp only [Option.some.injEq, Prod.mk.injEq] at ha
    obtain ⟨rfl, rfl⟩ := ha
    exact AB.call rfl (by simpa using hz) rfl ho' rfl hf hok rfl hs hc k
   ·cases ha
  ·cases ha
 | _ => rw [e] at ha; simp [clV] at ha
theorem DBs (E : TypeId) (cs : List Value) (hs : HS w0 F0 w F L) (hle : Tn Fs F) (k : ∀ b w', HS w0 F0 w' F ((some b, .cells cs.toArray E (0, 0)) :: L) -> DWP P n R PQ Post z (DZ Fs Lc Lz) fuel (l.set i true) (Bi f (Bz R i) (.slice (some ⟨b, 0, none⟩) (bsL (Ar R i)) (bsL (Ar R i)))) w')
  (hb : bsV P f (Ar R i) = some (E, cs) := by kernel_rfl) (ho : ung R i = true := by kernel_rfl) (hL : ∀ p, p ∈ Lc -> p ∈ L := by simp) (hLz : (l.set i true).toArray.getD z true = false -> ∀ p, p ∈ Lz -> p ∈ L := by first | (intro _; simp; done) | exact zdT (by kernel_rfl)) : AB P n R PQ Post z (DZ Fs Lc Lz) fuel l i f w := by
 have := BG ho
 cases e : Ar R i with
 | buildSlice t len parts =>
  rw [e] at hb this k
  exact AB.buildSlice rfl rfl this rfl rfl hb hs hle hL hLz k
 | _ => rw [e] at hb; simp [bsV] at hb
theorem DAl (t : TypeId) (C : Array Value) (hs : HS w0 F0 w F L) (hle : Tn Fs F) (k : ∀ b w', HS w0 F0 w' F ((some b, .cells C t (0, 0)) :: L) -> DWP P n R PQ Post z (DZ Fs Lc Lz) fuel (l.set i true) (Bi f (Bz R i) (.pointer (some ⟨b, 0, none⟩))) w')
  (hC : (BS P t).map Value.cells = some C := by kernel_rfl) (ho : (ung R i && RH t (Ar R i)) = true := by kernel_rfl) (hL : ∀ p, p ∈ Lc -> p ∈ L := by simp) (hLz : (l.set i true).toArray.getD z true = false -> ∀ p, p ∈ Lz -> p ∈ L := by first | (intro _; simp; done) | exact zdT (by kernel_rfl)) : AB P n R PQ Post z (DZ Fs Lc Lz) fuel l i f w := by
 simp only [Bool.and_eq_true] at ho
 cases hz : BS P t with
 | none => rw [hz] at hC; cases hC
 | some z =>
  rw [hz] at hC; simp only [Option.map_some, Option.some.injEq] at hC
  have e := MU ho.2
  have := BG ho.1
  rw [e] at this
  exact AB.alloc rfl rfl this rfl hz hC hs hle hL hLz k
theorem DCB {fid : FuncId} {args : List Value} {wb : World} {Fb : Mem} {post : Mem -> Value -> Own -> Prop} (hok : Au P fid) (hc : Calls P fid args.toArray w (D4 wb Fb F post))
  (k : ∀ v F1 w1 L', HS wb Fb w1 F1 L' -> Tn F F1 -> post F1 v L' -> DZ Fs Lc Lz ((l.set i true).toArray.getD z true) w1 /\ DWP P n R PQ Post z (DZ Fs Lc Lz) fuel (l.set i true) (Bi f (Bz R i) v) w1) (ha : clV f (Ar R i) = some (fid, args) := by kernel_rfl) (ho : ung R i = true := by kernel_rfl) : AB P n R PQ Post z (DZ Fs Lc Lz) fuel l i f w := by
 cases e : Ar R i with
 | call c =>
  obtain ⟨callee, aos, ats⟩ := c
  have ho' := BG ho
  rw [e] at ha ho'
  unfold clV at ha
  simp only at ha
  split at ha
  ·split at ha
   ·rename_i hf
    simp only [Option.some.injEq, Prod.mk.injEq] at ha
    obtain ⟨rfl, rfl⟩ := ha
    exact AB.callB rfl rfl ho' rfl hf hok rfl hc k
   ·cases ha
  ·cases ha
 | _ => rw [e] at ha; simp [clV] at ha
theorem DCP {fid : FuncId} {args : List Value} {wb : World} {Fb : Mem} {α β : Type} {Lf : Own} {res : β ⊕ α} {bv : β -> Value} {post : α -> Mem -> Value -> Own -> Prop} (hok : Au P fid) (hc : Calls P fid args.toArray w (Cj wb Fb F Lf res bv post))
  (k : ∀ r v F1 w1 L', res = .inr r -> HS wb Fb w1 F1 L' -> Tn F F1 -> post r F1 v L' -> DZ Fs Lc Lz ((l.set i true).toArray.getD z true) w1 /\ DWP P n R PQ Post z (DZ Fs Lc Lz) fuel (l.set i true) (Bi f (Bz R i) v) w1)
  (kp : ∀ b F1 w1, res = .inl b -> HS wb Fb w1 F1 Lf -> Tn F F1 -> PQ [{ v := bv b, recovered := false }] f.d w1) (ha : clV f (Ar R i) = some (fid, args) := by kernel_rfl) (ho : ung R i = true := by kernel_rfl) : AB P n R PQ Post z (DZ Fs Lc Lz) fuel l i f w := by
 cases e : Ar R i with
 | call c =>
  obtain ⟨callee, aos, ats⟩ := c
  have ho' := BG ho
  rw [e] at ha ho'
  unfold clV at ha
  simp only at ha
  split at ha
  ·split at ha
   ·rename_i hf
    simp only [Option.some.injEq, Prod.mk.injEq] at ha
    obtain ⟨rfl, rfl⟩ := ha
    exact AB.callBP rfl rfl ho' rfl hf hok rfl hc k kp
   ·cases ha
  ·cases ha
 | _ => rw [e] at ha; simp [clV] at ha
def fls : Nat -> List Bool
 | 0 => []
 | n + 1 => false :: fls n
variable {c : Code}
def RC (R : Array Oper) : Bool := R.all fun o => !JV o.op
def R6 (P : Program) (n m : Nat) (c : Code) : Bool := Nat.beq (kin c) 2 && (okR n (EM c) && (Region.noSelect (EM c) && (RC (EM c) && Nat.beq (EM c).size m)))
theorem Sl : ∀ n, Array.replicate n false = (fls n).toArray := fun n => by
 have : List.replicate n false = fls n := by induction n with
  | zero => rfl
  | succ n ih => rw [List.replicate_succ, ih]; rfl
 rw [<- this]; simp
theorem RA {R : Array Oper} (hd : RC R = true) (ro : Option Nat) {Q : Exit -> Act -> World -> Prop} {i : Nat} {K K' : Act -> World -> Prop} (hK : ∀ a w, K a w -> K' a w) {a : Act} {w : World} (h : wpOpIn (FW none) 0 P R Q i K a w) : wpOpIn (FW ro) 0 P R Q i K' a w := by
 have h := wpOpIn_mono hK h
 unfold wpOpIn at h ⊢
 cases ho : R[i]? with
 | none => simp only [ho] at h ⊢; exact h
 | some o =>
  simp only [ho] at h ⊢
  split
  ·rename_i hw
   simp only [hw, if_true] at h
   have hi : i < R.size := by
    rcases Nat.lt_or_ge i R.size with h' | h'
    ·exact h'
    ·simp [Array.getElem?_eq_none h'] at ho
   have hnd : JV o.op = false := by
    unfold RC at hd
    rw [Array.all_eq_true] at hd
    have := hd i hi
    have e : R[i] = o := by simpa [Array.getElem?_eq_getElem hi] using ho
    rw [e] at this; simpa using this
   unfold Oper.wpIn at h ⊢
   refine ⟨fun _ _ => trivial, ?_⟩
   have e : ∀ r, Oper.semAt r a.eval o = execOp a.eval o := fun r => Gx hnd r a.eval o rfl
   have h2 := h.2
   rw [e] at h2 ⊢
   exact h2
  ·rename_i hw
   simp only [hw, if_false] at h
   exact ⟨fun _ _ => trivial, h.2⟩
theorem QZ {R : Array Oper} (hd : RC R = true) (ro : Option Nat) {Q : Exit -> Act -> World -> Prop} : ∀ (fuel : Nat) (l : Array Bool) (a : Act) (w : World), wpAnyIn (FW none) 0 P .any R Q fuel l a w -> wpAnyIn (FW ro) 0 P .any R Q fuel l a w
 | 0, _, _, _, h => h
 | fuel + 1, _, _, _, h => ⟨h.1, fun i hi => RA hd ro (fun a w => QZ hd ro fuel _ a w) (h.2 i hi)⟩
variable {ro : Option Nat}
theorem RDP (z m : Nat) (Lc Lz : List (Option Nat × Obj)) (hs : HS w0 F0 w F L) (PQ : List PanicEntry -> List Deferred -> World -> Prop) (Post : Fr -> World -> Prop)
  (h : ∀ w', HS w0 F0 w' F L -> DWP P n (EM c) PQ Post z (DZ F Lc Lz) m (fls m) f w') (k : ∀ f w, Post f w -> Q .normal f w) (kp : ∀ c f w, PQ c f.d w -> Q (.panic c) f w) (hm : P.follows .mixedOrders = true := by kernel_rfl) (ho : R6 P n m c = true := by kernel_rfl) (hc : ∀ p, p ∈ Lc -> p ∈ L := by simp) (hz : ∀ p, p ∈ Lz -> p ∈ L := by simp) : CWP P ro n c Q f w := by
 simp only [R6, Bool.and_eq_true] at ho
 obtain ⟨hk, hok, hns, hnd, hfu⟩ := ho
 replace hk := Nat.eq_of_beq_eq_true hk
 replace hfu := Nat.eq_of_beq_eq_true hfu
 subst hfu
 cases c <;> simp [kin] at hk
 rename_i id ops d
 cases d <;> simp [kin] at hk
 intro a ha
 have hs' : HS w0 F0 { w with drawn := w.drawn + 1 } F L := hs.heap rfl
 refine wpIn_mono (wpIn_region_any hm (QZ hnd ro _ _ _ _ (IX (z := z) (S := DZ F Lc Lz) _ _ _ _ ?_))) (Q := lq n (nq PQ Post)) ?_
 ·simp only [EM] at *
  rw [Sl]
  exact h _ hs' hok hns (Bg hs' (To F) hc fun _ => hz) a ha
 ·rintro e a w ⟨f, hf, hP⟩
  cases e with
  | normal => exact ⟨f, hf, k _ _ hP⟩
  | panic c => exact ⟨f, hf, kp _ _ _ hP⟩
  | _ => exact hP.elim
theorem RD (z m : Nat) (Lc Lz : List (Option Nat × Obj)) (hs : HS w0 F0 w F L) (Post : Fr -> World -> Prop)
  (h : ∀ w', HS w0 F0 w' F L -> DWP P n (EM c) (fun _ _ _ => False) Post z (DZ F Lc Lz) m (fls m) f w') (k : ∀ f w, Post f w -> Q .normal f w) (hm : P.follows .mixedOrders = true := by kernel_rfl) (ho : R6 P n m c = true := by kernel_rfl) (hc : ∀ p, p ∈ Lc -> p ∈ L := by simp) (hz : ∀ p, p ∈ Lz -> p ∈ L := by simp) : CWP P ro n c Q f w :=
 RDP z m Lc Lz hs (fun _ _ _ => False) Post h k (fun _ _ _ h => h.elim) hm ho hc hz
variable {α : Type} {T : Ty α} {E : TypeId} {a : TO} {cap : Nat} {ls m : List α}
theorem SC {b : Nat} {C : Array Value} {E : TypeId} (C' : Array Value) (hs : HS w0 F0 w F ((some b, .cells C E (0, 0)) :: L)) (hle : Tn Fs F) (k : ∀ w', HS w0 F0 w' F ((some b, .cells C' E (0, 0)) :: L) -> DWP P n R PQ Post z (DZ Fs Lc Lz) fuel (l.set i true) f w')
  (hx : fev f (stX (Ar R i)) = .pointer (some ⟨b, pO (fev f (stX (Ar R i))), none⟩) := by kernel_rfl) (hC : DP C (pO (fev f (stX (Ar R i)))) (fev f (stY (Ar R i))).cells.toList = C' := by kernel_rfl)
  (ho : (ung R i && (Ik (Ar R i) && (DM P (stT (Ar R i)) (fev f (stY (Ar R i))) (pO (fev f (stX (Ar R i)))) C && (match Bz R i with | none => true | some _ => false)))) = true := by kernel_rfl)
  (hL : ∀ p, p ∈ Lc -> p ∈ (some b, .cells C' E (0, 0)) :: L := by simp) (hLz : (l.set i true).toArray.getD z true = false -> ∀ p, p ∈ Lz -> p ∈ (some b, .cells C' E (0, 0)) :: L := by first | (intro _; simp; done) | exact zdT (by kernel_rfl)) : AB P n R PQ Post z (DZ Fs Lc Lz) fuel l i f w := by
 simp only [Bool.and_eq_true] at ho
 obtain ⟨h1, h2, h3, h4⟩ := ho
 have e := Ey h2
 have := BG h1
 cases hd : Bz R i with
 | some d => rw [hd] at h4; cases h4
 | none =>
  rw [hd] at this
  have hp := hs.put (k := 0) rfl (.cells C' E (0, 0))
  refine TD rfl rfl this rfl ?_ (Bg hp hle hL hLz) (k _ hp)
  have hr := I0 (P := P) (ty := Gg R i) (w := w) hx (hs.ownAt (k := 0) rfl) h3 hC
  rw [<- e] at hr; exact hr
theorem Te {e0 e1 : Option Nat × Obj} {b : Nat} {C : Array Value} {E : TypeId} (C' : Array Value) (hs : HS w0 F0 w F (e0 :: e1 :: (some b, .cells C E (0, 0)) :: L)) (hle : Tn Fs F) (k : ∀ w', HS w0 F0 w' F (e0 :: e1 :: (some b, .cells C' E (0, 0)) :: L) -> DWP P n R PQ Post z (DZ Fs Lc Lz) fuel (l.set i true) f w')
  (hx : fev f (stX (Ar R i)) = .pointer (some ⟨b, pO (fev f (stX (Ar R i))), none⟩) := by kernel_rfl) (hC : DP C (pO (fev f (stX (Ar R i)))) (fev f (stY (Ar R i))).cells.toList = C' := by kernel_rfl)
  (ho : (ung R i && (Ik (Ar R i) && (DM P (stT (Ar R i)) (fev f (stY (Ar R i))) (pO (fev f (stX (Ar R i)))) C && (match Bz R i with | none => true | some _ => false)))) = true := by kernel_rfl)
  (hL : ∀ p, p ∈ Lc -> p ∈ e0 :: e1 :: (some b, .cells C' E (0, 0)) :: L := by simp) (hLz : (l.set i true).toArray.getD z true = false -> ∀ p, p ∈ Lz -> p ∈ e0 :: e1 :: (some b, .cells C' E (0, 0)) :: L := by first | (intro _; simp; done) | exact zdT (by kernel_rfl)) : AB P n R PQ Post z (DZ Fs Lc Lz) fuel l i f w := by
 simp only [Bool.and_eq_true] at ho
 obtain ⟨h1, h2, h3, h4⟩ := ho
 have e := Ey h2
 have := BG h1
 cases hd : Bz R i with
 | some d => rw [hd] at h4; cases h4
 | none =>
  rw [hd] at this
  have hp := hs.put (k := 2) rfl (.cells C' E (0, 0))
  refine TD rfl rfl this rfl ?_ (Bg hp hle hL hLz) (k _ hp)
  have hr := I0 (P := P) (ty := Gg R i) (w := w) hx (hs.ownAt (k := 2) rfl) h3 hC
  rw [<- e] at hr; exact hr
theorem Th {e0 e1 : Option Nat × Obj} {a2 : TO} (h1 : T.One) (hs : HS w0 F0 w F (e0 :: e1 :: e :: L)) (hr : Av T E F a cap ls e) (hm : Rd T F w a2 m) {r : List α} (hap : CU ls m = some r) (hle : Tn Fs F)
  (k : ∀ a' cap' e' w', HS w0 F0 w' F (e0 :: e1 :: e' :: L) -> Av T E F a' cap' r e' -> DWP P n R PQ Post z (DZ Fs Lc Lz) fuel (l.set i true) (Bi f (Bz R i) (.slice a' r.length cap')) w')
  (hx : fev f (apX (Ar R i)) = .slice a ls.length cap := by kernel_rfl) (hy : fev f (apY (Ar R i)) = .slice a2 m.length (sC (fev f (apY (Ar R i)))) := by kernel_rfl) (ho : (ung R i && apK P E T.sz (Ar R i)) = true := by kernel_rfl)
  (hL : ∀ e' p, p ∈ Lc -> p ∈ e0 :: e1 :: e' :: L := by (intro _; simp)) (hLz : (l.set i true).toArray.getD z true = false -> ∀ e' p, p ∈ Lz -> p ∈ e0 :: e1 :: e' :: L := by first | (intro _ _; simp; done) | exact zdT (by kernel_rfl)) : AB P n R PQ Post z (DZ Fs Lc Lz) fuel l i f w := by
 simp only [Bool.and_eq_true] at ho
 obtain ⟨t, t2, by_, zz, e1, he, hb, hni, hz, hzs⟩ := GI ho.2
 have := BG ho.1
 rw [e1] at this
 exact TI rfl rfl this rfl hx hy he hb hni hz hzs h1 hs (k := 2) rfl hr hm hap hle hL hLz k
theorem Q7 {e0 e1 e2 : Option Nat × Obj} {b : Nat} {C : Array Value} {E : TypeId} (C' : Array Value) (hs : HS w0 F0 w F (e0 :: e1 :: e2 :: (some b, .cells C E (0, 0)) :: L)) (hle : Tn Fs F) (k : ∀ w', HS w0 F0 w' F (e0 :: e1 :: e2 :: (some b, .cells C' E (0, 0)) :: L) -> DWP P n R PQ Post z (DZ Fs Lc Lz) fuel (l.set i true) f w')
  (hx : fev f (stX (Ar R i)) = .pointer (some ⟨b, pO (fev f (stX (Ar R i))), none⟩) := by kernel_rfl) (hC : DP C (pO (fev f (stX (Ar R i)))) (fev f (stY (Ar R i))).cells.toList = C' := by kernel_rfl)
  (ho : (ung R i && (Ik (Ar R i) && (DM P (stT (Ar R i)) (fev f (stY (Ar R i))) (pO (fev f (stX (Ar R i)))) C && (match Bz R i with | none => true | some _ => false)))) = true := by kernel_rfl)
  (hL : ∀ p, p ∈ Lc -> p ∈ e0 :: e1 :: e2 :: (some b, .cells C' E (0, 0)) :: L := by simp) (hLz : (l.set i true).toArray.getD z true = false -> ∀ p, p ∈ Lz -> p ∈ e0 :: e1 :: e2 :: (some b, .cells C' E (0, 0)) :: L := by first | (intro _; simp; done) | exact zdT (by kernel_rfl)) : AB P n R PQ Post z (DZ Fs Lc Lz) fuel l i f w := by
 simp only [Bool.and_eq_true] at ho
 obtain ⟨h1, h2, h3, h4⟩ := ho
 have e := Ey h2
 have := BG h1
 cases hd : Bz R i with
 | some d => rw [hd] at h4; cases h4
 | none =>
  rw [hd] at this
  have hp := hs.put (k := 3) rfl (.cells C' E (0, 0))
  refine TD rfl rfl this rfl ?_ (Bg hp hle hL hLz) (k _ hp)
  have hr := I0 (P := P) (ty := Gg R i) (w := w) hx (hs.ownAt (k := 3) rfl) h3 hC
  rw [<- e] at hr; exact hr
theorem SB {e0 e1 e2 e3 : Option Nat × Obj} {b : Nat} {C : Array Value} {E : TypeId} (C' : Array Value) (hs : HS w0 F0 w F (e0 :: e1 :: e2 :: e3 :: (some b, .cells C E (0, 0)) :: L)) (hle : Tn Fs F) (k : ∀ w', HS w0 F0 w' F (e0 :: e1 :: e2 :: e3 :: (some b, .cells C' E (0, 0)) :: L) -> DWP P n R PQ Post z (DZ Fs Lc Lz) fuel (l.set i true) f w')
  (hx : fev f (stX (Ar R i)) = .pointer (some ⟨b, pO (fev f (stX (Ar R i))), none⟩) := by kernel_rfl) (hC : DP C (pO (fev f (stX (Ar R i)))) (fev f (stY (Ar R i))).cells.toList = C' := by kernel_rfl)
  (ho : (ung R i && (Ik (Ar R i) && (DM P (stT (Ar R i)) (fev f (stY (Ar R i))) (pO (fev f (stX (Ar R i)))) C && (match Bz R i with | none => true | some _ => false)))) = true := by kernel_rfl)
  (hL : ∀ p, p ∈ Lc -> p ∈ e0 :: e1 :: e2 :: e3 :: (some b, .cells C' E (0, 0)) :: L := by simp) (hLz : (l.set i true).toArray.getD z true = false -> ∀ p, p ∈ Lz -> p ∈ e0 :: e1 :: e2 :: e3 :: (some b, .cells C' E (0, 0)) :: L := by first | (intro _; simp; done) | exact zdT (by kernel_rfl)) : AB P n R PQ Post z (DZ Fs Lc Lz) fuel l i f w := by
 simp only [Bool.and_eq_true] at ho
 obtain ⟨h1, h2, h3, h4⟩ := ho
 have e := Ey h2
 have := BG h1
 cases hd : Bz R i with
 | some d => rw [hd] at h4; cases h4
 | none =>
  rw [hd] at this
  have hp := hs.put (k := 4) rfl (.cells C' E (0, 0))
  refine TD rfl rfl this rfl ?_ (Bg hp hle hL hLz) (k _ hp)
  have hr := I0 (P := P) (ty := Gg R i) (w := w) hx (hs.ownAt (k := 4) rfl) h3 hC
  rw [<- e] at hr; exact hr
theorem RP {e0 e1 e2 e3 e4 : Option Nat × Obj} {b : Nat} {C : Array Value} {E : TypeId} (C' : Array Value) (hs : HS w0 F0 w F (e0 :: e1 :: e2 :: e3 :: e4 :: (some b, .cells C E (0, 0)) :: L)) (hle : Tn Fs F) (k : ∀ w', HS w0 F0 w' F (e0 :: e1 :: e2 :: e3 :: e4 :: (some b, .cells C' E (0, 0)) :: L) -> DWP P n R PQ Post z (DZ Fs Lc Lz) fuel (l.set i true) f w')
  (hx : fev f (stX (Ar R i)) = .pointer (some ⟨b, pO (fev f (stX (Ar R i))), none⟩) := by kernel_rfl) (hC : DP C (pO (fev f (stX (Ar R i)))) (fev f (stY (Ar R i))).cells.toList = C' := by kernel_rfl)
  (ho : (ung R i && (Ik (Ar R i) && (DM P (stT (Ar R i)) (fev f (stY (Ar R i))) (pO (fev f (stX (Ar R i)))) C && (match Bz R i with | none => true | some _ => false)))) = true := by kernel_rfl)
  (hL : ∀ p, p ∈ Lc -> p ∈ e0 :: e1 :: e2 :: e3 :: e4 :: (some b, .cells C' E (0, 0)) :: L := by simp) (hLz : (l.set i true).toArray.getD z true = false -> ∀ p, p ∈ Lz -> p ∈ e0 :: e1 :: e2 :: e3 :: e4 :: (some b, .cells C' E (0, 0)) :: L := by first | (intro _; simp; done) | exact zdT (by kernel_rfl)) : AB P n R PQ Post z (DZ Fs Lc Lz) fuel l i f w := by
 simp only [Bool.and_eq_true] at ho
 obtain ⟨h1, h2, h3, h4⟩ := ho
 have e := Ey h2
 have := BG h1
 cases hd : Bz R i with
 | some d => rw [hd] at h4; cases h4
 | none =>
  rw [hd] at this
  have hp := hs.put (k := 5) rfl (.cells C' E (0, 0))
  refine TD rfl rfl this rfl ?_ (Bg hp hle hL hLz) (k _ hp)
  have hr := I0 (P := P) (ty := Gg R i) (w := w) hx (hs.ownAt (k := 5) rfl) h3 hC
  rw [<- e] at hr; exact hr
theorem Tg {e0 e1 e2 e3 e4 : Option Nat × Obj} {a2 : TO} (h1 : T.One) (hs : HS w0 F0 w F (e0 :: e1 :: e2 :: e3 :: e4 :: e :: L)) (hr : Av T E F a cap ls e) (hm : Rd T F w a2 m) {r : List α} (hap : CU ls m = some r) (hle : Tn Fs F)
  (k : ∀ a' cap' e' w', HS w0 F0 w' F (e0 :: e1 :: e2 :: e3 :: e4 :: e' :: L) -> Av T E F a' cap' r e' -> DWP P n R PQ Post z (DZ Fs Lc Lz) fuel (l.set i true) (Bi f (Bz R i) (.slice a' r.length cap')) w')
  (hx : fev f (apX (Ar R i)) = .slice a ls.length cap := by kernel_rfl) (hy : fev f (apY (Ar R i)) = .slice a2 m.length (sC (fev f (apY (Ar R i)))) := by kernel_rfl) (ho : (ung R i && apK P E T.sz (Ar R i)) = true := by kernel_rfl)
  (hL : ∀ e' p, p ∈ Lc -> p ∈ e0 :: e1 :: e2 :: e3 :: e4 :: e' :: L := by (intro _; simp)) (hLz : (l.set i true).toArray.getD z true = false -> ∀ e' p, p ∈ Lz -> p ∈ e0 :: e1 :: e2 :: e3 :: e4 :: e' :: L := by first | (intro _ _; simp; done) | exact zdT (by kernel_rfl)) : AB P n R PQ Post z (DZ Fs Lc Lz) fuel l i f w := by
 simp only [Bool.and_eq_true] at ho
 obtain ⟨t, t2, by_, zz, e1, he, hb, hni, hz, hzs⟩ := GI ho.2
 have := BG ho.1
 rw [e1] at this
 exact TI rfl rfl this rfl hx hy he hb hni hz hzs h1 hs (k := 5) rfl hr hm hap hle hL hLz k
theorem RO {e0 e1 e2 e3 e4 e5 : Option Nat × Obj} {b : Nat} {C : Array Value} {E : TypeId} (C' : Array Value) (hs : HS w0 F0 w F (e0 :: e1 :: e2 :: e3 :: e4 :: e5 :: (some b, .cells C E (0, 0)) :: L)) (hle : Tn Fs F) (k : ∀ w', HS w0 F0 w' F (e0 :: e1 :: e2 :: e3 :: e4 :: e5 :: (some b, .cells C' E (0, 0)) :: L) -> DWP P n R PQ Post z (DZ Fs Lc Lz) fuel (l.set i true) f w')
  (hx : fev f (stX (Ar R i)) = .pointer (some ⟨b, pO (fev f (stX (Ar R i))), none⟩) := by kernel_rfl) (hC : DP C (pO (fev f (stX (Ar R i)))) (fev f (stY (Ar R i))).cells.toList = C' := by kernel_rfl)
  (ho : (ung R i && (Ik (Ar R i) && (DM P (stT (Ar R i)) (fev f (stY (Ar R i))) (pO (fev f (stX (Ar R i)))) C && (match Bz R i with | none => true | some _ => false)))) = true := by kernel_rfl)
  (hL : ∀ p, p ∈ Lc -> p ∈ e0 :: e1 :: e2 :: e3 :: e4 :: e5 :: (some b, .cells C' E (0, 0)) :: L := by simp) (hLz : (l.set i true).toArray.getD z true = false -> ∀ p, p ∈ Lz -> p ∈ e0 :: e1 :: e2 :: e3 :: e4 :: e5 :: (some b, .cells C' E (0, 0)) :: L := by first | (intro _; simp; done) | exact zdT (by kernel_rfl)) : AB P n R PQ Post z (DZ Fs Lc Lz) fuel l i f w := by
 simp only [Bool.and_eq_true] at ho
 obtain ⟨h1, h2, h3, h4⟩ := ho
 have e := Ey h2
 have := BG h1
 cases hd : Bz R i with
 | some d => rw [hd] at h4; cases h4
 | none =>
  rw [hd] at this
  have hp := hs.put (k := 6) rfl (.cells C' E (0, 0))
  refine TD rfl rfl this rfl ?_ (Bg hp hle hL hLz) (k _ hp)
  have hr := I0 (P := P) (ty := Gg R i) (w := w) hx (hs.ownAt (k := 6) rfl) h3 hC
  rw [<- e] at hr; exact hr
theorem Tf {e0 e1 e2 e3 e4 e5 : Option Nat × Obj} {a2 : TO} (h1 : T.One) (hs : HS w0 F0 w F (e0 :: e1 :: e2 :: e3 :: e4 :: e5 :: e :: L)) (hr : Av T E F a cap ls e) (hm : Rd T F w a2 m) {r : List α} (hap : CU ls m = some r) (hle : Tn Fs F)
  (k : ∀ a' cap' e' w', HS w0 F0 w' F (e0 :: e1 :: e2 :: e3 :: e4 :: e5 :: e' :: L) -> Av T E F a' cap' r e' -> DWP P n R PQ Post z (DZ Fs Lc Lz) fuel (l.set i true) (Bi f (Bz R i) (.slice a' r.length cap')) w')
  (hx : fev f (apX (Ar R i)) = .slice a ls.length cap := by kernel_rfl) (hy : fev f (apY (Ar R i)) = .slice a2 m.length (sC (fev f (apY (Ar R i)))) := by kernel_rfl) (ho : (ung R i && apK P E T.sz (Ar R i)) = true := by kernel_rfl)
  (hL : ∀ e' p, p ∈ Lc -> p ∈ e0 :: e1 :: e2 :: e3 :: e4 :: e5 :: e' :: L := by (intro _; simp)) (hLz : (l.set i true).toArray.getD z true = false -> ∀ e' p, p ∈ Lz -> p ∈ e0 :: e1 :: e2 :: e3 :: e4 :: e5 :: e' :: L := by first | (intro _ _; simp; done) | exact zdT (by kernel_rfl)) : AB P n R PQ Post z (DZ Fs Lc Lz) fuel l i f w := by
 simp only [Bool.and_eq_true] at ho
 obtain ⟨t, t2, by_, zz, e1, he, hb, hni, hz, hzs⟩ := GI ho.2
 have := BG ho.1
 rw [e1] at this
 exact TI rfl rfl this rfl hx hy he hb hni hz hzs h1 hs (k := 6) rfl hr hm hap hle hL hLz k
theorem Qf {e0 e1 e2 e3 e4 e5 e6 : Option Nat × Obj} {a2 : TO} (h1 : T.One) (hs : HS w0 F0 w F (e0 :: e1 :: e2 :: e3 :: e4 :: e5 :: e6 :: e :: L)) (hr : Av T E F a cap ls e) (hm : Rd T F w a2 m) {r : List α} (hap : CU ls m = some r) (hle : Tn Fs F)
  (k : ∀ a' cap' e' w', HS w0 F0 w' F (e0 :: e1 :: e2 :: e3 :: e4 :: e5 :: e6 :: e' :: L) -> Av T E F a' cap' r e' -> DWP P n R PQ Post z (DZ Fs Lc Lz) fuel (l.set i true) (Bi f (Bz R i) (.slice a' r.length cap')) w')
  (hx : fev f (apX (Ar R i)) = .slice a ls.length cap := by kernel_rfl) (hy : fev f (apY (Ar R i)) = .slice a2 m.length (sC (fev f (apY (Ar R i)))) := by kernel_rfl) (ho : (ung R i && apK P E T.sz (Ar R i)) = true := by kernel_rfl)
  (hL : ∀ e' p, p ∈ Lc -> p ∈ e0 :: e1 :: e2 :: e3 :: e4 :: e5 :: e6 :: e' :: L := by (intro _; simp)) (hLz : (l.set i true).toArray.getD z true = false -> ∀ e' p, p ∈ Lz -> p ∈ e0 :: e1 :: e2 :: e3 :: e4 :: e5 :: e6 :: e' :: L := by first | (intro _ _; simp; done) | exact zdT (by kernel_rfl)) : AB P n R PQ Post z (DZ Fs Lc Lz) fuel l i f w := by
 simp only [Bool.and_eq_true] at ho
 obtain ⟨t, t2, by_, zz, e1, he, hb, hni, hz, hzs⟩ := GI ho.2
 have := BG ho.1
 rw [e1] at this
 exact TI rfl rfl this rfl hx hy he hb hni hz hzs h1 hs (k := 7) rfl hr hm hap hle hL hLz k
end
theorem YP.mono {P : Program} {l : Nat} {args : List Value} {w : World} {S S' : Ending -> World -> Prop} (h : YP P l args w S) (hi : ∀ e w', S e w' -> S' e w') : YP P l args w S' :=
 let ⟨fn, t, a, b, h1, h2⟩ := h; ⟨fn, t, a, b, h1, h2.mono hi⟩
section
variable {P : Program} {n : Nat} {R : Array Oper} {Q : Exit -> Fr -> World -> Prop} {w w0 : World} {F0 F : Mem} {L : Own} {f : Fr} {i : Nat} {rest : List Nat} {dst : Option Nat} {ty : TypeId} {g : Option (Nat × Bool)} {ρ : Operand -> Value}
end
structure Expr where
 Op : Int
 Value : Int
 Kids : (List Expr)
structure Clause where
 When : Expr
 Then : Expr
structure BC where
 Points : (List Clause)
 Multipliers : (List Clause)
 Penalties : (List Clause)
 Repeats : (List Expr)
structure Ti where
 Lo : Int
 Hi : Int
 deriving DecidableEq
structure Pi where
 I : Int
 K : Int
 deriving DecidableEq
structure An where
 kind_ : Int
 at_ : Int
 text_ : TN
 deriving DecidableEq
structure Ac where
 l_ : (List An)
 open_ : Int
 deriving DecidableEq
structure Af where
 Kind : Int
 At : Int
 Text : TN
 deriving DecidableEq
structure Aa where
 L : (List Af)
 At : Int
 Open : Int
 Bad : Int
 Where : Int
 deriving DecidableEq
structure B3 where
 Expr : Expr
 at_ : Int
structure Key where
 Clause : Int
 Value : Int
 deriving DecidableEq
structure Ak where
 e_ : Int
 at_ : Int
 deriving DecidableEq
structure CE where
 text_ : TN
 rank_ : Int
 left_ : Int
 right_ : Int
 deriving DecidableEq
structure Co where
 most_ : Int
 own_ : Int
 kids_ : (List Int)
 deriving DecidableEq
inductive Kg (F : Mem) : List Value -> Expr -> Prop
 | leaf (op value : Int) (a : TO) (c : Nat) (hc : LC 0 c) : Kg F [.int .i64 op, .int .i64 value, .slice a 0 c] ⟨op, value, []⟩
 | node (op value : Int) (b ob : Nat) (C : Array Value) (E : Nat) (fz : Nat × Nat) (c : Nat) (k : List Expr) (hc : LC k.length c) (hF : F b = some (.cells C E fz))
   (hk : ∀ i x, k[i]? = some x -> Kg F (AF C (ob + i * 3) 3) x) : Kg F [.int .i64 op, .int .i64 value, .slice (some ⟨b, ob, none⟩) k.length c] ⟨op, value, k⟩
theorem Kg.len {F : Mem} {cs : List Value} {x : Expr} (h : Kg F cs x) : cs.length = 3 := by cases h <;> rfl
theorem Kg.mono {F F' : Mem} (hl : Tn F F') {cs : List Value} {x : Expr} (h : Kg F cs x) : Kg F' cs x := by
 induction h with
 | leaf op value a c hc => exact .leaf op value a c hc
 | node op value b ob C E fz c k hc hF hk ih => exact .node op value b ob C E fz c k hc (hl _ _ hF) ih
def As : Ty Expr := ⟨3, true, Kg, fun h => h.len, fun hl h => h.mono hl, rfl⟩
theorem A1 {F : Mem} {cs : List Value} {x : Expr} (h : As.R F cs x) : ∃ (a : TO) (c : Nat), cs = [.int .i64 x.Op, .int .i64 x.Value, .slice a x.Kids.length c] /\ LC x.Kids.length c /\ SlA As F a x.Kids := by
 cases h with
 | leaf op value a c hc => exact ⟨a, c, rfl, hc, .inl rfl⟩
 | node op value b ob C E fz c k hc hF hk => exact ⟨_, c, rfl, hc, .inr ⟨b, ob, C, E, fz, rfl, hF, hk⟩⟩
theorem Ba {F : Mem} {cs : List Value} {x : Expr} (h : ∃ (a : TO) (c : Nat), cs = [.int .i64 x.Op, .int .i64 x.Value, .slice a x.Kids.length c] /\ LC x.Kids.length c /\ SlA As F a x.Kids) : As.R F cs x := by
 obtain ⟨a, c, rfl, hc, hs⟩ := h
 obtain ⟨op, value, k⟩ := x
 rcases hs with rfl | ⟨b, o, C, E, fz, rfl, hF, hx⟩
 ·exact .leaf op value a c hc
 ·exact .node op value b o C E fz c k hc hF hx
theorem N9 : As.One := fun h => by obtain ⟨a, c, rfl, _⟩ := A1 h; rfl
def Ay : Ty Clause := ⟨6, true, fun F cs x => ∃ (a_2 : TO) (n_2 : Nat) (a_5 : TO) (n_5 : Nat), cs = [(.int .i64 x.When.Op), (.int .i64 x.When.Value), (.slice a_2 x.When.Kids.length n_2), (.int .i64 x.Then.Op), (.int .i64 x.Then.Value), (.slice a_5 x.Then.Kids.length n_5)] /\ LC x.When.Kids.length n_2 /\ SlA As F a_2 x.When.Kids /\ LC x.Then.Kids.length n_5 /\ SlA As F a_5 x.Then.Kids,
 fun h => by obtain ⟨a_2, n_2, a_5, n_5, rfl, _, _, _, _⟩ := h; rfl,
 fun hl h => by obtain ⟨a_2, n_2, a_5, n_5, hc, hb_2, hs_2, hb_5, hs_5⟩ := h; exact ⟨a_2, n_2, a_5, n_5, hc, hb_2, hs_2.mono hl, hb_5, hs_5.mono hl⟩, rfl⟩
theorem GR : Ay.One := fun h => by first | (subst h; rfl) | (obtain ⟨a_2, n_2, a_5, n_5, rfl, _, _, _, _⟩ := h; rfl)
def Al : Ty An := ⟨3, true, fun _ cs x => cs = [(.int .i64 x.kind_), (.int .i64 x.at_), (.string ⟨(x.text_).toArray⟩)],
 fun h => by subst h; rfl,
 fun _ h => h, rfl⟩
theorem Nb : Al.One := fun h => by first | (subst h; rfl) | (obtain rfl := h; rfl)
def Ag : Ty Af := ⟨3, true, fun _ cs x => cs = [(.int .i64 x.Kind), (.int .i64 x.At), (.string ⟨(x.Text).toArray⟩)],
 fun h => by subst h; rfl,
 fun _ h => h, rfl⟩
theorem BX : Ag.One := fun h => by first | (subst h; rfl) | (obtain rfl := h; rfl)
def Ov (F : Mem) (gq : FuncId) (fq kq : List Value) (q : Int -> Option Bool) : Prop := ∀ (w' : World) (F' : Mem) (y0 : Int) (r : Bool), Tn F F' -> (∀ b o, F' b = some o -> w'.heap[b]? = some o) -> q y0 = some r -> Calls Tryz.prog gq ((fq : List Value) ++ (([(.int .i64 y0)] : List Value) ++ kq)).toArray w' (Bd w' F' fun F'' v => v = (.bool r))
theorem Ov.mono {F F1 : Mem} {gq : FuncId} {fq kq : List Value} {q : Int -> Option Bool} (h : Ov F gq fq kq q) (hl : Tn F F1) : Ov F1 gq fq kq q := fun w1 F2 y0 r le1 pe1 hr1 => h w1 F2 y0 r (hl.trans le1) pe1 hr1
def PB (F : Mem) (gq : FuncId) (fq kq : List Value) (q : Clause -> Option Bool) : Prop := ∀ (w' : World) (F' : Mem) (y0 : Clause) (ay0_2 : TO) (ny0_2 : Nat) (hby0_2 : LC y0.When.Kids.length ny0_2) (hsy0_2 : SlA As F' ay0_2 y0.When.Kids) (ay0_5 : TO) (ny0_5 : Nat) (hby0_5 : LC y0.Then.Kids.length ny0_5) (hsy0_5 : SlA As F' ay0_5 y0.Then.Kids) (r : Bool), Tn F F' -> (∀ b o, F' b = some o -> w'.heap[b]? = some o) -> q y0 = some r -> Calls Tryz.prog gq ((fq : List Value) ++ (([(.agg #[(.int .i64 y0.When.Op), (.int .i64 y0.When.Value), (.slice ay0_2 y0.When.Kids.length ny0_2), (.int .i64 y0.Then.Op), (.int .i64 y0.Then.Value), (.slice ay0_5 y0.Then.Kids.length ny0_5)])] : List Value) ++ kq)).toArray w' (Bd w' F' fun F'' v => v = (.bool r))
theorem PB.mono {F F1 : Mem} {gq : FuncId} {fq kq : List Value} {q : Clause -> Option Bool} (h : PB F gq fq kq q) (hl : Tn F F1) : PB F1 gq fq kq q := fun w1 F2 y0 ay0_2 ny0_2 hby0_2 hsy0_2 ay0_5 ny0_5 hby0_5 hsy0_5 r le1 pe1 hr1 => h w1 F2 y0 ay0_2 ny0_2 hby0_2 hsy0_2 ay0_5 ny0_5 hby0_5 hsy0_5 r (hl.trans le1) pe1 hr1
def RN (F : Mem) (gq : FuncId) (fq kq : List Value) (q : Expr -> Expr -> Option Bool) : Prop := ∀ (w' : World) (F' : Mem) (y0 : Expr) (ay0_2 : TO) (ny0_2 : Nat) (hby0_2 : LC y0.Kids.length ny0_2) (hsy0_2 : SlA As F' ay0_2 y0.Kids) (y1 : Expr) (ay1_2 : TO) (ny1_2 : Nat) (hby1_2 : LC y1.Kids.length ny1_2) (hsy1_2 : SlA As F' ay1_2 y1.Kids) (r : Bool), Tn F F' -> (∀ b o, F' b = some o -> w'.heap[b]? = some o) -> q y0 y1 = some r -> Calls Tryz.prog gq ((fq : List Value) ++ (([(.agg #[(.int .i64 y0.Op), (.int .i64 y0.Value), (.slice ay0_2 y0.Kids.length ny0_2)]), (.agg #[(.int .i64 y1.Op), (.int .i64 y1.Value), (.slice ay1_2 y1.Kids.length ny1_2)])] : List Value) ++ kq)).toArray w' (Bd w' F' fun F'' v => v = (.bool r))
theorem RN.mono {F F1 : Mem} {gq : FuncId} {fq kq : List Value} {q : Expr -> Expr -> Option Bool} (h : RN F gq fq kq q) (hl : Tn F F1) : RN F1 gq fq kq q := fun w1 F2 y0 ay0_2 ny0_2 hby0_2 hsy0_2 y1 ay1_2 ny1_2 hby1_2 hsy1_2 r le1 pe1 hr1 => h w1 F2 y0 ay0_2 ny0_2 hby0_2 hsy0_2 y1 ay1_2 ny1_2 hby1_2 hsy1_2 r (hl.trans le1) pe1 hr1
def PA (F : Mem) (gq : FuncId) (fq kq : List Value) (q : Int -> Int -> Int -> Option TN) : Prop := ∀ (w' : World) (F' : Mem) (y0 : Int) (y1 : Int) (y2 : Int) (r : TN), Tn F F' -> (∀ b o, F' b = some o -> w'.heap[b]? = some o) -> q y0 y1 y2 = some r -> Calls Tryz.prog gq ((fq : List Value) ++ (([(.int .i64 y0), (.int .u8 y1), (.int .u8 y2)] : List Value) ++ kq)).toArray w' (Bd w' F' fun F'' v => v = (.string ⟨(r).toArray⟩))
theorem PA.mono {F F1 : Mem} {gq : FuncId} {fq kq : List Value} {q : Int -> Int -> Int -> Option TN} (h : PA F gq fq kq q) (hl : Tn F F1) : PA F1 gq fq kq q := fun w1 F2 y0 y1 y2 r le1 pe1 hr1 => h w1 F2 y0 y1 y2 r (hl.trans le1) pe1 hr1
def Q5 (F : Mem) (gq : FuncId) (fq kq : List Value) (q : (List Int) -> Option Bool) : Prop := ∀ (w' : World) (F' : Mem) (y0 : (List Int)) (ay0_0 : TO) (ny0_0 : Nat) (hby0_0 : LC y0.length ny0_0) (hsy0_0 : SlA Do F' ay0_0 y0) (r : Bool), Tn F F' -> (∀ b o, F' b = some o -> w'.heap[b]? = some o) -> q y0 = some r -> Calls Tryz.prog gq ((fq : List Value) ++ (([(.slice ay0_0 y0.length ny0_0)] : List Value) ++ kq)).toArray w' (Bd w' F' fun F'' v => v = (.bool r))
theorem Q5.mono {F F1 : Mem} {gq : FuncId} {fq kq : List Value} {q : (List Int) -> Option Bool} (h : Q5 F gq fq kq q) (hl : Tn F F1) : Q5 F1 gq fq kq q := fun w1 F2 y0 ay0_0 ny0_0 hby0_0 hsy0_0 r le1 pe1 hr1 => h w1 F2 y0 ay0_0 ny0_0 hby0_0 hsy0_0 r (hl.trans le1) pe1 hr1
def SA (bp : Nat) (gq : FuncId) (fq kq : List Value) (q : Ac -> Option (Ak ⊕ (Ac × Expr))) : Prop := ∀ {wb w0 : World} {Fb F0 : Mem} {Lf : Own} (hG : Dy F0) (y : Ac) (ay_0 : TO) (ny_0 : Nat) (hby_0 : LC y.l_.length ny_0) (hsy_0 : SlA Al F0 ay_0 y.l_) (hs0 : HS wb Fb w0 F0 ((some bp, (.cells #[(.slice ay_0 y.l_.length ny_0), (.int .i64 y.open_)] 100 (0, 0))) :: Lf)) (r : (Ak ⊕ (Ac × Expr))), q y = some r -> Calls Tryz.prog gq ((fq : List Value) ++ (([] : List Value) ++ kq)).toArray w0 (Cj wb Fb F0 Lf r (fun b => (.iface 158 (.agg #[(.int .i64 b.e_), (.int .i64 b.at_)]))) fun a F' v L' => ∃ (aq0_0 : TO) (nq0_0 : Nat) (aq1_2 : TO) (nq1_2 : Nat), v = (.agg #[(.int .i64 a.2.Op), (.int .i64 a.2.Value), (.slice aq1_2 a.2.Kids.length nq1_2)]) /\ L' = (some bp, (.cells #[(.slice aq0_0 a.1.l_.length nq0_0), (.int .i64 a.1.open_)] 100 (0, 0))) :: Lf /\ LC a.1.l_.length nq0_0 /\ SlA Al F' aq0_0 a.1.l_ /\ LC a.2.Kids.length nq1_2 /\ SlA As F' aq1_2 a.2.Kids)
abbrev Ai (x : Expr) (a2 : TO) (n2 : Nat) : Array Value := #[.int .i64 x.Op, .int .i64 x.Value, .slice a2 x.Kids.length n2]
abbrev JB (x : Clause) (a2 : TO) (n2 : Nat) (a5 : TO) (n5 : Nat) : Array Value := #[.int .i64 x.When.Op, .int .i64 x.When.Value, .slice a2 x.When.Kids.length n2, .int .i64 x.Then.Op, .int .i64 x.Then.Value, .slice a5 x.Then.Kids.length n5]
abbrev AU (x : BC) (a0 : TO) (n0 : Nat) (a1 : TO) (n1 : Nat) (a2 : TO) (n2 : Nat) (a3 : TO) (n3 : Nat) : Array Value := #[.slice a0 x.Points.length n0, .slice a1 x.Multipliers.length n1, .slice a2 x.Penalties.length n2, .slice a3 x.Repeats.length n3]
abbrev A9 (x : An) : Array Value := #[.int .i64 x.kind_, .int .i64 x.at_, .string ⟨(x.text_).toArray⟩]
abbrev Ah (x : Ac) (a0 : TO) (n0 : Nat) : Array Value := #[.slice a0 x.l_.length n0, .int .i64 x.open_]
abbrev D2 (x : Af) : Array Value := #[.int .i64 x.Kind, .int .i64 x.At, .string ⟨(x.Text).toArray⟩]
abbrev Ae (x : Aa) (a0 : TO) (n0 : Nat) : Array Value := #[.slice a0 x.L.length n0, .int .i64 x.At, .int .i64 x.Open, .int .i64 x.Bad, .int .i64 x.Where]
abbrev Aq (x : B3) (a2 : TO) (n2 : Nat) : Array Value := #[.int .i64 x.Expr.Op, .int .i64 x.Expr.Value, .slice a2 x.Expr.Kids.length n2, .int .i64 x.at_]
abbrev A3 (x : Ak) : Array Value := #[.int .i64 x.e_, .int .i64 x.at_]
abbrev Gc (x : CE) : Array Value := #[.string ⟨(x.text_).toArray⟩, .int .i64 x.rank_, .int .i64 x.left_, .int .i64 x.right_]
abbrev DD (x : Co) (a2 : TO) (n2 : Nat) : Array Value := #[.int .i64 x.most_, .int .i64 x.own_, .slice a2 x.kids_.length n2]
abbrev Nj (x : An) : List Value := [(.agg #[(.int .i64 x.kind_), (.int .i64 x.at_), (.string ⟨(x.text_).toArray⟩)])]
abbrev Pj (_ : Mem) (_ : An) : Prop := True
abbrev Ph (x : An) : An := x
theorem kl9 : KL Tryz.prog 9 Fe := KL.ofString (by kernel_rfl)
def Fh (N : Nat) (x0 : Int) : Option (Co × Bool) :=
 (bif (x0 == 1) then some (({ most_ := 1000000, own_ := 1, kids_ := ([] : List Int) } : Co), true) else (bif (x0 == 2) then some (({ most_ := 13, own_ := 1, kids_ := ([] : List Int) } : Co), true) else (bif (x0 == 3) then some (({ most_ := 0, own_ := 2, kids_ := [2] } : Co), true) else (bif (bif (x0 == 4) then (x0 == 4) else (x0 == 5)) then some (({ most_ := 0, own_ := 2, kids_ := [2, 2] } : Co), true) else (bif (bif (x0 == 6) then (x0 == 6) else (x0 == 7)) then some (({ most_ := 0, own_ := 2, kids_ := [1, 1] } : Co), true) else (bif (bif (x0 == 8) then (x0 == 8) else (bif (x0 == 9) then (x0 == 9) else (x0 == 10))) then some (({ most_ := 0, own_ := 1, kids_ := [1, 1] } : Co), true) else (bif (x0 == 11) then some (({ most_ := 0, own_ := 1, kids_ := [2, 1, 1] } : Co), true) else some (({ most_ := 0, own_ := 0, kids_ := ([] : List Int) } : Co), false))))))))
theorem K5 : Au Tryz.prog 168 := fun _ _ => by kernel_rfl
theorem Mb (N : Nat) (w0 : World) (F0 : Mem) (hF : TP w0 F0) (x0 : Int) (r : (Co × Bool)) (h : Fh N x0 = some r) :
  Calls Tryz.prog 168 ([(vi x0)] : List Value).toArray w0 (Bd w0 F0 fun F' v => ∃ (aq0_2 : TO) (nq0_2 : Nat), v = (.tuple #[(.agg (DD r.1 aq0_2 nq0_2)), (.bool r.2)]) /\ LC r.1.kids_.length nq0_2 /\ SlA Do F' aq0_2 r.1.kids_) := by
 have hs0 := Tp hF
 refine Go 36 Tryz.func168 ?_
 refine Sq (Rg [0, 1] ?_)
 refine Al' 186 #[(vi 0), (vi 0), (.slice none ([] : List Int).length 0)] hs0 (fun b21 w22 hs23 => ?_)
 refine Vs 1 ?_
 refine Nss ?_
 refine Sq (Rg [0] ?_)
 refine Vs 1 ?_
 refine Nt ?_
 refine Bk ?_
 refine Sq (Rg [0, 1] ?_)
 refine Vs 2 ?_
 refine Nt ?_
 refine Cd h (fun hb24 h25 => ?_) (fun hb24 h26 => ?_)
 ·refine Sq (Rg [0, 1, 2] ?_)
  refine Vs 1 ?_
  refine St0 #[(vi 1000000), (vi 1), (.slice none ([] : List Int).length 0)] hs23 (fun w27 hs28 => ?_)
  refine Vs 1 ?_
  refine Nt ?_
  refine Rt ?_
  refine Ao ?_
  refine Aj ?_
  obtain rfl := Ab h25
  exact ⟨rfl, (.tuple #[(.agg #[(vi 1000000), (vi 1), (.slice none ([] : List Int).length 0)]), (.bool true)]), AE (l := [.cell 2 186, .tmp 3]) (by kernel_rfl) (vs := [(.agg #[(vi 1000000), (vi 1), (.slice none ([] : List Int).length 0)]), (.bool true)]) ⟨b21, 0, rfl, Am (t := 186) (g := true) (s := 3) (by kernel_rfl) hs28.at0 rfl (by decide), ⟨rfl, trivial⟩⟩, (.tuple #[(.agg #[(vi 1000000), (vi 1), (.slice none ([] : List Int).length 0)]), (.bool true)]), F0, rfl, hs28.clear, ⟨none, 0, rfl, Tr, (.inl rfl)⟩⟩
 ·refine Sq (Rg [0, 1] ?_)
  refine Vs 2 ?_
  refine Nt ?_
  refine Cd h26 (fun hb29 h30 => ?_) (fun hb29 h31 => ?_)
  ·refine Sq (Rg [0, 1, 2] ?_)
   refine Vs 1 ?_
   refine St0 #[(vi 13), (vi 1), (.slice none ([] : List Int).length 0)] hs23 (fun w32 hs33 => ?_)
   refine Vs 1 ?_
   refine Nt ?_
   refine Rt ?_
   refine Ao ?_
   refine Aj ?_
   obtain rfl := Ab h30
   exact ⟨rfl, (.tuple #[(.agg #[(vi 13), (vi 1), (.slice none ([] : List Int).length 0)]), (.bool true)]), AE (l := [.cell 2 186, .tmp 3]) (by kernel_rfl) (vs := [(.agg #[(vi 13), (vi 1), (.slice none ([] : List Int).length 0)]), (.bool true)]) ⟨b21, 0, rfl, Am (t := 186) (g := true) (s := 3) (by kernel_rfl) hs33.at0 rfl (by decide), ⟨rfl, trivial⟩⟩, (.tuple #[(.agg #[(vi 13), (vi 1), (.slice none ([] : List Int).length 0)]), (.bool true)]), F0, rfl, hs33.clear, ⟨none, 0, rfl, Tr, (.inl rfl)⟩⟩
  ·refine Sq (Rg [0, 1] ?_)
   refine Vs 2 ?_
   refine Nt ?_
   refine Cd h31 (fun hb34 h35 => ?_) (fun hb34 h36 => ?_)
   ·refine Sq (Rg [0, 1, 2, 3] ?_)
    refine Bs 3 [(vi 2)] hs23 (fun b37 w38 hs39 => ?_)
    have hr41 : Av Do 3 F0 (some ⟨b37, 0, none⟩) 1 [2] (some b37, .cells ([(vi 2)] : List Value).toArray 3 (0, 0)) := TH ⟨rfl, rfl⟩ (by simp)
    refine Vs 1 ?_
    refine St1 #[(vi 0), (vi 2), (.slice (some ⟨b37, 0, none⟩) [2].length 1)] hs39 (fun w42 hs43 => ?_)
    refine Vs 1 ?_
    refine Nt ?_
    refine Rt ?_
    refine Ao ?_
    refine Aj ?_
    have hb47 := TF hr41
    obtain ⟨F1, hs44, le45, hs46⟩ := hs43.fr0 hr41
    obtain rfl := Ab h35
    exact ⟨rfl, (.tuple #[(.agg #[(vi 0), (vi 2), (.slice (some ⟨b37, 0, none⟩) [2].length 1)]), (.bool true)]), AE (l := [.cell 2 186, .tmp 3]) (by kernel_rfl) (vs := [(.agg #[(vi 0), (vi 2), (.slice (some ⟨b37, 0, none⟩) [2].length 1)]), (.bool true)]) ⟨b21, 0, rfl, Am (t := 186) (g := true) (s := 3) (by kernel_rfl) hs44.at0 rfl (by decide), ⟨rfl, trivial⟩⟩, (.tuple #[(.agg #[(vi 0), (vi 2), (.slice (some ⟨b37, 0, none⟩) [2].length 1)]), (.bool true)]), F1, rfl, hs44.clear, ⟨(some ⟨b37, 0, none⟩), 1, rfl, hb47, hs46⟩⟩
   ·refine Sq ?_
    refine Sq (Rg [0, 1] ?_)
    refine Vs 2 ?_
    refine Nt ?_
    refine Tu (fun f w => ∃ (F2 : Mem), HS w0 F0 w F2 [(sb b21 #[(vi 0), (vi 0), (.slice none ([] : List Int).length 0)] 186)] /\ Tn F0 F2 /\ FI f [] [(2, (pt b21 0)), (4, (vi x0)), (15, (.bool (bif (x0 == 4) then (x0 == 4) else (x0 == 5))))]) ?_ ?_
    ·refine Cp (x0 == 4) (fun hb55 => ?_) (fun hb55 => ?_)
     ·refine Sc ?_
      exact .inl ⟨rfl, F0, hs23, (To _), (fJ ⟨rfl, rfl, (congrArg Value.bool (CH hb55 rfl)), trivial⟩)⟩
     ·refine Rg [0, 1] ?_
      refine Vs 2 ?_
      refine Tj ?_
      exact .inl ⟨rfl, F0, hs23, (To _), (fJ ⟨rfl, rfl, (congrArg Value.bool (C7 hb55 rfl)), trivial⟩)⟩
    ·rintro f w48 ⟨F2, hs49, le50, ⟨_, rfl⟩⟩
     refine Ad ?_
     refine Cd h36 (fun hb56 h57 => ?_) (fun hb56 h58 => ?_)
     ·refine Sq (Rg [0, 1, 2, 3] ?_)
      refine Bs 3 [(vi 2), (vi 2)] hs49 (fun b59 w60 hs61 => ?_)
      have hr63 : Av Do 3 F2 (some ⟨b59, 0, none⟩) 2 [2, 2] (some b59, .cells ([(vi 2), (vi 2)] : List Value).toArray 3 (0, 0)) := TH ⟨rfl, ⟨rfl, rfl⟩⟩ (by simp)
      refine Vs 1 ?_
      refine St1 #[(vi 0), (vi 2), (.slice (some ⟨b59, 0, none⟩) [2, 2].length 2)] hs61 (fun w64 hs65 => ?_)
      refine Vs 1 ?_
      refine Nt ?_
      refine Rt ?_
      refine Ao ?_
      refine Aj ?_
      have hb69 := TF hr63
      obtain ⟨F3, hs66, le67, hs68⟩ := hs65.fr0 hr63
      obtain rfl := Ab h57
      exact ⟨rfl, (.tuple #[(.agg #[(vi 0), (vi 2), (.slice (some ⟨b59, 0, none⟩) [2, 2].length 2)]), (.bool true)]), AE (l := [.cell 2 186, .tmp 3]) (by kernel_rfl) (vs := [(.agg #[(vi 0), (vi 2), (.slice (some ⟨b59, 0, none⟩) [2, 2].length 2)]), (.bool true)]) ⟨b21, 0, rfl, Am (t := 186) (g := true) (s := 3) (by kernel_rfl) hs66.at0 rfl (by decide), ⟨rfl, trivial⟩⟩, (.tuple #[(.agg #[(vi 0), (vi 2), (.slice (some ⟨b59, 0, none⟩) [2, 2].length 2)]), (.bool true)]), F3, rfl, hs66.clear, ⟨(some ⟨b59, 0, none⟩), 2, rfl, hb69, hs68⟩⟩
     ·refine Sq ?_
      refine Sq (Rg [0, 1] ?_)
      refine Vs 2 ?_
      refine Nt ?_
      refine Tu (fun f w => ∃ (F4 : Mem), HS w0 F0 w F4 [(sb b21 #[(vi 0), (vi 0), (.slice none ([] : List Int).length 0)] 186)] /\ Tn F2 F4 /\ FI f [] [(2, (pt b21 0)), (4, (vi x0)), (20, (.bool (bif (x0 == 6) then (x0 == 6) else (x0 == 7))))]) ?_ ?_
      ·refine Cp (x0 == 6) (fun hb77 => ?_) (fun hb77 => ?_)
       ·refine Sc ?_
        exact .inl ⟨rfl, F2, hs49, (To _), (fJ ⟨rfl, rfl, (congrArg Value.bool (CH hb77 rfl)), trivial⟩)⟩
       ·refine Rg [0, 1] ?_
        refine Vs 2 ?_
        refine Tj ?_
        exact .inl ⟨rfl, F2, hs49, (To _), (fJ ⟨rfl, rfl, (congrArg Value.bool (C7 hb77 rfl)), trivial⟩)⟩
      ·rintro f w70 ⟨F4, hs71, le72, ⟨_, rfl⟩⟩
       refine Ad ?_
       refine Cd h58 (fun hb78 h79 => ?_) (fun hb78 h80 => ?_)
       ·refine Sq (Rg [0, 1, 2, 3] ?_)
        refine Bs 3 [(vi 1), (vi 1)] hs71 (fun b81 w82 hs83 => ?_)
        have hr85 : Av Do 3 F4 (some ⟨b81, 0, none⟩) 2 [1, 1] (some b81, .cells ([(vi 1), (vi 1)] : List Value).toArray 3 (0, 0)) := TH ⟨rfl, ⟨rfl, rfl⟩⟩ (by simp)
        refine Vs 1 ?_
        refine St1 #[(vi 0), (vi 2), (.slice (some ⟨b81, 0, none⟩) [1, 1].length 2)] hs83 (fun w86 hs87 => ?_)
        refine Vs 1 ?_
        refine Nt ?_
        refine Rt ?_
        refine Ao ?_
        refine Aj ?_
        have hb91 := TF hr85
        obtain ⟨F5, hs88, le89, hs90⟩ := hs87.fr0 hr85
        obtain rfl := Ab h79
        exact ⟨rfl, (.tuple #[(.agg #[(vi 0), (vi 2), (.slice (some ⟨b81, 0, none⟩) [1, 1].length 2)]), (.bool true)]), AE (l := [.cell 2 186, .tmp 3]) (by kernel_rfl) (vs := [(.agg #[(vi 0), (vi 2), (.slice (some ⟨b81, 0, none⟩) [1, 1].length 2)]), (.bool true)]) ⟨b21, 0, rfl, Am (t := 186) (g := true) (s := 3) (by kernel_rfl) hs88.at0 rfl (by decide), ⟨rfl, trivial⟩⟩, (.tuple #[(.agg #[(vi 0), (vi 2), (.slice (some ⟨b81, 0, none⟩) [1, 1].length 2)]), (.bool true)]), F5, rfl, hs88.clear, ⟨(some ⟨b81, 0, none⟩), 2, rfl, hb91, hs90⟩⟩
       ·refine Sq ?_
        refine Sq (Rg [0, 1] ?_)
        refine Vs 2 ?_
        refine Nt ?_
        refine Tu (fun f w => ∃ (F6 : Mem), HS w0 F0 w F6 [(sb b21 #[(vi 0), (vi 0), (.slice none ([] : List Int).length 0)] 186)] /\ Tn F4 F6 /\ FI f [] [(2, (pt b21 0)), (4, (vi x0)), (25, (.bool (bif (x0 == 8) then (x0 == 8) else (bif (x0 == 9) then (x0 == 9) else (x0 == 10)))))]) ?_ ?_
        ·refine Cp (x0 == 8) (fun hb99 => ?_) (fun hb99 => ?_)
         ·refine Sc ?_
          exact .inl ⟨rfl, F4, hs71, (To _), (fJ ⟨rfl, rfl, (congrArg Value.bool (CH hb99 rfl)), trivial⟩)⟩
         ·refine Sq (Rg [0, 1] ?_)
          refine Vs 2 ?_
          refine Nt ?_
          refine Tu (fun f w => ∃ (F7 : Mem), HS w0 F0 w F7 [(sb b21 #[(vi 0), (vi 0), (.slice none ([] : List Int).length 0)] 186)] /\ Tn F4 F7 /\ FI f [] [(2, (pt b21 0)), (4, (vi x0)), (25, (.bool (bif (x0 == 9) then (x0 == 9) else (x0 == 10))))]) ?_ ?_
          ·refine Cp (x0 == 9) (fun hb107 => ?_) (fun hb107 => ?_)
           ·refine Sc ?_
            exact .inl ⟨rfl, F4, hs71, (To _), (fJ ⟨rfl, rfl, (congrArg Value.bool (CH hb107 rfl)), trivial⟩)⟩
           ·refine Rg [0, 1] ?_
            refine Vs 2 ?_
            refine Tj ?_
            exact .inl ⟨rfl, F4, hs71, (To _), (fJ ⟨rfl, rfl, (congrArg Value.bool (C7 hb107 rfl)), trivial⟩)⟩
          ·rintro f w100 ⟨F7, hs101, le102, ⟨_, rfl⟩⟩
           exact .inl ⟨rfl, F7, hs101, le102, (fJ ⟨rfl, rfl, (congrArg Value.bool (C7 hb99 rfl)), trivial⟩)⟩
        ·rintro f w92 ⟨F6, hs93, le94, ⟨_, rfl⟩⟩
         refine Ad ?_
         refine Cd h80 (fun hb108 h109 => ?_) (fun hb108 h110 => ?_)
         ·refine Sq (Rg [0, 1, 2, 3] ?_)
          refine Bs 3 [(vi 1), (vi 1)] hs93 (fun b111 w112 hs113 => ?_)
          have hr115 : Av Do 3 F6 (some ⟨b111, 0, none⟩) 2 [1, 1] (some b111, .cells ([(vi 1), (vi 1)] : List Value).toArray 3 (0, 0)) := TH ⟨rfl, ⟨rfl, rfl⟩⟩ (by simp)
          refine Vs 1 ?_
          refine St1 #[(vi 0), (vi 1), (.slice (some ⟨b111, 0, none⟩) [1, 1].length 2)] hs113 (fun w116 hs117 => ?_)
          refine Vs 1 ?_
          refine Nt ?_
          refine Rt ?_
          refine Ao ?_
          refine Aj ?_
          have hb121 := TF hr115
          obtain ⟨F8, hs118, le119, hs120⟩ := hs117.fr0 hr115
          obtain rfl := Ab h109
          exact ⟨rfl, (.tuple #[(.agg #[(vi 0), (vi 1), (.slice (some ⟨b111, 0, none⟩) [1, 1].length 2)]), (.bool true)]), AE (l := [.cell 2 186, .tmp 3]) (by kernel_rfl) (vs := [(.agg #[(vi 0), (vi 1), (.slice (some ⟨b111, 0, none⟩) [1, 1].length 2)]), (.bool true)]) ⟨b21, 0, rfl, Am (t := 186) (g := true) (s := 3) (by kernel_rfl) hs118.at0 rfl (by decide), ⟨rfl, trivial⟩⟩, (.tuple #[(.agg #[(vi 0), (vi 1), (.slice (some ⟨b111, 0, none⟩) [1, 1].length 2)]), (.bool true)]), F8, rfl, hs118.clear, ⟨(some ⟨b111, 0, none⟩), 2, rfl, hb121, hs120⟩⟩
         ·refine Sq (Rg [0, 1] ?_)
          refine Vs 2 ?_
          refine Nt ?_
          refine Cd h110 (fun hb122 h123 => ?_) (fun hb122 h124 => ?_)
          ·refine Sq (Rg [0, 1, 2, 3] ?_)
           refine Bs 3 [(vi 2), (vi 1), (vi 1)] hs93 (fun b125 w126 hs127 => ?_)
           have hr129 : Av Do 3 F6 (some ⟨b125, 0, none⟩) 3 [2, 1, 1] (some b125, .cells ([(vi 2), (vi 1), (vi 1)] : List Value).toArray 3 (0, 0)) := TH ⟨rfl, ⟨rfl, ⟨rfl, rfl⟩⟩⟩ (by simp)
           refine Vs 1 ?_
           refine St1 #[(vi 0), (vi 1), (.slice (some ⟨b125, 0, none⟩) [2, 1, 1].length 3)] hs127 (fun w130 hs131 => ?_)
           refine Vs 1 ?_
           refine Nt ?_
           refine Rt ?_
           refine Ao ?_
           refine Aj ?_
           have hb135 := TF hr129
           obtain ⟨F9, hs132, le133, hs134⟩ := hs131.fr0 hr129
           obtain rfl := Ab h123
           exact ⟨rfl, (.tuple #[(.agg #[(vi 0), (vi 1), (.slice (some ⟨b125, 0, none⟩) [2, 1, 1].length 3)]), (.bool true)]), AE (l := [.cell 2 186, .tmp 3]) (by kernel_rfl) (vs := [(.agg #[(vi 0), (vi 1), (.slice (some ⟨b125, 0, none⟩) [2, 1, 1].length 3)]), (.bool true)]) ⟨b21, 0, rfl, Am (t := 186) (g := true) (s := 3) (by kernel_rfl) hs132.at0 rfl (by decide), ⟨rfl, trivial⟩⟩, (.tuple #[(.agg #[(vi 0), (vi 1), (.slice (some ⟨b125, 0, none⟩) [2, 1, 1].length 3)]), (.bool true)]), F9, rfl, hs132.clear, ⟨(some ⟨b125, 0, none⟩), 3, rfl, hb135, hs134⟩⟩
          ·refine Sc ?_
           refine AA ?_
           refine Ad ?_
           refine Sq (Rg [0, 1, 2] ?_)
           refine Vs 1 ?_
           refine St0 #[(vi 0), (vi 0), (.slice none ([] : List Int).length 0)] hs93 (fun w136 hs137 => ?_)
           refine Vs 1 ?_
           refine Nt ?_
           refine Rt ?_
           obtain rfl := Ab h124
           exact ⟨rfl, (.tuple #[(.agg #[(vi 0), (vi 0), (.slice none ([] : List Int).length 0)]), (.bool false)]), AE (l := [.cell 2 186, .tmp 3]) (by kernel_rfl) (vs := [(.agg #[(vi 0), (vi 0), (.slice none ([] : List Int).length 0)]), (.bool false)]) ⟨b21, 0, rfl, Am (t := 186) (g := true) (s := 3) (by kernel_rfl) hs137.at0 rfl (by decide), ⟨rfl, trivial⟩⟩, (.tuple #[(.agg #[(vi 0), (vi 0), (.slice none ([] : List Int).length 0)]), (.bool false)]), F6, rfl, hs137.clear, ⟨none, 0, rfl, Tr, (.inl rfl)⟩⟩
def NG (sR113 : Expr -> Option Int) : Prop := ∀ (w0 : World) (F0 : Mem) (hF : TP w0 F0) (x0 : Expr) (a0_2 : TO) (n0_2 : Nat) (hb0_2 : LC x0.Kids.length n0_2) (hs0_2 : SlA As F0 a0_2 x0.Kids) (r : Int), sR113 x0 = some r -> Calls Tryz.prog 113 ([(.agg #[(.int .i64 x0.Op), (.int .i64 x0.Value), (.slice a0_2 x0.Kids.length n0_2)])] : List Value).toArray w0 (Bd w0 F0 fun F' v => v = (.int .i64 r))
theorem DY : Au Tryz.prog 113 := fun _ _ => by kernel_rfl
def Dd (N : Nat) (sR113 : Expr -> Option Int) (x0 : Expr) (r24 : (Co × Bool)) : Int -> Option (Bv Int Int) := fun s53 =>
 (bif (decide (s53 < (x0.Kids.length : Int))) then ((idx x0.Kids s53).bind fun x77 => (((idx r24.1.kids_ s53).bind fun x110 => ((sR113 x77).bind fun r124 => some (r124 != x110))).bind fun j101 => (bif j101 then some (.ret 0) else some (.next (W64 (s53 + 1)))))) else some (.done s53))
def D7 (N : Nat) (sR113 : Expr -> Option Int) (x0 : Expr) : Option Int :=
 ((Fh N x0.Op).bind fun r24 => (bif ((!r24.2) || ((decide (x0.Value < 0)) || ((decide (x0.Value > r24.1.most_)) || ((x0.Kids.length : Int) != (r24.1.kids_.length : Int))))) then some 0 else ((Be (Dd N sR113 x0 r24) N 0).bind fun o => o.k (fun r => some r) (fun s62 => some r24.1.own_))))
theorem Lk (N : Nat) (sR113 : Expr -> Option Int) (hsR113 : NG sR113) (w0 : World) (F0 : Mem) (hF : TP w0 F0) (x0 : Expr) (a0_2 : TO) (n0_2 : Nat) (hb0_2 : LC x0.Kids.length n0_2) (hs0_2 : SlA As F0 a0_2 x0.Kids) (r : Int) (h : D7 N sR113 x0 = some r) :
  Calls Tryz.prog 113 ([(.agg (Ai x0 a0_2 n0_2))] : List Value).toArray w0 (Bd w0 F0 fun F' v => v = (vi r)) := by
 have hs0 := Tp hF
 refine Go 55 Tryz.func113 ?_
 refine Sq (Rg [0, 1] ?_)
 refine Bx' 33 (Ai x0 a0_2 n0_2) hs0 (fun b21 w22 hs23 => ?_)
 refine Vs 1 ?_
 refine Nss (Rg [0, 1, 2, 3, 4, 5, 6, 7, 8] ?_)
 refine Vs 1 ?_
 refine Ld hs23.at0 ?_
 obtain ⟨r24, hr25, h26⟩ := bind_some h
 refine Cl' K5 hs23 (Mb N w22 F0 hs23.pers x0.Op _ hr25) ?_
 rintro _ F1 w28 hs29 le30 ⟨ar24_0_2, nr24_0_2, rfl, hbr24_0_2, hsr24_0_2⟩
 refine Vs 3 ?_
 refine Al' 186 #[(vi 0), (vi 0), (.slice none ([] : List Int).length 0)] hs29 (fun b32 w33 hs34 => ?_)
 refine St0 (DD r24.1 ar24_0_2 nr24_0_2) hs34 (fun w35 hs36 => ?_)
 refine Vs 1 ?_
 refine Nss ?_
 refine Sq (Rg [0, 1, 2, 3, 4, 5, 6, 7, 8, 9, 10, 11, 12, 13, 14, 15, 16, 17, 18, 19, 20, 21, 22] ?_)
 refine Tt (fun f w => ∃ (F2 : Mem), HS w0 F0 w F2 [(sb b32 (DD r24.1 ar24_0_2 nr24_0_2) 186), (sb b21 (Ai x0 a0_2 n0_2) 33)] /\ Tn F1 F2 /\ FI f [] [(1, (pt b21 0)), (3, (pt b32 0)), (35, (.bool ((!r24.2) || ((decide (x0.Value < 0)) || ((decide (x0.Value > r24.1.most_)) || ((x0.Kids.length : Int) != (r24.1.kids_.length : Int)))))))]) ?_ ?_
 ·refine Vs 3 ?_
  refine Ts (!r24.2) (fun hb44 => ?_) (fun hb44 => ?_)
  ·refine Ss hb44 3 ?_
   refine Pk1 hb44 ?_
   refine Vs 1 ?_
   refine Ss (rfl : true = true) 5 ?_
   refine Pk1 (rfl : true = true) ?_
   refine Vs 1 ?_
   refine Ss (rfl : true = true) 7 ?_
   refine Pk1 (rfl : true = true) ?_
   exact Tj ⟨rfl, F1, hs36, (To _), (fJ ⟨rfl, rfl, (congrArg Value.bool (Fk hb44 rfl)), trivial⟩)⟩
  ·refine Vgs hb44 1 ?_
   refine Lg hb44 hs36.at1 ?_
   refine Vgs hb44 1 ?_
   refine Pk0 hb44 ?_
   refine Vs 1 ?_
   refine Ts (decide (x0.Value < 0)) (fun hb45 => ?_) (fun hb45 => ?_)
   ·refine Ss hb45 5 ?_
    refine Pk1 hb45 ?_
    refine Vs 1 ?_
    refine Ss (rfl : true = true) 7 ?_
    refine Pk1 (rfl : true = true) ?_
    exact Tj ⟨rfl, F1, hs36, (To _), (fJ ⟨rfl, rfl, (congrArg Value.bool (B7 hb44 (Fk hb45 rfl))), trivial⟩)⟩
   ·refine Vgs hb45 1 ?_
    refine Lg hb45 hs36.at1 ?_
    refine Vgs hb45 1 ?_
    refine Lg hb45 hs36.at0 ?_
    refine Vgs hb45 1 ?_
    refine Pk0 hb45 ?_
    refine Vs 1 ?_
    refine Ts (decide (x0.Value > r24.1.most_)) (fun hb46 => ?_) (fun hb46 => ?_)
    ·refine Ss hb46 7 ?_
     refine Pk1 hb46 ?_
     exact Tj ⟨rfl, F1, hs36, (To _), (fJ ⟨rfl, rfl, (congrArg Value.bool (B7 hb44 (B7 hb45 (Fk hb46 rfl)))), trivial⟩)⟩
    ·refine Vgs hb46 1 ?_
     refine Lg hb46 hs36.at1 ?_
     refine Vgs hb46 2 ?_
     refine Lg hb46 hs36.at0 ?_
     refine Vgs hb46 2 ?_
     refine Pk0 hb46 ?_
     exact Tj ⟨rfl, F1, hs36, (To _), (fJ ⟨rfl, rfl, (congrArg Value.bool (B7 hb44 (B7 hb45 (B7 hb46 rfl)))), trivial⟩)⟩
 ·rintro f w37 ⟨F2, hs38, le39, ⟨_, rfl⟩⟩
  refine Ad ?_
  refine Cd h26 (fun hb47 h48 => ?_) (fun hb47 h49 => ?_)
  ·refine Sq (Rg [0] ?_)
   refine Vs 1 ?_
   refine Nt ?_
   refine Rt ?_
   refine Aj ?_
   obtain rfl := Ab h48
   exact Re [(vi 0)] hs38 rfl
  ·refine Sc ?_
   refine Ad ?_
   refine Sq ?_
   refine Sq (Rg [0, 1, 2, 3] ?_)
   refine Vs 1 ?_
   refine Ld hs38.at1 ?_
   refine Vs 2 ?_
   refine Nt ?_
   obtain ⟨o50, ho51, h52⟩ := bind_some h49
   refine Tu (fun f w => ∃ (s62 : Int) (F4 : Mem), o50 = .done s62 /\ HS w0 F0 w F4 [(sb b32 (DD r24.1 ar24_0_2 nr24_0_2) 186)] /\ Tn F2 F4 /\ FI f [] [(3, (pt b32 0))]) ?_ ?_
   ·refine Bk ?_
    refine Tm (by kernel_rfl) (fun m f w => ∃ (s53 : Int) (F3 : Mem), Be (Dd N sR113 x0 r24) m s53 = some o50 /\ HS w0 F0 w F3 [(sb b32 (DD r24.1 ar24_0_2 nr24_0_2) 186)] /\ Tn F2 F3 /\ FI f [] [(3, (pt b32 0)), (37, (.slice a0_2 x0.Kids.length n0_2)), (38, (vi (x0.Kids.length : Int))), (39, (vi s53))]) N ⟨0, F2, ho51, hs38.dr1, (To _), fI⟩ ?_
    rintro m68 f w54 ⟨s53, F3, hit69, hs55, le56, ⟨_, rfl⟩⟩
    obtain ⟨m70, fl71, rfl, hb72, hnx73⟩ := A5 hit69
    refine Sq (Rg [0] ?_)
    refine Vs 1 ?_
    refine Nss ?_
    refine Cd hb72 (fun hb74 h75 => ?_) (fun hb74 h76 => ?_)
    ·refine Sc ?_
     refine Ad ?_
     refine Sq ?_
     refine Bk ?_
     refine Sq (Rg [0, 1, 2, 3, 4, 5] ?_)
     refine Vs 1 ?_
     obtain ⟨x77, hx78, h80⟩ := bind_some h75
     obtain ⟨hi79, hx78'⟩ := Az hx78
     obtain ⟨b81, o82, C83, E84, fz85, rfl, hF87, hE88⟩ := Tx (Tq hs0_2 ((le30.trans le39).trans le56)) hx78'
     obtain ⟨ae89_2, ne89_2, hc90, hbe89_2, hse89_2⟩ := (A1 (hE88 _ _ hx78'))
     refine Ix hi79 ?_
     refine Lx 0 (hs55.pers _ _ hF87) hc90 ?_
     refine Al' 33 #[(vi 0), (vi 0), (.slice none ([] : List Expr).length 0)] hs55 (fun b91 w92 hs93 => ?_)
     refine Vs 1 ?_
     refine St0 (Ai x77 ae89_2 ne89_2) hs93 (fun w94 hs95 => ?_)
     refine Nss ?_
     obtain ⟨j101, hj108, h109⟩ := bind_some h80
     refine RD 8 8 [(sb b91 (Ai x77 ae89_2 ne89_2) 33), (sb b32 (DD r24.1 ar24_0_2 nr24_0_2) 186)] [] hs95 (fun f w => ∃ (F5 : Mem), HS w0 F0 w F5 [(sb b32 (DD r24.1 ar24_0_2 nr24_0_2) 186)] /\ Tn F3 F5 /\ FI f [] [(3, (pt b32 0)), (37, (.slice (some ⟨b81, o82, none⟩) x0.Kids.length n0_2)), (38, (vi (x0.Kids.length : Int))), (39, (vi s53)), (51, (.bool j101))]) (fun wd96 hw97 => ?_) ?_
     ·refine Dl 0 (fun _ hq => (hq.1.2 0 _ _ rfl)) ?_
      refine Dv [2] ?_
      refine Dl 3 (fun _ hq => (hq.1.2 1 _ _ rfl)) ?_
      refine Dv [4] ?_
      obtain ⟨x110, hx111, h113⟩ := bind_some hj108
      obtain ⟨hi112, hx111'⟩ := Az hx111
      obtain ⟨b114, o115, C116, E117, fz118, rfl, hF120, hE121⟩ := Tx (Tq hsr24_0_2 (le39.trans le56)) hx111'
      have hc123 := hE121 _ _ hx111'
      refine Di 5 hi112 ?_
      refine Dx 6 0 (fun _ hq => hq.1.1 _ _ hF120) hc123 ?_
      refine D1 1 ?_
      obtain ⟨r124, hr125, h126⟩ := bind_some h113
      refine DCl DY hw97 (hsR113 wd96 F3 hw97.pers x77 ae89_2 ne89_2 hbe89_2 hse89_2 _ hr125) ?_
      rintro _ F6 w128 hs129 le130 rfl
      refine Dv [7] ?_
      obtain rfl := Ab h126
      exact TE (by kernel_rfl) ⟨F6, hs129.dr0, le130, fI⟩
     ·rintro f w98 ⟨F5, hs99, le100, ⟨_, rfl⟩⟩
      refine Ad ?_
      refine Cd h109 (fun hb132 h133 => ?_) (fun hb132 h134 => ?_)
      ·refine Sq (Rg [0] ?_)
       refine Vs 1 ?_
       refine Nt ?_
       refine Rt ?_
       refine Ao ?_
       refine Aj ?_
       refine Aj ?_
       refine Ao ?_
       have hret := B9 h133 hnx73
       subst hret
       refine .inr ?_
       refine Aj ?_
       obtain rfl := Ab h52
       exact Re [(vi 0)] hs99 rfl
      ·refine Sc ?_
       refine AA ?_
       refine Ad ?_
       refine Rg [0, 1] ?_
       refine Vs 2 ?_
       refine Tj ?_
       have hn135 := AW h134 hnx73
       exact ⟨m70, Nat.lt_succ_self _, (W64 (s53 + 1)), F5, hn135, hs99, (le56.trans le100), fI⟩
    ·refine Ex ?_
     refine AC ?_
     refine AC ?_
     refine AL rfl ?_
     have ho136 := A8 h76 hnx73
     exact .inl ⟨rfl, s53, F3, ho136, hs55, le56, fI⟩
   ·rintro f w63 ⟨s62, F4, rfl, hs64, le65, ⟨_, rfl⟩⟩
    have h137 := BT h52
    refine Ad ?_
    refine Sq (Rg [0, 1, 2] ?_)
    refine Vs 1 ?_
    refine Ld hs64.at0 ?_
    refine Vs 1 ?_
    refine Nt ?_
    refine Rt ?_
    obtain rfl := Ab h137
    exact Re [(vi r24.1.own_)] hs64 rfl
structure Sz where
 q113 : Expr -> Option Int
def I3 (N : Nat) : Nat -> Sz
 | 0 => ⟨fun _ => none⟩
 | k + 1 => ⟨D7 N (I3 N k).q113⟩
theorem MN (N : Nat) : ∀ k, NG (I3 N k).q113
 | 0 => (by unfold NG; intros; rename_i h; cases h)
 | k + 1 => by
  have ih := MN N k
  exact @Lk N (I3 N k).q113 ih
def D8 (N : Nat) (x0 : Expr) : Option Int := (I3 N N).q113 x0
theorem FQ (N : Nat) (w0 : World) (F0 : Mem) (hF : TP w0 F0) (x0 : Expr) (a0_2 : TO) (n0_2 : Nat) (hb0_2 : LC x0.Kids.length n0_2) (hs0_2 : SlA As F0 a0_2 x0.Kids) (r : Int) (h : D8 N x0 = some r) :
  Calls Tryz.prog 113 ([(.agg #[(.int .i64 x0.Op), (.int .i64 x0.Value), (.slice a0_2 x0.Kids.length n0_2)])] : List Value).toArray w0 (Bd w0 F0 fun F' v => v = (.int .i64 r)) := (MN N N) w0 F0 hF x0 a0_2 n0_2 hb0_2 hs0_2 r h
def Kf (sR117 : Expr -> Option Int) : Prop := ∀ (w0 : World) (F0 : Mem) (hF : TP w0 F0) (x0 : Expr) (a0_2 : TO) (n0_2 : Nat) (hb0_2 : LC x0.Kids.length n0_2) (hs0_2 : SlA As F0 a0_2 x0.Kids) (r : Int), sR117 x0 = some r -> Calls Tryz.prog 117 ([(.agg #[(.int .i64 x0.Op), (.int .i64 x0.Value), (.slice a0_2 x0.Kids.length n0_2)])] : List Value).toArray w0 (Bd w0 F0 fun F' v => v = (.int .i64 r))
theorem Dn : Au Tryz.prog 117 := fun _ _ => by kernel_rfl
def NC (sR170 : Expr -> Int -> Option Bool) : Prop := ∀ (w0 : World) (F0 : Mem) (hF : TP w0 F0) (x0 : Expr) (a0_2 : TO) (n0_2 : Nat) (hb0_2 : LC x0.Kids.length n0_2) (hs0_2 : SlA As F0 a0_2 x0.Kids) (x1 : Int) (r : Bool), sR170 x0 x1 = some r -> Calls Tryz.prog 170 ([(.agg #[(.int .i64 x0.Op), (.int .i64 x0.Value), (.slice a0_2 x0.Kids.length n0_2)]), (.int .i64 x1)] : List Value).toArray w0 (Bd w0 F0 fun F' v => v = (.bool r))
theorem G6 : Au Tryz.prog 170 := fun _ _ => by kernel_rfl
def NB (sR171 : Expr -> Int -> Option Bool) : Prop := ∀ (w0 : World) (F0 : Mem) (hF : TP w0 F0) (x0 : Expr) (a0_2 : TO) (n0_2 : Nat) (hb0_2 : LC x0.Kids.length n0_2) (hs0_2 : SlA As F0 a0_2 x0.Kids) (x1 : Int) (r : Bool), sR171 x0 x1 = some r -> Calls Tryz.prog 171 ([(.agg #[(.int .i64 x0.Op), (.int .i64 x0.Value), (.slice a0_2 x0.Kids.length n0_2)]), (.int .i64 x1)] : List Value).toArray w0 (Bd w0 F0 fun F' v => v = (.bool r))
theorem GH : Au Tryz.prog 171 := fun _ _ => by kernel_rfl
def Fj (N : Nat) (sR117 : Expr -> Option Int) (sR170 : Expr -> Int -> Option Bool) (sR171 : Expr -> Int -> Option Bool) (x0 : Expr) : Option Int :=
 ((bif (x0.Op == 1) then some ((((x0.Kids.length : Int) == 0) && ((decide (x0.Value >= 0)) && (decide (x0.Value <= 1000000)))), false) else ((bif (x0.Op == 2) then some ((((x0.Kids.length : Int) == 0) && ((decide (x0.Value >= 0)) && (decide (x0.Value < 14)))), false) else ((bif (x0.Op == 3) then ((sR170 x0 1).bind fun r76 => some (false, r76)) else ((bif (bif (x0.Op == 4) then (x0.Op == 4) else (x0.Op == 5)) then ((sR170 x0 2).bind fun r106 => some (false, r106)) else ((bif (bif (x0.Op == 6) then (x0.Op == 6) else (x0.Op == 7)) then ((sR171 x0 2).bind fun r136 => some (false, r136)) else ((bif (bif (x0.Op == 8) then (x0.Op == 8) else (bif (x0.Op == 9) then (x0.Op == 9) else (x0.Op == 10))) then ((sR171 x0 2).bind fun r176 => some r176) else ((bif (x0.Op == 11) then ((bif (x0.Value == 0) then (bif ((x0.Kids.length : Int) == 3) then ((idx x0.Kids 0).bind fun x211 => ((sR117 x211).bind fun r225 => (bif (r225 == 2) then ((idx x0.Kids 1).bind fun x236 => ((sR117 x236).bind fun r242 => (bif (r242 == 1) then ((idx x0.Kids 2).bind fun x253 => ((sR117 x253).bind fun r259 => some (r259 == 1))) else some false))) else some false))) else some false) else some false).bind fun j199 => some j199) else some false).bind fun j187 => some j187)).bind fun j167 => some (j167, false))).bind fun j127 => some (j127.1, j127.2))).bind fun j97 => some (j97.1, j97.2))).bind fun j67 => some (j67.1, j67.2))).bind fun j47 => some (j47.1, j47.2))).bind fun j27 => (bif j27.1 then some 1 else (bif j27.2 then some 2 else some 0)))
theorem ME (N : Nat) (sR117 : Expr -> Option Int) (hsR117 : Kf sR117) (sR170 : Expr -> Int -> Option Bool) (hsR170 : NC sR170) (sR171 : Expr -> Int -> Option Bool) (hsR171 : NB sR171) (w0 : World) (F0 : Mem) (hF : TP w0 F0) (x0 : Expr) (a0_2 : TO) (n0_2 : Nat) (hb0_2 : LC x0.Kids.length n0_2) (hs0_2 : SlA As F0 a0_2 x0.Kids) (r : Int) (h : Fj N sR117 sR170 sR171 x0 = some r) :
  Calls Tryz.prog 117 ([(.agg (Ai x0 a0_2 n0_2))] : List Value).toArray w0 (Bd w0 F0 fun F' v => v = (vi r)) := by
 have hs0 := Tp hF
 refine Go 96 Tryz.func117 ?_
 refine Sq (Rg [0, 1] ?_)
 refine Bx' 33 (Ai x0 a0_2 n0_2) hs0 (fun b21 w22 hs23 => ?_)
 refine Vs 1 ?_
 refine Nss (Rg [0] ?_)
 refine Vs 1 ?_
 refine Nss (Rg [0] ?_)
 refine Vs 1 ?_
 refine Nss ?_
 refine Sq (Rg [0, 1] ?_)
 refine Vs 1 ?_
 refine Ld hs23.at0 ?_
 refine Nt ?_
 refine Bk ?_
 refine Sq (Rg [0, 1] ?_)
 refine Vs 2 ?_
 refine Nt ?_
 obtain ⟨j27, hj31, h32⟩ := bind_some h
 refine Tu (fun f w => ∃ (F1 : Mem), HS w0 F0 w F1 [] /\ Tn F0 F1 /\ FI f [] [(3, (.bool j27.1)), (4, (.bool j27.2))]) ?_ ?_
 ·refine Cd hj31 (fun hb33 h34 => ?_) (fun hb33 h35 => ?_)
  ·refine Rg [0, 1, 2, 3, 4, 5, 6, 7, 8, 9, 10, 11, 12, 13, 14] ?_
   refine Tt (fun f w => ∃ (F2 : Mem), HS w0 F0 w F2 [] /\ Tn F0 F2 /\ FI f [] [(3, (.bool (((x0.Kids.length : Int) == 0) && ((decide (x0.Value >= 0)) && (decide (x0.Value <= 1000000)))))), (4, (.bool false))]) ?_ ?_
   ·refine Vs 1 ?_
    refine Ld hs23.at0 ?_
    refine Vs 3 ?_
    refine Ts ((x0.Kids.length : Int) == 0) (fun hb42 => ?_) (fun hb42 => ?_)
    ·refine Vgs hb42 1 ?_
     refine Lg hb42 hs23.at0 ?_
     refine Vgs hb42 1 ?_
     refine Pk1 hb42 ?_
     refine Vs 1 ?_
     refine Ts (decide (x0.Value >= 0)) (fun hb43 => ?_) (fun hb43 => ?_)
     ·refine Vgs hb43 1 ?_
      refine Lg hb43 hs23.at0 ?_
      refine Vgs hb43 1 ?_
      refine Pk1 hb43 ?_
      refine Vs 1 ?_
      exact Tj ⟨rfl, F0, hs23.dr0, (To _), (fJ ⟨(congrArg Value.bool (Cz hb42 (Cz hb43 rfl))), rfl, trivial⟩)⟩
     ·refine Ss hb43 3 ?_
      refine Pk0 hb43 ?_
      refine Vs 1 ?_
      exact Tj ⟨rfl, F0, hs23.dr0, (To _), (fJ ⟨(congrArg Value.bool (Cz hb42 (Dw hb43 rfl))), rfl, trivial⟩)⟩
    ·refine Ss hb42 3 ?_
     refine Pk0 hb42 ?_
     refine Vs 1 ?_
     refine Ss (rfl : false = false) 3 ?_
     refine Pk0 (rfl : false = false) ?_
     refine Vs 1 ?_
     exact Tj ⟨rfl, F0, hs23.dr0, (To _), (fJ ⟨(congrArg Value.bool (Dw hb42 rfl)), rfl, trivial⟩)⟩
   ·rintro f w36 ⟨F2, hs37, le38, ⟨_, rfl⟩⟩
    obtain rfl := Ab h34
    exact .inl ⟨rfl, F2, hs37, le38, fI⟩
  ·refine Sq (Rg [0, 1] ?_)
   refine Vs 2 ?_
   refine Nt ?_
   obtain ⟨j47, hj51, h52⟩ := bind_some h35
   refine Tu (fun f w => ∃ (F3 : Mem), HS w0 F0 w F3 [] /\ Tn F0 F3 /\ FI f [] [(3, (.bool j47.1)), (4, (.bool j47.2))]) ?_ ?_
   ·refine Cd hj51 (fun hb53 h54 => ?_) (fun hb53 h55 => ?_)
    ·refine Rg [0, 1, 2, 3, 4, 5, 6, 7, 8, 9, 10, 11, 12, 13, 14] ?_
     refine Tt (fun f w => ∃ (F4 : Mem), HS w0 F0 w F4 [] /\ Tn F0 F4 /\ FI f [] [(3, (.bool (((x0.Kids.length : Int) == 0) && ((decide (x0.Value >= 0)) && (decide (x0.Value < 14)))))), (4, (.bool false))]) ?_ ?_
     ·refine Vs 1 ?_
      refine Ld hs23.at0 ?_
      refine Vs 3 ?_
      refine Ts ((x0.Kids.length : Int) == 0) (fun hb62 => ?_) (fun hb62 => ?_)
      ·refine Vgs hb62 1 ?_
       refine Lg hb62 hs23.at0 ?_
       refine Vgs hb62 1 ?_
       refine Pk1 hb62 ?_
       refine Vs 1 ?_
       refine Ts (decide (x0.Value >= 0)) (fun hb63 => ?_) (fun hb63 => ?_)
       ·refine Vgs hb63 1 ?_
        refine Lg hb63 hs23.at0 ?_
        refine Vgs hb63 1 ?_
        refine Pk1 hb63 ?_
        refine Vs 1 ?_
        exact Tj ⟨rfl, F0, hs23.dr0, (To _), (fJ ⟨(congrArg Value.bool (Cz hb62 (Cz hb63 rfl))), rfl, trivial⟩)⟩
       ·refine Ss hb63 3 ?_
        refine Pk0 hb63 ?_
        refine Vs 1 ?_
        exact Tj ⟨rfl, F0, hs23.dr0, (To _), (fJ ⟨(congrArg Value.bool (Cz hb62 (Dw hb63 rfl))), rfl, trivial⟩)⟩
      ·refine Ss hb62 3 ?_
       refine Pk0 hb62 ?_
       refine Vs 1 ?_
       refine Ss (rfl : false = false) 3 ?_
       refine Pk0 (rfl : false = false) ?_
       refine Vs 1 ?_
       exact Tj ⟨rfl, F0, hs23.dr0, (To _), (fJ ⟨(congrArg Value.bool (Dw hb62 rfl)), rfl, trivial⟩)⟩
     ·rintro f w56 ⟨F4, hs57, le58, ⟨_, rfl⟩⟩
      obtain rfl := Ab h54
      exact .inl ⟨rfl, F4, hs57, le58, fI⟩
    ·refine Sq (Rg [0, 1] ?_)
     refine Vs 2 ?_
     refine Nt ?_
     obtain ⟨j67, hj71, h72⟩ := bind_some h55
     refine Tu (fun f w => ∃ (F5 : Mem), HS w0 F0 w F5 [] /\ Tn F0 F5 /\ FI f [] [(3, (.bool j67.1)), (4, (.bool j67.2))]) ?_ ?_
     ·refine Cd hj71 (fun hb73 h74 => ?_) (fun hb73 h75 => ?_)
      ·refine Rg [0, 1, 2] ?_
       refine Ld hs23.at0 ?_
       obtain ⟨r76, hr77, h78⟩ := bind_some h74
       refine Cl' G6 hs23 (hsR170 w22 F0 hs23.pers x0 a0_2 n0_2 hb0_2 hs0_2 1 _ hr77) ?_
       rintro _ F6 w80 hs81 le82 rfl
       refine Vs 1 ?_
       refine Tj ?_
       obtain rfl := Ab h78
       exact .inl ⟨rfl, F6, hs81.dr0, le82, fI⟩
      ·refine Sq ?_
       refine Sq (Rg [0, 1] ?_)
       refine Vs 2 ?_
       refine Nt ?_
       refine Tu (fun f w => ∃ (F7 : Mem), HS w0 F0 w F7 [(sb b21 (Ai x0 a0_2 n0_2) 33)] /\ Tn F0 F7 /\ FI f [] [(1, (pt b21 0)), (3, (.bool false)), (4, (.bool false)), (6, (vi x0.Op)), (43, (.bool (bif (x0.Op == 4) then (x0.Op == 4) else (x0.Op == 5))))]) ?_ ?_
       ·refine Cp (x0.Op == 4) (fun hb93 => ?_) (fun hb93 => ?_)
        ·refine Sc ?_
         exact .inl ⟨rfl, F0, hs23, (To _), (fJ ⟨rfl, rfl, rfl, rfl, (congrArg Value.bool (CH hb93 rfl)), trivial⟩)⟩
        ·refine Rg [0, 1] ?_
         refine Vs 2 ?_
         refine Tj ?_
         exact .inl ⟨rfl, F0, hs23, (To _), (fJ ⟨rfl, rfl, rfl, rfl, (congrArg Value.bool (C7 hb93 rfl)), trivial⟩)⟩
       ·rintro f w84 ⟨F7, hs85, le86, ⟨_, rfl⟩⟩
        refine Ad ?_
        obtain ⟨j97, hj101, h102⟩ := bind_some h75
        refine Tu (fun f w => ∃ (F8 : Mem), HS w0 F0 w F8 [] /\ Tn F7 F8 /\ FI f [] [(3, (.bool j97.1)), (4, (.bool j97.2))]) ?_ ?_
        ·refine Cd hj101 (fun hb103 h104 => ?_) (fun hb103 h105 => ?_)
         ·refine Rg [0, 1, 2] ?_
          refine Ld hs85.at0 ?_
          obtain ⟨r106, hr107, h108⟩ := bind_some h104
          refine Cl' G6 hs85 (hsR170 w84 F7 hs85.pers x0 a0_2 n0_2 hb0_2 (Tq hs0_2 le86) 2 _ hr107) ?_
          rintro _ F9 w110 hs111 le112 rfl
          refine Vs 1 ?_
          refine Tj ?_
          obtain rfl := Ab h108
          exact .inl ⟨rfl, F9, hs111.dr0, le112, fI⟩
         ·refine Sq ?_
          refine Sq (Rg [0, 1] ?_)
          refine Vs 2 ?_
          refine Nt ?_
          refine Tu (fun f w => ∃ (F10 : Mem), HS w0 F0 w F10 [(sb b21 (Ai x0 a0_2 n0_2) 33)] /\ Tn F7 F10 /\ FI f [] [(1, (pt b21 0)), (3, (.bool false)), (4, (.bool false)), (6, (vi x0.Op)), (48, (.bool (bif (x0.Op == 6) then (x0.Op == 6) else (x0.Op == 7))))]) ?_ ?_
          ·refine Cp (x0.Op == 6) (fun hb123 => ?_) (fun hb123 => ?_)
           ·refine Sc ?_
            exact .inl ⟨rfl, F7, hs85, (To _), (fJ ⟨rfl, rfl, rfl, rfl, (congrArg Value.bool (CH hb123 rfl)), trivial⟩)⟩
           ·refine Rg [0, 1] ?_
            refine Vs 2 ?_
            refine Tj ?_
            exact .inl ⟨rfl, F7, hs85, (To _), (fJ ⟨rfl, rfl, rfl, rfl, (congrArg Value.bool (C7 hb123 rfl)), trivial⟩)⟩
          ·rintro f w114 ⟨F10, hs115, le116, ⟨_, rfl⟩⟩
           refine Ad ?_
           obtain ⟨j127, hj131, h132⟩ := bind_some h105
           refine Tu (fun f w => ∃ (F11 : Mem), HS w0 F0 w F11 [] /\ Tn F10 F11 /\ FI f [] [(3, (.bool j127.1)), (4, (.bool j127.2))]) ?_ ?_
           ·refine Cd hj131 (fun hb133 h134 => ?_) (fun hb133 h135 => ?_)
            ·refine Rg [0, 1, 2] ?_
             refine Ld hs115.at0 ?_
             obtain ⟨r136, hr137, h138⟩ := bind_some h134
             refine Cl' GH hs115 (hsR171 w114 F10 hs115.pers x0 a0_2 n0_2 hb0_2 (Tq hs0_2 (le86.trans le116)) 2 _ hr137) ?_
             rintro _ F12 w140 hs141 le142 rfl
             refine Vs 1 ?_
             refine Tj ?_
             obtain rfl := Ab h138
             exact .inl ⟨rfl, F12, hs141.dr0, le142, fI⟩
            ·refine Sq ?_
             refine Sq (Rg [0, 1] ?_)
             refine Vs 2 ?_
             refine Nt ?_
             refine Tu (fun f w => ∃ (F13 : Mem), HS w0 F0 w F13 [(sb b21 (Ai x0 a0_2 n0_2) 33)] /\ Tn F10 F13 /\ FI f [] [(1, (pt b21 0)), (3, (.bool false)), (4, (.bool false)), (6, (vi x0.Op)), (53, (.bool (bif (x0.Op == 8) then (x0.Op == 8) else (bif (x0.Op == 9) then (x0.Op == 9) else (x0.Op == 10)))))]) ?_ ?_
             ·refine Cp (x0.Op == 8) (fun hb153 => ?_) (fun hb153 => ?_)
              ·refine Sc ?_
               exact .inl ⟨rfl, F10, hs115, (To _), (fJ ⟨rfl, rfl, rfl, rfl, (congrArg Value.bool (CH hb153 rfl)), trivial⟩)⟩
              ·refine Sq (Rg [0, 1] ?_)
               refine Vs 2 ?_
               refine Nt ?_
               refine Tu (fun f w => ∃ (F14 : Mem), HS w0 F0 w F14 [(sb b21 (Ai x0 a0_2 n0_2) 33)] /\ Tn F10 F14 /\ FI f [] [(1, (pt b21 0)), (3, (.bool false)), (4, (.bool false)), (6, (vi x0.Op)), (53, (.bool (bif (x0.Op == 9) then (x0.Op == 9) else (x0.Op == 10))))]) ?_ ?_
               ·refine Cp (x0.Op == 9) (fun hb163 => ?_) (fun hb163 => ?_)
                ·refine Sc ?_
                 exact .inl ⟨rfl, F10, hs115, (To _), (fJ ⟨rfl, rfl, rfl, rfl, (congrArg Value.bool (CH hb163 rfl)), trivial⟩)⟩
                ·refine Rg [0, 1] ?_
                 refine Vs 2 ?_
                 refine Tj ?_
                 exact .inl ⟨rfl, F10, hs115, (To _), (fJ ⟨rfl, rfl, rfl, rfl, (congrArg Value.bool (C7 hb163 rfl)), trivial⟩)⟩
               ·rintro f w154 ⟨F14, hs155, le156, ⟨_, rfl⟩⟩
                exact .inl ⟨rfl, F14, hs155, le156, (fJ ⟨rfl, rfl, rfl, rfl, (congrArg Value.bool (C7 hb153 rfl)), trivial⟩)⟩
             ·rintro f w144 ⟨F13, hs145, le146, ⟨_, rfl⟩⟩
              refine Ad ?_
              obtain ⟨j167, hj171, h172⟩ := bind_some h135
              refine Tu (fun f w => ∃ (F15 : Mem), HS w0 F0 w F15 [] /\ Tn F13 F15 /\ FI f [] [(3, (.bool j167)), (4, (.bool false))]) ?_ ?_
              ·refine Cd hj171 (fun hb173 h174 => ?_) (fun hb173 h175 => ?_)
               ·refine Rg [0, 1, 2] ?_
                refine Ld hs145.at0 ?_
                obtain ⟨r176, hr177, h178⟩ := bind_some h174
                refine Cl' GH hs145 (hsR171 w144 F13 hs145.pers x0 a0_2 n0_2 hb0_2 (Tq hs0_2 ((le86.trans le116).trans le146)) 2 _ hr177) ?_
                rintro _ F16 w180 hs181 le182 rfl
                refine Vs 1 ?_
                refine Tj ?_
                obtain rfl := Ab h178
                exact .inl ⟨rfl, F16, hs181.dr0, le182, fI⟩
               ·refine Sq (Rg [0, 1] ?_)
                refine Vs 2 ?_
                refine Nt ?_
                obtain ⟨j187, hj191, h192⟩ := bind_some h175
                refine Tu (fun f w => ∃ (F17 : Mem), HS w0 F0 w F17 [] /\ Tn F13 F17 /\ FI f [] [(3, (.bool j187)), (4, (.bool false))]) ?_ ?_
                ·refine Cd hj191 (fun hb193 h194 => ?_) (fun hb193 h195 => ?_)
                 ·refine Rg [0, 1, 2, 3, 4, 5, 6, 7, 8, 9, 10, 11, 12, 13, 14, 15, 16, 17, 18, 19, 20, 21, 22, 23, 24, 25, 26, 27, 28, 29, 30, 31, 32, 33] ?_
                  obtain ⟨j199, hj203, h204⟩ := bind_some h194
                  refine Tt (fun f w => ∃ (F18 : Mem), HS w0 F0 w F18 [] /\ Tn F13 F18 /\ FI f [] [(3, (.bool j199)), (4, (.bool false))]) ?_ ?_
                  ·refine Vs 1 ?_
                   refine Ld hs145.at0 ?_
                   refine Vs 2 ?_
                   refine Sp hj203 (fun hb205 h206 => ?_) (fun hb205 h207 => ?_)
                   ·refine Vgs hb205 1 ?_
                    refine Lg hb205 hs145.at0 ?_
                    refine Vgs hb205 2 ?_
                    refine Pk1 hb205 ?_
                    refine Vs 1 ?_
                    refine Sp h206 (fun hb208 h209 => ?_) (fun hb208 h210 => ?_)
                    ·refine Vgs hb208 1 ?_
                     refine Lg hb208 hs145.at0 ?_
                     obtain ⟨x211, hx212, h214⟩ := bind_some h209
                     obtain ⟨hi213, hx212'⟩ := Az hx212
                     obtain ⟨b215, o216, C217, E218, fz219, rfl, hF221, hE222⟩ := Tx (Tq hs0_2 ((le86.trans le116).trans le146)) hx212'
                     obtain ⟨ae223_2, ne223_2, hc224, hbe223_2, hse223_2⟩ := (A1 (hE222 _ _ hx212'))
                     refine Ixg hb208 hi213 ?_
                     refine Lxg hb208 0 (hs145.pers _ _ hF221) hc224 ?_
                     obtain ⟨r225, hr226, h227⟩ := bind_some h214
                     refine Cg hb208 Dn hs145 (hsR117 w144 F13 hs145.pers x211 ae223_2 ne223_2 hbe223_2 hse223_2 _ hr226) ?_
                     rintro _ F19 w229 hs230 le231 rfl
                     refine Vgs hb208 1 ?_
                     refine Pk1 hb208 ?_
                     refine Vs 1 ?_
                     refine Sp h227 (fun hb233 h234 => ?_) (fun hb233 h235 => ?_)
                     ·refine Vgs hb233 1 ?_
                      refine Lg hb233 hs230.at0 ?_
                      obtain ⟨x236, hx237, h239⟩ := bind_some h234
                      obtain ⟨hi238, hx237'⟩ := Az hx237
                      obtain ⟨ae240_2, ne240_2, hc241, hbe240_2, hse240_2⟩ := (A1 (hE222 _ _ hx237'))
                      refine Ixg hb233 hi238 ?_
                      refine Lxg hb233 0 (hs230.pers _ _ (le231 _ _ hF221)) hc241 ?_
                      obtain ⟨r242, hr243, h244⟩ := bind_some h239
                      refine Cg hb233 Dn hs230 (hsR117 w229 F19 hs230.pers x236 ae240_2 ne240_2 hbe240_2 (Tq hse240_2 le231) _ hr243) ?_
                      rintro _ F20 w246 hs247 le248 rfl
                      refine Vgs hb233 1 ?_
                      refine Pk1 hb233 ?_
                      refine Vs 1 ?_
                      refine Sp h244 (fun hb250 h251 => ?_) (fun hb250 h252 => ?_)
                      ·refine Vgs hb250 1 ?_
                       refine Lg hb250 hs247.at0 ?_
                       obtain ⟨x253, hx254, h256⟩ := bind_some h251
                       obtain ⟨hi255, hx254'⟩ := Az hx254
                       obtain ⟨ae257_2, ne257_2, hc258, hbe257_2, hse257_2⟩ := (A1 (hE222 _ _ hx254'))
                       refine Ixg hb250 hi255 ?_
                       refine Lxg hb250 0 (hs247.pers _ _ ((le231.trans le248) _ _ hF221)) hc258 ?_
                       obtain ⟨r259, hr260, h261⟩ := bind_some h256
                       refine Cg hb250 Dn hs247 (hsR117 w246 F20 hs247.pers x253 ae257_2 ne257_2 hbe257_2 (Tq hse257_2 (le231.trans le248)) _ hr260) ?_
                       rintro _ F21 w263 hs264 le265 rfl
                       refine Vgs hb250 1 ?_
                       refine Pk1 hb250 ?_
                       refine Vs 1 ?_
                       obtain rfl := Ab h261
                       exact Tj ⟨rfl, F21, hs264.dr0, ((le231.trans le248).trans le265), fI⟩
                      ·refine Ss hb250 6 ?_
                       refine Pk0 hb250 ?_
                       refine Vs 1 ?_
                       obtain rfl := Ab h252
                       exact Tj ⟨rfl, F20, hs247.dr0, (le231.trans le248), fI⟩
                     ·refine Ss hb233 6 ?_
                      refine Pk0 hb233 ?_
                      refine Vs 1 ?_
                      refine Ss (rfl : false = false) 6 ?_
                      refine Pk0 (rfl : false = false) ?_
                      refine Vs 1 ?_
                      obtain rfl := Ab h235
                      exact Tj ⟨rfl, F19, hs230.dr0, le231, fI⟩
                    ·refine Ss hb208 6 ?_
                     refine Pk0 hb208 ?_
                     refine Vs 1 ?_
                     refine Ss (rfl : false = false) 6 ?_
                     refine Pk0 (rfl : false = false) ?_
                     refine Vs 1 ?_
                     refine Ss (rfl : false = false) 6 ?_
                     refine Pk0 (rfl : false = false) ?_
                     refine Vs 1 ?_
                     obtain rfl := Ab h210
                     exact Tj ⟨rfl, F13, hs145.dr0, (To _), fI⟩
                   ·refine Ss hb205 4 ?_
                    refine Pk0 hb205 ?_
                    refine Vs 1 ?_
                    refine Ss (rfl : false = false) 6 ?_
                    refine Pk0 (rfl : false = false) ?_
                    refine Vs 1 ?_
                    refine Ss (rfl : false = false) 6 ?_
                    refine Pk0 (rfl : false = false) ?_
                    refine Vs 1 ?_
                    refine Ss (rfl : false = false) 6 ?_
                    refine Pk0 (rfl : false = false) ?_
                    refine Vs 1 ?_
                    obtain rfl := Ab h207
                    exact Tj ⟨rfl, F13, hs145.dr0, (To _), fI⟩
                  ·rintro f w196 ⟨F18, hs197, le198, ⟨_, rfl⟩⟩
                   obtain rfl := Ab h204
                   exact .inl ⟨rfl, F18, hs197, le198, fI⟩
                 ·refine Sc ?_
                  obtain rfl := Ab h195
                  exact .inl ⟨rfl, F13, hs145.dr0, (To _), fI⟩
                ·rintro f w184 ⟨F17, hs185, le186, ⟨_, rfl⟩⟩
                 obtain rfl := Ab h192
                 exact .inl ⟨rfl, F17, hs185, le186, fI⟩
              ·rintro f w164 ⟨F15, hs165, le166, ⟨_, rfl⟩⟩
               obtain rfl := Ab h172
               exact .inl ⟨rfl, F15, hs165, (le146.trans le166), fI⟩
           ·rintro f w124 ⟨F11, hs125, le126, ⟨_, rfl⟩⟩
            obtain rfl := Ab h132
            exact .inl ⟨rfl, F11, hs125, (le116.trans le126), fI⟩
        ·rintro f w94 ⟨F8, hs95, le96, ⟨_, rfl⟩⟩
         obtain rfl := Ab h102
         exact .inl ⟨rfl, F8, hs95, (le86.trans le96), fI⟩
     ·rintro f w64 ⟨F5, hs65, le66, ⟨_, rfl⟩⟩
      obtain rfl := Ab h72
      exact .inl ⟨rfl, F5, hs65, le66, fI⟩
   ·rintro f w44 ⟨F3, hs45, le46, ⟨_, rfl⟩⟩
    obtain rfl := Ab h52
    exact .inl ⟨rfl, F3, hs45, le46, fI⟩
 ·rintro f w24 ⟨F1, hs25, le26, ⟨_, rfl⟩⟩
  refine AA ?_
  refine Ad ?_
  refine Sq ?_
  refine Sq (Rg [0] ?_)
  refine Vs 1 ?_
  refine Nt ?_
  refine Cd h32 (fun hb267 h268 => ?_) (fun hb267 h269 => ?_)
  ·refine Sq (Rg [0] ?_)
   refine Vs 1 ?_
   refine Nt ?_
   refine Rt ?_
   refine Aj ?_
   obtain rfl := Ab h268
   exact Re [(vi 1)] hs25 rfl
  ·refine Sc ?_
   refine Ad ?_
   refine Sq ?_
   refine Sq (Rg [0] ?_)
   refine Vs 1 ?_
   refine Nt ?_
   refine Cd h269 (fun hb270 h271 => ?_) (fun hb270 h272 => ?_)
   ·refine Sq (Rg [0] ?_)
    refine Vs 1 ?_
    refine Nt ?_
    refine Rt ?_
    refine Aj ?_
    obtain rfl := Ab h271
    exact Re [(vi 2)] hs25 rfl
   ·refine Sc ?_
    refine Ad ?_
    refine Sq (Rg [0] ?_)
    refine Vs 1 ?_
    refine Nt ?_
    refine Rt ?_
    obtain rfl := Ab h272
    exact Re [(vi 0)] hs25 rfl
def EY (N : Nat) (sR117 : Expr -> Option Int) (x0 : Expr) (x1 : Int) : Int -> Option (Bv Bool Int) := fun s38 =>
 (bif (decide (s38 < x1)) then ((idx x0.Kids s38).bind fun x60 => ((sR117 x60).bind fun r74 => (bif (r74 != 2) then some (.ret false) else some (.next (W64 (s38 + 1)))))) else some (.done s38))
def Ea (N : Nat) (sR117 : Expr -> Option Int) (x0 : Expr) (x1 : Int) : Option Bool :=
 (bif (((x0.Kids.length : Int) != x1) || (x0.Value != 0)) then some false else ((Be (EY N sR117 x0 x1) N 0).bind fun o => o.k (fun r => some r) (fun s46 => some true)))
theorem Ll (N : Nat) (sR117 : Expr -> Option Int) (hsR117 : Kf sR117) (w0 : World) (F0 : Mem) (hF : TP w0 F0) (x0 : Expr) (a0_2 : TO) (n0_2 : Nat) (hb0_2 : LC x0.Kids.length n0_2) (hs0_2 : SlA As F0 a0_2 x0.Kids) (x1 : Int) (r : Bool) (h : Ea N sR117 x0 x1 = some r) :
  Calls Tryz.prog 170 ([(.agg (Ai x0 a0_2 n0_2)), (vi x1)] : List Value).toArray w0 (Bd w0 F0 fun F' v => v = (.bool r)) := by
 have hs0 := Tp hF
 refine Go 28 Tryz.func170 ?_
 refine Sq (Rg [0, 1] ?_)
 refine Bx' 33 (Ai x0 a0_2 n0_2) hs0 (fun b21 w22 hs23 => ?_)
 refine Vs 1 ?_
 refine Nss ?_
 refine Sq (Rg [0, 1, 2, 3, 4, 5, 6, 7, 8, 9] ?_)
 refine Tt (fun f w => ∃ (F1 : Mem), HS w0 F0 w F1 [(sb b21 (Ai x0 a0_2 n0_2) 33)] /\ Tn F0 F1 /\ FI f [] [(1, (vi x1)), (2, (pt b21 0)), (15, (.bool (((x0.Kids.length : Int) != x1) || (x0.Value != 0))))]) ?_ ?_
 ·refine Vs 1 ?_
  refine Ld hs23.at0 ?_
  refine Vs 4 ?_
  refine Ts ((x0.Kids.length : Int) != x1) (fun hb31 => ?_) (fun hb31 => ?_)
  ·refine Ss hb31 3 ?_
   refine Pk1 hb31 ?_
   exact Tj ⟨rfl, F0, hs23, (To _), (fJ ⟨rfl, rfl, (congrArg Value.bool (Fk hb31 rfl)), trivial⟩)⟩
  ·refine Vgs hb31 1 ?_
   refine Lg hb31 hs23.at0 ?_
   refine Vgs hb31 1 ?_
   refine Pk0 hb31 ?_
   exact Tj ⟨rfl, F0, hs23, (To _), (fJ ⟨rfl, rfl, (congrArg Value.bool (B7 hb31 rfl)), trivial⟩)⟩
 ·rintro f w24 ⟨F1, hs25, le26, ⟨_, rfl⟩⟩
  refine Ad ?_
  refine Cd h (fun hb32 h33 => ?_) (fun hb32 h34 => ?_)
  ·refine Sq (Rg [0] ?_)
   refine Vs 1 ?_
   refine Nt ?_
   refine Rt ?_
   refine Aj ?_
   obtain rfl := Ab h33
   exact Re [(.bool false)] hs25 rfl
  ·refine Sc ?_
   refine Ad ?_
   refine Sq ?_
   refine Sq (Rg [0] ?_)
   refine Vs 1 ?_
   refine Nt ?_
   obtain ⟨o35, ho36, h37⟩ := bind_some h34
   refine Tu (fun f w => ∃ (s46 : Int) (F3 : Mem), o35 = .done s46 /\ HS w0 F0 w F3 [] /\ Tn F1 F3 /\ FI f [] []) ?_ ?_
   ·refine Bk ?_
    refine Tm (by kernel_rfl) (fun m f w => ∃ (s38 : Int) (F2 : Mem), Be (EY N sR117 x0 x1) m s38 = some o35 /\ HS w0 F0 w F2 [(sb b21 (Ai x0 a0_2 n0_2) 33)] /\ Tn F1 F2 /\ FI f [] [(1, (vi x1)), (2, (pt b21 0)), (5, (vi s38))]) N ⟨0, F1, ho36, hs25, (To _), fI⟩ ?_
    rintro m51 f w39 ⟨s38, F2, hit52, hs40, le41, ⟨_, rfl⟩⟩
    obtain ⟨m53, fl54, rfl, hb55, hnx56⟩ := A5 hit52
    refine Sq ?_
    refine Sq (Rg [0, 1, 2] ?_)
    refine Vs 3 ?_
    refine Nt ?_
    refine Cd hb55 (fun hb57 h58 => ?_) (fun hb57 h59 => ?_)
    ·refine Sc ?_
     refine Ad ?_
     refine Sq ?_
     refine Bk ?_
     refine Sq (Rg [0, 1, 2, 3, 4, 5, 6] ?_)
     refine Vs 1 ?_
     refine Ld hs40.at0 ?_
     refine Vs 1 ?_
     obtain ⟨x60, hx61, h63⟩ := bind_some h58
     obtain ⟨hi62, hx61'⟩ := Az hx61
     obtain ⟨b64, o65, C66, E67, fz68, rfl, hF70, hE71⟩ := Tx (Tq hs0_2 (le26.trans le41)) hx61'
     obtain ⟨ae72_2, ne72_2, hc73, hbe72_2, hse72_2⟩ := (A1 (hE71 _ _ hx61'))
     refine Ix hi62 ?_
     refine Lx 0 (hs40.pers _ _ hF70) hc73 ?_
     obtain ⟨r74, hr75, h76⟩ := bind_some h63
     refine Cl' Dn hs40 (hsR117 w39 F2 hs40.pers x60 ae72_2 ne72_2 hbe72_2 hse72_2 _ hr75) ?_
     rintro _ F4 w78 hs79 le80 rfl
     refine Vs 1 ?_
     refine Nt ?_
     refine Cd h76 (fun hb82 h83 => ?_) (fun hb82 h84 => ?_)
     ·refine Sq (Rg [0] ?_)
      refine Vs 1 ?_
      refine Nt ?_
      refine Rt ?_
      refine Ao ?_
      refine Aj ?_
      refine Aj ?_
      refine Ao ?_
      have hret := B9 h83 hnx56
      subst hret
      refine .inr ?_
      refine Aj ?_
      obtain rfl := Ab h37
      exact Re [(.bool false)] hs79 rfl
     ·refine Sc ?_
      refine AA ?_
      refine Ad ?_
      refine Rg [0, 1, 2] ?_
      refine Vs 3 ?_
      refine Tj ?_
      have hn85 := AW h84 hnx56
      exact ⟨m53, Nat.lt_succ_self _, (W64 (s38 + 1)), F4, hn85, hs79, (le41.trans le80), fI⟩
    ·refine Ex ?_
     refine AC ?_
     refine AC ?_
     refine AL rfl ?_
     have ho86 := A8 h59 hnx56
     exact .inl ⟨rfl, s38, F2, ho86, hs40.dr0, le41, fI⟩
   ·rintro f w47 ⟨s46, F3, rfl, hs48, le49, ⟨_, rfl⟩⟩
    have h87 := BT h37
    refine Ad ?_
    refine Sq (Rg [0] ?_)
    refine Vs 1 ?_
    refine Nt ?_
    refine Rt ?_
    obtain rfl := Ab h87
    exact Re [(.bool true)] hs48 rfl
def Eu (N : Nat) (sR117 : Expr -> Option Int) (x0 : Expr) (x1 : Int) : Int -> Option (Bv Bool Int) := fun s38 =>
 (bif (decide (s38 < x1)) then ((idx x0.Kids s38).bind fun x60 => ((sR117 x60).bind fun r74 => (bif (r74 != 1) then some (.ret false) else some (.next (W64 (s38 + 1)))))) else some (.done s38))
def DW (N : Nat) (sR117 : Expr -> Option Int) (x0 : Expr) (x1 : Int) : Option Bool :=
 (bif (((x0.Kids.length : Int) != x1) || (x0.Value != 0)) then some false else ((Be (Eu N sR117 x0 x1) N 0).bind fun o => o.k (fun r => some r) (fun s46 => some true)))
theorem KH (N : Nat) (sR117 : Expr -> Option Int) (hsR117 : Kf sR117) (w0 : World) (F0 : Mem) (hF : TP w0 F0) (x0 : Expr) (a0_2 : TO) (n0_2 : Nat) (hb0_2 : LC x0.Kids.length n0_2) (hs0_2 : SlA As F0 a0_2 x0.Kids) (x1 : Int) (r : Bool) (h : DW N sR117 x0 x1 = some r) :
  Calls Tryz.prog 171 ([(.agg (Ai x0 a0_2 n0_2)), (vi x1)] : List Value).toArray w0 (Bd w0 F0 fun F' v => v = (.bool r)) := by
 have hs0 := Tp hF
 refine Go 28 Tryz.func171 ?_
 refine Sq (Rg [0, 1] ?_)
 refine Bx' 33 (Ai x0 a0_2 n0_2) hs0 (fun b21 w22 hs23 => ?_)
 refine Vs 1 ?_
 refine Nss ?_
 refine Sq (Rg [0, 1, 2, 3, 4, 5, 6, 7, 8, 9] ?_)
 refine Tt (fun f w => ∃ (F1 : Mem), HS w0 F0 w F1 [(sb b21 (Ai x0 a0_2 n0_2) 33)] /\ Tn F0 F1 /\ FI f [] [(1, (vi x1)), (2, (pt b21 0)), (15, (.bool (((x0.Kids.length : Int) != x1) || (x0.Value != 0))))]) ?_ ?_
 ·refine Vs 1 ?_
  refine Ld hs23.at0 ?_
  refine Vs 4 ?_
  refine Ts ((x0.Kids.length : Int) != x1) (fun hb31 => ?_) (fun hb31 => ?_)
  ·refine Ss hb31 3 ?_
   refine Pk1 hb31 ?_
   exact Tj ⟨rfl, F0, hs23, (To _), (fJ ⟨rfl, rfl, (congrArg Value.bool (Fk hb31 rfl)), trivial⟩)⟩
  ·refine Vgs hb31 1 ?_
   refine Lg hb31 hs23.at0 ?_
   refine Vgs hb31 1 ?_
   refine Pk0 hb31 ?_
   exact Tj ⟨rfl, F0, hs23, (To _), (fJ ⟨rfl, rfl, (congrArg Value.bool (B7 hb31 rfl)), trivial⟩)⟩
 ·rintro f w24 ⟨F1, hs25, le26, ⟨_, rfl⟩⟩
  refine Ad ?_
  refine Cd h (fun hb32 h33 => ?_) (fun hb32 h34 => ?_)
  ·refine Sq (Rg [0] ?_)
   refine Vs 1 ?_
   refine Nt ?_
   refine Rt ?_
   refine Aj ?_
   obtain rfl := Ab h33
   exact Re [(.bool false)] hs25 rfl
  ·refine Sc ?_
   refine Ad ?_
   refine Sq ?_
   refine Sq (Rg [0] ?_)
   refine Vs 1 ?_
   refine Nt ?_
   obtain ⟨o35, ho36, h37⟩ := bind_some h34
   refine Tu (fun f w => ∃ (s46 : Int) (F3 : Mem), o35 = .done s46 /\ HS w0 F0 w F3 [] /\ Tn F1 F3 /\ FI f [] []) ?_ ?_
   ·refine Bk ?_
    refine Tm (by kernel_rfl) (fun m f w => ∃ (s38 : Int) (F2 : Mem), Be (Eu N sR117 x0 x1) m s38 = some o35 /\ HS w0 F0 w F2 [(sb b21 (Ai x0 a0_2 n0_2) 33)] /\ Tn F1 F2 /\ FI f [] [(1, (vi x1)), (2, (pt b21 0)), (5, (vi s38))]) N ⟨0, F1, ho36, hs25, (To _), fI⟩ ?_
    rintro m51 f w39 ⟨s38, F2, hit52, hs40, le41, ⟨_, rfl⟩⟩
    obtain ⟨m53, fl54, rfl, hb55, hnx56⟩ := A5 hit52
    refine Sq ?_
    refine Sq (Rg [0, 1, 2] ?_)
    refine Vs 3 ?_
    refine Nt ?_
    refine Cd hb55 (fun hb57 h58 => ?_) (fun hb57 h59 => ?_)
    ·refine Sc ?_
     refine Ad ?_
     refine Sq ?_
     refine Bk ?_
     refine Sq (Rg [0, 1, 2, 3, 4, 5, 6] ?_)
     refine Vs 1 ?_
     refine Ld hs40.at0 ?_
     refine Vs 1 ?_
     obtain ⟨x60, hx61, h63⟩ := bind_some h58
     obtain ⟨hi62, hx61'⟩ := Az hx61
     obtain ⟨b64, o65, C66, E67, fz68, rfl, hF70, hE71⟩ := Tx (Tq hs0_2 (le26.trans le41)) hx61'
     obtain ⟨ae72_2, ne72_2, hc73, hbe72_2, hse72_2⟩ := (A1 (hE71 _ _ hx61'))
     refine Ix hi62 ?_
     refine Lx 0 (hs40.pers _ _ hF70) hc73 ?_
     obtain ⟨r74, hr75, h76⟩ := bind_some h63
     refine Cl' Dn hs40 (hsR117 w39 F2 hs40.pers x60 ae72_2 ne72_2 hbe72_2 hse72_2 _ hr75) ?_
     rintro _ F4 w78 hs79 le80 rfl
     refine Vs 1 ?_
     refine Nt ?_
     refine Cd h76 (fun hb82 h83 => ?_) (fun hb82 h84 => ?_)
     ·refine Sq (Rg [0] ?_)
      refine Vs 1 ?_
      refine Nt ?_
      refine Rt ?_
      refine Ao ?_
      refine Aj ?_
      refine Aj ?_
      refine Ao ?_
      have hret := B9 h83 hnx56
      subst hret
      refine .inr ?_
      refine Aj ?_
      obtain rfl := Ab h37
      exact Re [(.bool false)] hs79 rfl
     ·refine Sc ?_
      refine AA ?_
      refine Ad ?_
      refine Rg [0, 1, 2] ?_
      refine Vs 3 ?_
      refine Tj ?_
      have hn85 := AW h84 hnx56
      exact ⟨m53, Nat.lt_succ_self _, (W64 (s38 + 1)), F4, hn85, hs79, (le41.trans le80), fI⟩
    ·refine Ex ?_
     refine AC ?_
     refine AC ?_
     refine AL rfl ?_
     have ho86 := A8 h59 hnx56
     exact .inl ⟨rfl, s38, F2, ho86, hs40.dr0, le41, fI⟩
   ·rintro f w47 ⟨s46, F3, rfl, hs48, le49, ⟨_, rfl⟩⟩
    have h87 := BT h37
    refine Ad ?_
    refine Sq (Rg [0] ?_)
    refine Vs 1 ?_
    refine Nt ?_
    refine Rt ?_
    obtain rfl := Ab h87
    exact Re [(.bool true)] hs48 rfl
structure Sy where
 q117 : Expr -> Option Int
 q170 : Expr -> Int -> Option Bool
 q171 : Expr -> Int -> Option Bool
def Cw (N : Nat) : Nat -> Sy
 | 0 => ⟨fun _ => none, fun _ _ => none, fun _ _ => none⟩
 | k + 1 => ⟨Fj N (Cw N k).q117 (Cw N k).q170 (Cw N k).q171, Ea N (Cw N k).q117, DW N (Cw N k).q117⟩
theorem MM (N : Nat) : ∀ k, Kf (Cw N k).q117 /\ NC (Cw N k).q170 /\ NB (Cw N k).q171
 | 0 => ⟨(by unfold Kf; intros; rename_i h; cases h), (by unfold NC; intros; rename_i h; cases h), (by unfold NB; intros; rename_i h; cases h)⟩
 | k + 1 => by
  have ih := MM N k
  exact ⟨@ME N (Cw N k).q117 ih.1 (Cw N k).q170 ih.2.1 (Cw N k).q171 ih.2.2, @Ll N (Cw N k).q117 ih.1, @KH N (Cw N k).q117 ih.1⟩
def I2 (N : Nat) (x0 : Expr) : Option Int := (Cw N N).q117 x0
theorem Nl (N : Nat) (w0 : World) (F0 : Mem) (hF : TP w0 F0) (x0 : Expr) (a0_2 : TO) (n0_2 : Nat) (hb0_2 : LC x0.Kids.length n0_2) (hs0_2 : SlA As F0 a0_2 x0.Kids) (r : Int) (h : I2 N x0 = some r) :
  Calls Tryz.prog 117 ([(.agg #[(.int .i64 x0.Op), (.int .i64 x0.Value), (.slice a0_2 x0.Kids.length n0_2)])] : List Value).toArray w0 (Bd w0 F0 fun F' v => v = (.int .i64 r)) := (MM N N).1 w0 F0 hF x0 a0_2 n0_2 hb0_2 hs0_2 r h
def O8 (sR32 : Expr -> Option Int) : Prop := ∀ (w0 : World) (F0 : Mem) (hF : TP w0 F0) (x0 : Expr) (a0_2 : TO) (n0_2 : Nat) (hb0_2 : LC x0.Kids.length n0_2) (hs0_2 : SlA As F0 a0_2 x0.Kids) (r : Int), sR32 x0 = some r -> Calls Tryz.prog 32 ([(.agg #[(.int .i64 x0.Op), (.int .i64 x0.Value), (.slice a0_2 x0.Kids.length n0_2)])] : List Value).toArray w0 (Bd w0 F0 fun F' v => v = (.int .i64 r))
theorem FM : Au Tryz.prog 32 := fun _ _ => by kernel_rfl
def Hl (N : Nat) (sR32 : Expr -> Option Int) (x0 : Expr) : (Int × Int) -> Option (Bv Int (Int × Int)) := fun s27 =>
 (bif (decide (s27.2 < (x0.Kids.length : Int))) then ((idx x0.Kids s27.2).bind fun x51 => ((sR32 x51).bind fun r70 => some (.next ((max s27.1 r70), (W64 (s27.2 + 1)))))) else some (.done (s27.1, s27.2)))
def ED (N : Nat) (sR32 : Expr -> Option Int) (x0 : Expr) : Option Int :=
 ((Be (Hl N sR32 x0) N (0, 0)).bind fun o => o.k (fun r => some r) (fun s36 => some (W64 (s36.1 + 1))))
theorem Mi (N : Nat) (sR32 : Expr -> Option Int) (hsR32 : O8 sR32) (w0 : World) (F0 : Mem) (hF : TP w0 F0) (x0 : Expr) (a0_2 : TO) (n0_2 : Nat) (hb0_2 : LC x0.Kids.length n0_2) (hs0_2 : SlA As F0 a0_2 x0.Kids) (r : Int) (h : ED N sR32 x0 = some r) :
  Calls Tryz.prog 32 ([(.agg (Ai x0 a0_2 n0_2))] : List Value).toArray w0 (Bd w0 F0 fun F' v => v = (vi r)) := by
 have hs0 := Tp hF
 refine Go 20 Tryz.func32 ?_
 refine Sq (Rg [0, 1] ?_)
 refine Bx' 33 (Ai x0 a0_2 n0_2) hs0 (fun b21 w22 hs23 => ?_)
 refine Vs 1 ?_
 refine Nss (Rg [0] ?_)
 refine Vs 1 ?_
 refine Nss ?_
 refine Sq (Rg [0, 1, 2, 3] ?_)
 refine Vs 1 ?_
 refine Ld hs23.at0 ?_
 refine Vs 2 ?_
 refine Nt ?_
 obtain ⟨o24, ho25, h26⟩ := bind_some h
 refine Tu (fun f w => ∃ (s36 : (Int × Int)) (F2 : Mem), o24 = .done s36 /\ HS w0 F0 w F2 [] /\ Tn F0 F2 /\ FI f [] [(3, (vi s36.1))]) ?_ ?_
 ·refine Bk ?_
  refine Tm (by kernel_rfl) (fun m f w => ∃ (s27 : (Int × Int)) (F1 : Mem), Be (Hl N sR32 x0) m s27 = some o24 /\ HS w0 F0 w F1 [] /\ Tn F0 F1 /\ FI f [] [(3, (vi s27.1)), (7, (.slice a0_2 x0.Kids.length n0_2)), (8, (vi (x0.Kids.length : Int))), (9, (vi s27.2))]) N ⟨(0, 0), F0, ho25, hs23.dr0, (To _), fI⟩ ?_
  rintro m42 f w28 ⟨s27, F1, hit43, hs29, le30, ⟨_, rfl⟩⟩
  obtain ⟨m44, fl45, rfl, hb46, hnx47⟩ := A5 hit43
  refine Sq (Rg [0] ?_)
  refine Vs 1 ?_
  refine Nss ?_
  refine Cd hb46 (fun hb48 h49 => ?_) (fun hb48 h50 => ?_)
  ·refine Sc ?_
   refine Ad ?_
   refine Sq ?_
   refine Bk ?_
   refine Sq (Rg [0, 1, 2, 3] ?_)
   obtain ⟨x51, hx52, h54⟩ := bind_some h49
   obtain ⟨hi53, hx52'⟩ := Az hx52
   obtain ⟨b55, o56, C57, E58, fz59, rfl, hF61, hE62⟩ := Tx (Tq hs0_2 le30) hx52'
   obtain ⟨ae63_2, ne63_2, hc64, hbe63_2, hse63_2⟩ := (A1 (hE62 _ _ hx52'))
   refine Ix hi53 ?_
   refine Lx 0 (hs29.pers _ _ hF61) hc64 ?_
   refine Al' 33 #[(vi 0), (vi 0), (.slice none ([] : List Expr).length 0)] hs29 (fun b65 w66 hs67 => ?_)
   refine St0 (Ai x51 ae63_2 ne63_2) hs67 (fun w68 hs69 => ?_)
   refine Nt ?_
   refine Rg [0, 1, 2, 3, 4] ?_
   refine Vs 1 ?_
   refine Ld hs69.at0 ?_
   obtain ⟨r70, hr71, h72⟩ := bind_some h54
   refine Cl' FM hs69 (hsR32 w68 F1 hs69.pers x51 ae63_2 ne63_2 hbe63_2 hse63_2 _ hr71) ?_
   rintro _ F3 w74 hs75 le76 rfl
   refine Vs 2 ?_
   refine Tj ?_
   refine AA ?_
   refine Ad ?_
   refine Rg [0, 1] ?_
   refine Vs 2 ?_
   refine Tj ?_
   have hn78 := AW h72 hnx47
   exact ⟨m44, Nat.lt_succ_self _, ((max s27.1 r70), (W64 (s27.2 + 1))), F3, hn78, hs75.dr0, (le30.trans le76), fI⟩
  ·refine Ex ?_
   refine AC ?_
   refine AC ?_
   refine AL rfl ?_
   have ho79 := A8 h50 hnx47
   exact .inl ⟨rfl, (s27.1, s27.2), F1, ho79, hs29, le30, fI⟩
 ·rintro f w37 ⟨s36, F2, rfl, hs38, le39, ⟨_, rfl⟩⟩
  have h80 := BT h26
  refine Ad ?_
  refine Sq (Rg [0, 1, 2] ?_)
  refine Vs 3 ?_
  refine Nt ?_
  refine Rt ?_
  obtain rfl := Ab h80
  exact Re [(vi (W64 (s36.1 + 1)))] hs38 rfl
structure S0 where
 q32 : Expr -> Option Int
def LJ (N : Nat) : Nat -> S0
 | 0 => ⟨fun _ => none⟩
 | k + 1 => ⟨ED N (LJ N k).q32⟩
theorem N4 (N : Nat) : ∀ k, O8 (LJ N k).q32
 | 0 => (by unfold O8; intros; rename_i h; cases h)
 | k + 1 => by
  have ih := N4 N k
  exact @Mi N (LJ N k).q32 ih
def Ga (N : Nat) (x0 : Expr) : Option Int := (LJ N N).q32 x0
theorem IR (N : Nat) (w0 : World) (F0 : Mem) (hF : TP w0 F0) (x0 : Expr) (a0_2 : TO) (n0_2 : Nat) (hb0_2 : LC x0.Kids.length n0_2) (hs0_2 : SlA As F0 a0_2 x0.Kids) (r : Int) (h : Ga N x0 = some r) :
  Calls Tryz.prog 32 ([(.agg #[(.int .i64 x0.Op), (.int .i64 x0.Value), (.slice a0_2 x0.Kids.length n0_2)])] : List Value).toArray w0 (Bd w0 F0 fun F' v => v = (.int .i64 r)) := (N4 N N) w0 F0 hF x0 a0_2 n0_2 hb0_2 hs0_2 r h
def O7 (sR77 : Expr -> Option Int) : Prop := ∀ (w0 : World) (F0 : Mem) (hF : TP w0 F0) (x0 : Expr) (a0_2 : TO) (n0_2 : Nat) (hb0_2 : LC x0.Kids.length n0_2) (hs0_2 : SlA As F0 a0_2 x0.Kids) (r : Int), sR77 x0 = some r -> Calls Tryz.prog 77 ([(.agg #[(.int .i64 x0.Op), (.int .i64 x0.Value), (.slice a0_2 x0.Kids.length n0_2)])] : List Value).toArray w0 (Bd w0 F0 fun F' v => v = (.int .i64 r))
theorem HL : Au Tryz.prog 77 := fun _ _ => by kernel_rfl
def Ho (N : Nat) (sR77 : Expr -> Option Int) (x0 : Expr) : (Int × Int) -> Option (Bv Int (Int × Int)) := fun s27 =>
 (bif (decide (s27.2 < (x0.Kids.length : Int))) then ((idx x0.Kids s27.2).bind fun x50 => ((sR77 x50).bind fun r64 => some (.next ((max s27.1 r64), (W64 (s27.2 + 1)))))) else some (.done (s27.1, s27.2)))
def EG (N : Nat) (sR77 : Expr -> Option Int) (x0 : Expr) : Option Int :=
 ((Be (Ho N sR77 x0) N (0, 0)).bind fun o => o.k (fun r => some r) (fun s35 => some (W64 (s35.1 + 1))))
theorem Mk (N : Nat) (sR77 : Expr -> Option Int) (hsR77 : O7 sR77) (w0 : World) (F0 : Mem) (hF : TP w0 F0) (x0 : Expr) (a0_2 : TO) (n0_2 : Nat) (hb0_2 : LC x0.Kids.length n0_2) (hs0_2 : SlA As F0 a0_2 x0.Kids) (r : Int) (h : EG N sR77 x0 = some r) :
  Calls Tryz.prog 77 ([(.agg (Ai x0 a0_2 n0_2))] : List Value).toArray w0 (Bd w0 F0 fun F' v => v = (vi r)) := by
 have hs0 := Tp hF
 refine Go 22 Tryz.func77 ?_
 refine Sq (Rg [0, 1] ?_)
 refine Bx' 33 (Ai x0 a0_2 n0_2) hs0 (fun b21 w22 hs23 => ?_)
 refine Vs 1 ?_
 refine Nss (Rg [0] ?_)
 refine Vs 1 ?_
 refine Nss ?_
 refine Sq (Rg [0] ?_)
 refine Vs 1 ?_
 refine Nt ?_
 obtain ⟨o24, ho25, h26⟩ := bind_some h
 refine Tu (fun f w => ∃ (s35 : (Int × Int)) (F2 : Mem), o24 = .done s35 /\ HS w0 F0 w F2 [] /\ Tn F0 F2 /\ FI f [] [(3, (vi s35.1))]) ?_ ?_
 ·refine Bk ?_
  refine Tm (by kernel_rfl) (fun m f w => ∃ (s27 : (Int × Int)) (F1 : Mem), Be (Ho N sR77 x0) m s27 = some o24 /\ HS w0 F0 w F1 [(sb b21 (Ai x0 a0_2 n0_2) 33)] /\ Tn F0 F1 /\ FI f [] [(1, (pt b21 0)), (3, (vi s27.1)), (4, (vi s27.2))]) N ⟨(0, 0), F0, ho25, hs23, (To _), fI⟩ ?_
  rintro m41 f w28 ⟨s27, F1, hit42, hs29, le30, ⟨_, rfl⟩⟩
  obtain ⟨m43, fl44, rfl, hb45, hnx46⟩ := A5 hit42
  refine Sq ?_
  refine Sq (Rg [0, 1, 2, 3, 4] ?_)
  refine Vs 2 ?_
  refine Ld hs29.at0 ?_
  refine Vs 2 ?_
  refine Nt ?_
  refine Cd hb45 (fun hb47 h48 => ?_) (fun hb47 h49 => ?_)
  ·refine Sc ?_
   refine Ad ?_
   refine Sq ?_
   refine Bk ?_
   refine Rg [0, 1, 2, 3, 4, 5, 6, 7, 8] ?_
   refine Vs 2 ?_
   refine Ld hs29.at0 ?_
   refine Vs 1 ?_
   obtain ⟨x50, hx51, h53⟩ := bind_some h48
   obtain ⟨hi52, hx51'⟩ := Az hx51
   obtain ⟨b54, o55, C56, E57, fz58, rfl, hF60, hE61⟩ := Tx (Tq hs0_2 le30) hx51'
   obtain ⟨ae62_2, ne62_2, hc63, hbe62_2, hse62_2⟩ := (A1 (hE61 _ _ hx51'))
   refine Ix hi52 ?_
   refine Lx 0 (hs29.pers _ _ hF60) hc63 ?_
   obtain ⟨r64, hr65, h66⟩ := bind_some h53
   refine Cl' HL hs29 (hsR77 w28 F1 hs29.pers x50 ae62_2 ne62_2 hbe62_2 hse62_2 _ hr65) ?_
   rintro _ F3 w68 hs69 le70 rfl
   refine Vs 2 ?_
   refine Tj ?_
   refine AA ?_
   refine Ad ?_
   refine Rg [0, 1, 2] ?_
   refine Vs 3 ?_
   refine Tj ?_
   have hn72 := AW h66 hnx46
   exact ⟨m43, Nat.lt_succ_self _, ((max s27.1 r64), (W64 (s27.2 + 1))), F3, hn72, hs69, (le30.trans le70), fI⟩
  ·refine Ex ?_
   refine AC ?_
   refine AC ?_
   refine AL rfl ?_
   have ho73 := A8 h49 hnx46
   exact .inl ⟨rfl, (s27.1, s27.2), F1, ho73, hs29.dr0, le30, fI⟩
 ·rintro f w36 ⟨s35, F2, rfl, hs37, le38, ⟨_, rfl⟩⟩
  have h74 := BT h26
  refine Ad ?_
  refine Sq (Rg [0, 1, 2] ?_)
  refine Vs 3 ?_
  refine Nt ?_
  refine Rt ?_
  obtain rfl := Ab h74
  exact Re [(vi (W64 (s35.1 + 1)))] hs37 rfl
structure SZ where
 q77 : Expr -> Option Int
def LI (N : Nat) : Nat -> SZ
 | 0 => ⟨fun _ => none⟩
 | k + 1 => ⟨EG N (LI N k).q77⟩
theorem N3 (N : Nat) : ∀ k, O7 (LI N k).q77
 | 0 => (by unfold O7; intros; rename_i h; cases h)
 | k + 1 => by
  have ih := N3 N k
  exact @Mk N (LI N k).q77 ih
def Hp (N : Nat) (x0 : Expr) : Option Int := (LI N N).q77 x0
theorem MB (N : Nat) (w0 : World) (F0 : Mem) (hF : TP w0 F0) (x0 : Expr) (a0_2 : TO) (n0_2 : Nat) (hb0_2 : LC x0.Kids.length n0_2) (hs0_2 : SlA As F0 a0_2 x0.Kids) (r : Int) (h : Hp N x0 = some r) :
  Calls Tryz.prog 77 ([(.agg #[(.int .i64 x0.Op), (.int .i64 x0.Value), (.slice a0_2 x0.Kids.length n0_2)])] : List Value).toArray w0 (Bd w0 F0 fun F' v => v = (.int .i64 r)) := (N3 N N) w0 F0 hF x0 a0_2 n0_2 hb0_2 hs0_2 r h



def O9 (sR27 : Expr -> Expr -> Option Bool) : Prop := ∀ (w0 : World) (F0 : Mem) (hF : TP w0 F0) (x0 : Expr) (a0_2 : TO) (n0_2 : Nat) (hb0_2 : LC x0.Kids.length n0_2) (hs0_2 : SlA As F0 a0_2 x0.Kids) (x1 : Expr) (a1_2 : TO) (n1_2 : Nat) (hb1_2 : LC x1.Kids.length n1_2) (hs1_2 : SlA As F0 a1_2 x1.Kids) (r : Bool), sR27 x0 x1 = some r -> Calls Tryz.prog 27 ([(.agg #[(.int .i64 x0.Op), (.int .i64 x0.Value), (.slice a0_2 x0.Kids.length n0_2)]), (.agg #[(.int .i64 x1.Op), (.int .i64 x1.Value), (.slice a1_2 x1.Kids.length n1_2)])] : List Value).toArray w0 (Bd w0 F0 fun F' v => v = (.bool r))
theorem Eg : Au Tryz.prog 27 := fun _ _ => by kernel_rfl
def DC (N : Nat) (sR27 : Expr -> Expr -> Option Bool) (x0 : Expr) (x1 : Expr) : Int -> Option (Bv Bool Int) := fun s42 =>
 (bif (decide (s42 < (x0.Kids.length : Int))) then (((idx x0.Kids s42).bind fun x77 => ((idx x1.Kids s42).bind fun x91 => ((sR27 x77 x91).bind fun r105 => some (!r105)))).bind fun j69 => (bif j69 then some (.ret false) else some (.next (W64 (s42 + 1))))) else some (.done s42))
def EF (N : Nat) (sR27 : Expr -> Expr -> Option Bool) (x0 : Expr) (x1 : Expr) : Option Bool :=
 (bif ((x0.Op != x1.Op) || ((x0.Value != x1.Value) || ((x0.Kids.length : Int) != (x1.Kids.length : Int)))) then some false else ((Be (DC N sR27 x0 x1) N 0).bind fun o => o.k (fun r => some r) (fun s50 => some true)))
theorem Mj (N : Nat) (sR27 : Expr -> Expr -> Option Bool) (hsR27 : O9 sR27) (w0 : World) (F0 : Mem) (hF : TP w0 F0) (x0 : Expr) (a0_2 : TO) (n0_2 : Nat) (hb0_2 : LC x0.Kids.length n0_2) (hs0_2 : SlA As F0 a0_2 x0.Kids) (x1 : Expr) (a1_2 : TO) (n1_2 : Nat) (hb1_2 : LC x1.Kids.length n1_2) (hs1_2 : SlA As F0 a1_2 x1.Kids) (r : Bool) (h : EF N sR27 x0 x1 = some r) :
  Calls Tryz.prog 27 ([(.agg (Ai x0 a0_2 n0_2)), (.agg (Ai x1 a1_2 n1_2))] : List Value).toArray w0 (Bd w0 F0 fun F' v => v = (.bool r)) := by
 have hs0 := Tp hF
 refine Go 46 Tryz.func27 ?_
 refine Sq (Rg [0, 1, 2] ?_)
 refine Bx' 33 (Ai x0 a0_2 n0_2) hs0 (fun b21 w22 hs23 => ?_)
 refine Bx' 33 (Ai x1 a1_2 n1_2) hs23 (fun b24 w25 hs26 => ?_)
 refine Vs 1 ?_
 refine Nss ?_
 refine Sq (Rg [0, 1, 2, 3, 4, 5, 6, 7, 8, 9, 10, 11, 12, 13, 14, 15, 16, 17, 18, 19, 20] ?_)
 refine Tt (fun f w => ∃ (F1 : Mem), HS w0 F0 w F1 [(sb b24 (Ai x1 a1_2 n1_2) 33), (sb b21 (Ai x0 a0_2 n0_2) 33)] /\ Tn F0 F1 /\ FI f [] [(2, (pt b21 0)), (3, (pt b24 0)), (26, (.bool ((x0.Op != x1.Op) || ((x0.Value != x1.Value) || ((x0.Kids.length : Int) != (x1.Kids.length : Int))))))]) ?_ ?_
 ·refine Vs 1 ?_
  refine Ld hs26.at1 ?_
  refine Vs 1 ?_
  refine Ld hs26.at0 ?_
  refine Vs 2 ?_
  refine Ts (x0.Op != x1.Op) (fun hb34 => ?_) (fun hb34 => ?_)
  ·refine Ss hb34 5 ?_
   refine Pk1 hb34 ?_
   refine Vs 1 ?_
   refine Ss (rfl : true = true) 7 ?_
   refine Pk1 (rfl : true = true) ?_
   exact Tj ⟨rfl, F0, hs26, (To _), (fJ ⟨rfl, rfl, (congrArg Value.bool (Fk hb34 rfl)), trivial⟩)⟩
  ·refine Vgs hb34 1 ?_
   refine Lg hb34 hs26.at1 ?_
   refine Vgs hb34 1 ?_
   refine Lg hb34 hs26.at0 ?_
   refine Vgs hb34 1 ?_
   refine Pk0 hb34 ?_
   refine Vs 1 ?_
   refine Ts (x0.Value != x1.Value) (fun hb35 => ?_) (fun hb35 => ?_)
   ·refine Ss hb35 7 ?_
    refine Pk1 hb35 ?_
    exact Tj ⟨rfl, F0, hs26, (To _), (fJ ⟨rfl, rfl, (congrArg Value.bool (B7 hb34 (Fk hb35 rfl))), trivial⟩)⟩
   ·refine Vgs hb35 1 ?_
    refine Lg hb35 hs26.at1 ?_
    refine Vgs hb35 2 ?_
    refine Lg hb35 hs26.at0 ?_
    refine Vgs hb35 2 ?_
    refine Pk0 hb35 ?_
    exact Tj ⟨rfl, F0, hs26, (To _), (fJ ⟨rfl, rfl, (congrArg Value.bool (B7 hb34 (B7 hb35 rfl))), trivial⟩)⟩
 ·rintro f w27 ⟨F1, hs28, le29, ⟨_, rfl⟩⟩
  refine Ad ?_
  refine Cd h (fun hb36 h37 => ?_) (fun hb36 h38 => ?_)
  ·refine Sq (Rg [0] ?_)
   refine Vs 1 ?_
   refine Nt ?_
   refine Rt ?_
   refine Aj ?_
   obtain rfl := Ab h37
   exact Re [(.bool false)] hs28 rfl
  ·refine Sc ?_
   refine Ad ?_
   refine Sq ?_
   refine Sq (Rg [0] ?_)
   refine Vs 1 ?_
   refine Nt ?_
   obtain ⟨o39, ho40, h41⟩ := bind_some h38
   refine Tu (fun f w => ∃ (s50 : Int) (F3 : Mem), o39 = .done s50 /\ HS w0 F0 w F3 [] /\ Tn F1 F3 /\ FI f [] []) ?_ ?_
   ·refine Bk ?_
    refine Tm (by kernel_rfl) (fun m f w => ∃ (s42 : Int) (F2 : Mem), Be (DC N sR27 x0 x1) m s42 = some o39 /\ HS w0 F0 w F2 [(sb b24 (Ai x1 a1_2 n1_2) 33), (sb b21 (Ai x0 a0_2 n0_2) 33)] /\ Tn F1 F2 /\ FI f [] [(2, (pt b21 0)), (3, (pt b24 0)), (5, (vi s42))]) N ⟨0, F1, ho40, hs28, (To _), fI⟩ ?_
    rintro m55 f w43 ⟨s42, F2, hit56, hs44, le45, ⟨_, rfl⟩⟩
    obtain ⟨m57, fl58, rfl, hb59, hnx60⟩ := A5 hit56
    refine Sq ?_
    refine Sq (Rg [0, 1, 2, 3, 4] ?_)
    refine Vs 2 ?_
    refine Ld hs44.at1 ?_
    refine Vs 2 ?_
    refine Nt ?_
    refine Cd hb59 (fun hb61 h62 => ?_) (fun hb61 h63 => ?_)
    ·refine Sc ?_
     refine Ad ?_
     refine Sq ?_
     refine Bk ?_
     refine Sq ?_
     obtain ⟨j69, hj75, h76⟩ := bind_some h62
     refine RD 12 12 [(sb b24 (Ai x1 a1_2 n1_2) 33), (sb b21 (Ai x0 a0_2 n0_2) 33)] [] hs44 (fun f w => ∃ (F4 : Mem), HS w0 F0 w F4 [(sb b24 (Ai x1 a1_2 n1_2) 33), (sb b21 (Ai x0 a0_2 n0_2) 33)] /\ Tn F2 F4 /\ FI f [] [(2, (pt b21 0)), (3, (pt b24 0)), (5, (vi s42)), (45, (.bool j69))]) (fun wd64 hw65 => ?_) ?_
     ·refine Dv [0] ?_
      refine Dl 1 (fun _ hq => (hq.1.2 1 _ _ rfl)) ?_
      refine Dv [2] ?_
      obtain ⟨x77, hx78, h80⟩ := bind_some hj75
      obtain ⟨hi79, hx78'⟩ := Az hx78
      obtain ⟨b81, o82, C83, E84, fz85, rfl, hF87, hE88⟩ := Tx (Tq hs0_2 (le29.trans le45)) hx78'
      obtain ⟨ae89_2, ne89_2, hc90, hbe89_2, hse89_2⟩ := (A1 (hE88 _ _ hx78'))
      refine Di 3 hi79 ?_
      refine Dx 4 0 (fun _ hq => hq.1.1 _ _ hF87) hc90 ?_
      refine Dv [5] ?_
      refine Dl 6 (fun _ hq => (hq.1.2 0 _ _ rfl)) ?_
      refine Dv [7] ?_
      obtain ⟨x91, hx92, h94⟩ := bind_some h80
      obtain ⟨hi93, hx92'⟩ := Az hx92
      obtain ⟨b95, o96, C97, E98, fz99, rfl, hF101, hE102⟩ := Tx (Tq hs1_2 (le29.trans le45)) hx92'
      obtain ⟨ae103_2, ne103_2, hc104, hbe103_2, hse103_2⟩ := (A1 (hE102 _ _ hx92'))
      refine Di 8 hi93 ?_
      refine Dx 9 0 (fun _ hq => hq.1.1 _ _ hF101) hc104 ?_
      refine D1 10 ?_
      obtain ⟨r105, hr106, h107⟩ := bind_some h94
      refine DCl Eg hw65 (hsR27 wd64 F2 hw65.pers x77 ae89_2 ne89_2 hbe89_2 hse89_2 x91 ae103_2 ne103_2 hbe103_2 hse103_2 _ hr106) ?_
      rintro _ F5 w109 hs110 le111 rfl
      refine Dv [11] ?_
      obtain rfl := Ab h107
      exact TE (by kernel_rfl) ⟨F5, hs110, le111, fI⟩
     ·rintro f w66 ⟨F4, hs67, le68, ⟨_, rfl⟩⟩
      refine Ad ?_
      refine Cd h76 (fun hb113 h114 => ?_) (fun hb113 h115 => ?_)
      ·refine Sq (Rg [0] ?_)
       refine Vs 1 ?_
       refine Nt ?_
       refine Rt ?_
       refine Ao ?_
       refine Aj ?_
       refine Aj ?_
       refine Ao ?_
       have hret := B9 h114 hnx60
       subst hret
       refine .inr ?_
       refine Aj ?_
       obtain rfl := Ab h41
       exact Re [(.bool false)] hs67 rfl
      ·refine Sc ?_
       refine AA ?_
       refine Ad ?_
       refine Rg [0, 1, 2] ?_
       refine Vs 3 ?_
       refine Tj ?_
       have hn116 := AW h115 hnx60
       exact ⟨m57, Nat.lt_succ_self _, (W64 (s42 + 1)), F4, hn116, hs67, (le45.trans le68), fI⟩
    ·refine Ex ?_
     refine AC ?_
     refine AC ?_
     refine AL rfl ?_
     have ho117 := A8 h63 hnx60
     exact .inl ⟨rfl, s42, F2, ho117, hs44.dr0.dr0, le45, fI⟩
   ·rintro f w51 ⟨s50, F3, rfl, hs52, le53, ⟨_, rfl⟩⟩
    have h118 := BT h41
    refine Ad ?_
    refine Sq (Rg [0] ?_)
    refine Vs 1 ?_
    refine Nt ?_
    refine Rt ?_
    obtain rfl := Ab h118
    exact Re [(.bool true)] hs52 rfl
structure S1 where
 q27 : Expr -> Expr -> Option Bool
def LK (N : Nat) : Nat -> S1
 | 0 => ⟨fun _ _ => none⟩
 | k + 1 => ⟨EF N (LK N k).q27⟩
theorem N5 (N : Nat) : ∀ k, O9 (LK N k).q27
 | 0 => (by unfold O9; intros; rename_i h; cases h)
 | k + 1 => by
  have ih := N5 N k
  exact @Mj N (LK N k).q27 ih
def EK (N : Nat) (x0 : Expr) (x1 : Expr) : Option Bool := (LK N N).q27 x0 x1
theorem Gu (N : Nat) (w0 : World) (F0 : Mem) (hF : TP w0 F0) (x0 : Expr) (a0_2 : TO) (n0_2 : Nat) (hb0_2 : LC x0.Kids.length n0_2) (hs0_2 : SlA As F0 a0_2 x0.Kids) (x1 : Expr) (a1_2 : TO) (n1_2 : Nat) (hb1_2 : LC x1.Kids.length n1_2) (hs1_2 : SlA As F0 a1_2 x1.Kids) (r : Bool) (h : EK N x0 x1 = some r) :
  Calls Tryz.prog 27 ([(.agg #[(.int .i64 x0.Op), (.int .i64 x0.Value), (.slice a0_2 x0.Kids.length n0_2)]), (.agg #[(.int .i64 x1.Op), (.int .i64 x1.Value), (.slice a1_2 x1.Kids.length n1_2)])] : List Value).toArray w0 (Bd w0 F0 fun F' v => v = (.bool r)) := (N5 N N) w0 F0 hF x0 a0_2 n0_2 hb0_2 hs0_2 x1 a1_2 n1_2 hb1_2 hs1_2 r h



def Ht (M : Nat) : Nat -> Expr -> Prop
 | 0, _ => False
 | n + 1, e => e.Kids.length < M /\ e.Kids.length < 9223372036854775808 /\ ∀ x, x ∈ e.Kids -> Ht M n x
theorem Ht.succ {M : Nat} : ∀ {n : Nat} {e : Expr}, Ht M n e -> Ht M (n + 1) e
 | 0, _, h => h.elim
 | n + 1, e, ⟨h1, h2, h3⟩ => ⟨h1, h2, fun x hx => (h3 x hx).succ⟩
theorem Ht.le {M n m : Nat} {e : Expr} (h : Ht M n e) (hl : n <= m) : Ht M m e := by
 induction hl with
 | refl => exact h
 | step _ ih => exact ih.succ
theorem Ht.wide {M M' : Nat} (hM : M <= M') : ∀ {n : Nat} {e : Expr}, Ht M n e -> Ht M' n e
 | 0, _, h => h.elim
 | n + 1, e, ⟨h1, h2, h3⟩ => ⟨by omega, h2, fun x hx => (h3 x hx).wide hM⟩
section
variable {α β σ ρ : Type}
theorem MT (l : List α) (g : α -> Option β) (gs : α -> β) (f : σ -> β -> σ) {body : σ × Int -> Option (Bv ρ (σ × Int))} (hg : ∀ x, x ∈ l -> g x = some (gs x))
  (hb : ∀ s i, body (s, i) = bif decide (i < (l.length : Int)) then ((idx l i).bind fun x => (g x).bind fun r => some (.next (f s r, W64 (i + 1)))) else some (.done (s, i)))
  {N : Nat} (hN : l.length < N) (hL : l.length < 9223372036854775808) (s0 : σ) : Be body N (s0, 0) = some (.done (l.foldl (fun s x => f s (gs x)) s0, (l.length : Int))) := by
 obtain ⟨o, ho, rfl⟩ := Ig (body := body) l.length (fun i s => s = ((l.take i).foldl (fun s x => f s (gs x)) s0, (i : Int))) (fun o => o = .done (l.foldl (fun s x => f s (gs x)) s0, (l.length : Int))) (by
  rintro i s hi rfl
  by_cases h : i < l.length
  ·refine .inl ⟨(f ((l.take i).foldl (fun s x => f s (gs x)) s0) (gs l[i]), ((i + 1 : Nat) : Int)), ?_, ?_, h⟩
   ·rw [hb, I7 h, cond_true, Ed h, Option.bind_some, hg _ (List.getElem_mem h), Option.bind_some, Dm (by omega)]
   ·rw [List.take_succ_eq_append_getElem h, List.foldl_append]; rfl
  ·have : i = l.length := by omega
   subst this
   refine .inr ⟨_, ?_, ?_, rfl⟩
   ·rw [hb, Jx, cond_false, List.take_length]
   ·intro s' h; cases h) l.length N 0 (s0, 0) (by omega) (by simp) hN
 exact ho
theorem Ew (l : List α) (p : α -> Bool) (ret : Nat -> ρ) {body : Int -> Option (Bv ρ Int)}
  (hb : ∀ (i : Nat) (h : i < l.length), body (i : Int) = bif p l[i] then some (.ret (ret i)) else some (.next (W64 ((i : Int) + 1)))) (he : body (l.length : Int) = some (.done (l.length : Int)))
  {N : Nat} (hN : l.length < N) (hL : l.length < 9223372036854775808) :
  Be body N 0 = some (bif l.any p then .ret (ret (l.findIdx p)) else .done (l.length : Int)) := by
 obtain ⟨o, ho, rfl⟩ := Ig (body := body) l.length (fun i s => s = (i : Int) /\ ∀ k (h : k < l.length), k < i -> p l[k] = false) (fun o => o = bif l.any p then .ret (ret (l.findIdx p)) else .done (l.length : Int)) (by
  rintro i s hi ⟨rfl, hk⟩
  by_cases h : i < l.length
  ·cases e : p l[i] with
   | false =>
    refine .inl ⟨_, by rw [hb i h, e, cond_false, Dm (by omega)], ⟨rfl, fun k hk' hki => ?_⟩, h⟩
    by_cases hki' : k = i
    ·subst hki'; exact e
    ·exact hk k hk' (by omega)
   | true =>
    refine .inr ⟨_, by rw [hb i h, e, cond_true], fun _ h => (by cases h), ?_⟩
    have h1 : l.any p = true := List.any_eq_true.2 ⟨_, List.getElem_mem h, e⟩
    have h2 : l.findIdx p = i := by
     rw [List.findIdx_eq h]
     exact ⟨e, fun k hk' => hk k (by omega) hk'⟩
    rw [h1, cond_true, h2]
  ·have : i = l.length := by omega
   subst this
   refine .inr ⟨_, he, fun _ h => (by cases h), ?_⟩
   have h1 : l.any p = false := by
    rw [List.any_eq_false]
    intro x hx
    obtain ⟨k, hk', rfl⟩ := List.getElem_of_mem hx
    rw [hk k hk' hk']; simp
   rw [h1, cond_false]) l.length N 0 0 (by omega) ⟨rfl, fun k h hk => by omega⟩ hN
 exact ho
end
def nd (e : Expr) : Int := match e with
 | ⟨_, _, ks⟩ => ks.foldl (fun s x => W64 (s + nd x)) 1
def dp (e : Expr) : Int := match e with
 | ⟨_, _, ks⟩ => W64 (ks.foldl (fun s x => max s (dp x)) 0 + 1)
theorem RY (e : Expr) : dp e = W64 (e.Kids.foldl (fun s x => max s (dp x)) 0 + 1) := by
 cases e; rw [dp]
section
variable {M : Nat}
theorem Og : ∀ {n k : Nat} {e : Expr}, Ht M n e -> n <= k -> (LI M k).q77 e = some (dp e)
 | 0, _, _, h, _ => h.elim
 | n + 1, 0, _, _, h => absurd h (by omega)
 | n + 1, k + 1, e, ⟨h1, h2, h3⟩, hk => by
  show EG M (LI M k).q77 e = _
  unfold EG
  rw [MT e.Kids (LI M k).q77 dp (fun s r => max s r) (fun x hx => Og (h3 x hx) (by omega)) (fun _ _ => rfl) h1 h2 0, RY]
  rfl
theorem Pp : ∀ {n k : Nat} {e : Expr}, Ht M n e -> n <= k -> (LJ M k).q32 e = some (dp e)
 | 0, _, _, h, _ => h.elim
 | n + 1, 0, _, _, h => absurd h (by omega)
 | n + 1, k + 1, e, ⟨h1, h2, h3⟩, hk => by
  show ED M (LJ M k).q32 e = _
  unfold ED
  rw [MT e.Kids (LJ M k).q32 dp (fun s r => max s r) (fun x hx => Pp (h3 x hx) (by omega)) (fun _ _ => rfl) h1 h2 0, RY]
  rfl
end
def kf (op : Int) : Option (Int × Int × List Int) :=
 if op = 1 then some (1000000, 1, []) else if op = 2 then some (13, 1, []) else if op = 3 then some (0, 2, [2]) else if op = 4 \/ op = 5 then some (0, 2, [2, 2])
 else if op = 6 \/ op = 7 then some (0, 2, [1, 1]) else if op = 8 \/ op = 9 \/ op = 10 then some (0, 1, [1, 1]) else if op = 11 then some (0, 1, [2, 1, 1]) else none
def S9 (op v : Int) (m : List Int) : Int := match kf op with
 | none => 0
 | some (most, own, l) => if 0 <= v /\ v <= most /\ m = l then own else 0
def kd (e : Expr) : Int := match e with
 | ⟨op, v, ks⟩ => S9 op v (ks.map fun x => kd x)
theorem RV (e : Expr) : kd e = match kf e.Op with
  | none => 0
  | some (most, own, l) => if 0 <= e.Value /\ e.Value <= most /\ e.Kids.map kd = l then own else 0 := by
 cases e; rw [kd]; rfl
theorem QD (N : Nat) (op : Int) : Fh N op = some (match kf op with | none => ({ most_ := 0, own_ := 0, kids_ := [] }, false) | some (m, o, l) => ({ most_ := m, own_ := o, kids_ := l }, true)) := by
 unfold Fh kf
 by_cases h1 : op = 1
 ·subst h1; rfl
 by_cases h2 : op = 2
 ·subst h2; rfl
 by_cases h3 : op = 3
 ·subst h3; rfl
 by_cases h4 : op = 4
 ·subst h4; rfl
 by_cases h5 : op = 5
 ·subst h5; rfl
 by_cases h6 : op = 6
 ·subst h6; rfl
 by_cases h7 : op = 7
 ·subst h7; rfl
 by_cases h8 : op = 8
 ·subst h8; rfl
 by_cases h9 : op = 9
 ·subst h9; rfl
 by_cases h10 : op = 10
 ·subst h10; rfl
 by_cases h11 : op = 11
 ·subst h11; rfl
 have b : ∀ z : Int, op ≠ z -> (op == z) = false := fun z hz => by simpa using hz
 simp only [b _ h1, b _ h2, b _ h3, b _ h4, b _ h5, b _ h6, b _ h7, b _ h8, b _ h9, b _ h10, b _ h11, cond_false, if_neg h1, if_neg h2, if_neg h3, h4, h5, h6, h7, h8, h9, h10, h11, or_self, if_false]
theorem OP {α : Type} {l : List α} {f : α -> Int} {m : List Int} (hl : l.length = m.length) : ((List.range l.length).any fun i => decide ((l.map f)[i]? ≠ m[i]?)) = decide (l.map f ≠ m) := by
 rw [Bool.eq_iff_iff]
 simp only [List.any_eq_true, List.mem_range, decide_eq_true_eq]
 constructor
 ·rintro ⟨i, _, h⟩ e; exact h (by rw [e])
 ·intro h
  apply Classical.byContradiction
  intro hn
  apply h
  apply List.ext_getElem?
  intro i
  by_cases hi : i < l.length
  ·exact Classical.byContradiction fun hne => hn ⟨i, hi, hne⟩
  ·rw [List.getElem?_eq_none (by simp; omega), List.getElem?_eq_none (by omega)]
section
variable {M : Nat}
theorem Oh : ∀ {n k : Nat} {e : Expr}, Ht M n e -> n <= k -> (I3 M k).q113 e = some (kd e)
 | 0, _, _, h, _ => h.elim
 | n + 1, 0, _, _, h => absurd h (by omega)
 | n + 1, k + 1, e, ⟨h1, h2, h3⟩, hk => by
  show D7 M (I3 M k).q113 e = _
  unfold D7
  rw [QD, Option.bind_some, RV]
  cases hf : kf e.Op with
  | none => simp only [Bool.not_false, Bool.true_or, cond_true]
  | some x =>
   obtain ⟨m, o, l⟩ := x
   simp only [Bool.not_true, Bool.false_or]
   by_cases hv : 0 <= e.Value /\ e.Value <= m /\ e.Kids.length = l.length
   ·obtain ⟨v1, v2, v3⟩ := hv
    have e1 : (decide (e.Value < 0) || (decide (e.Value > m) || (((e.Kids.length : Int)) != ((l.length : Int))))) = false := by
     simp; exact ⟨by omega, by omega, by omega⟩
    rw [e1, cond_false]
    have hit := Ew (List.range e.Kids.length) (fun i => decide ((e.Kids.map kd)[i]? ≠ l[i]?)) (fun _ => (0 : Int)) (body := Dd M (I3 M k).q113 e ({ most_ := m, own_ := o, kids_ := l }, true)) (N := M)
     (by
      intro i hi
      simp only [List.length_range] at hi
      unfold Dd
      rw [I7 hi, cond_true, Ed hi, Option.bind_some]
      simp only
      rw [Ed (show i < l.length by omega), Option.bind_some, Oh (h3 _ (List.getElem_mem hi)) (by omega)]
      simp only [Option.bind_some, List.getElem_range]
      congr 1
      rw [List.getElem?_map, List.getElem?_eq_getElem hi, List.getElem?_eq_getElem (show i < l.length by omega)]
      simp [bne, BEq.beq])
     (by
      unfold Dd
      rw [List.length_range, Jx, cond_false]) (by rw [List.length_range]; exact h1) (by rw [List.length_range]; exact h2)
    rw [hit, OP v3]
    by_cases hm : e.Kids.map kd = l
    ·simp [hm, v1, v2, Bv.k]
    ·simp [hm, Bv.k]
   ·have e1 : (decide (e.Value < 0) || (decide (e.Value > m) || (((e.Kids.length : Int)) != ((l.length : Int))))) = true := by
     simp; omega
    rw [e1, cond_true, if_neg]
    rintro ⟨a, b, c⟩
    exact hv ⟨a, b, by rw [<- c, List.length_map]⟩
end
def Bu (N : Nat) (x0 : (List Expr)) (x1 : (List Expr)) (x2 : (Expr -> Expr -> Option Bool)) : Int -> Option (Bv Bool Int) := fun s27 =>
 (bif (decide (s27 < (x0.length : Int))) then ((idx x0 s27).bind fun x51 => ((idx x1 s27).bind fun x70 => ((x2 x51 x70).bind fun r89 => (bif (!r89) then some (.ret false) else some (.next (W64 (s27 + 1))))))) else some (.done s27))
def BD (N : Nat) (x0 : (List Expr)) (x1 : (List Expr)) (x2 : (Expr -> Expr -> Option Bool)) : Option Bool :=
 (bif ((x0.length : Int) != (x1.length : Int)) then some false else ((Be (Bu N x0 x1 x2) N 0).bind fun o => o.k (fun r => some r) (fun s37 => some true)))
theorem Ck : Au Tryz.prog 214 := fun _ _ => by kernel_rfl
theorem Cs (N : Nat) (w0 : World) (F0 : Mem) (hF : TP w0 F0) (x0 : (List Expr)) (a0_0 : TO) (n0_0 : Nat) (hb0_0 : LC x0.length n0_0) (hs0_0 : SlA As F0 a0_0 x0) (x1 : (List Expr)) (a1_0 : TO) (n1_0 : Nat) (hb1_0 : LC x1.length n1_0) (hs1_0 : SlA As F0 a1_0 x1) (gx2 : FuncId) (fx2 kx2 : List Value) (x2 : Expr -> Expr -> Option Bool) (hox2 : Au Tryz.prog gx2) (hpx2 : RN F0 gx2 fx2 kx2 x2) (r : Bool) (h : BD N x0 x1 x2 = some r) :
  Calls Tryz.prog 214 ([(.slice a0_0 x0.length n0_0), (.slice a1_0 x1.length n1_0), (.func (.func gx2) fx2.toArray kx2.toArray)] : List Value).toArray w0 (Bd w0 F0 fun F' v => v = (.bool r)) := by
 have hs0 := Tp hF
 refine Go 32 Tryz.func214 ?_
 refine Sq (Rg [0] ?_)
 refine Vs 1 ?_
 refine Nss ?_
 refine Sq (Rg [0, 1, 2, 3, 4] ?_)
 refine Vs 5 ?_
 refine Nt ?_
 refine Cd h (fun hb21 h22 => ?_) (fun hb21 h23 => ?_)
 ·refine Sq (Rg [0] ?_)
  refine Vs 1 ?_
  refine Nt ?_
  refine Rt ?_
  refine Aj ?_
  obtain rfl := Ab h22
  exact Re [(.bool false)] hs0 rfl
 ·refine Sc ?_
  refine Ad ?_
  refine Sq ?_
  refine Sq (Rg [0, 1, 2] ?_)
  refine Vs 3 ?_
  refine Nt ?_
  obtain ⟨o24, ho25, h26⟩ := bind_some h23
  refine Tu (fun f w => ∃ (s37 : Int) (F2 : Mem), o24 = .done s37 /\ HS w0 F0 w F2 [] /\ Tn F0 F2 /\ FI f [] []) ?_ ?_
  ·refine Bk ?_
   refine Tm (by kernel_rfl) (fun m f w => ∃ (s27 : Int) (F1 : Mem), Be (Bu N x0 x1 x2) m s27 = some o24 /\ HS w0 F0 w F1 [] /\ Tn F0 F1 /\ FI f [] [(1, (.slice a1_0 x1.length n1_0)), (2, (.func (.func gx2) fx2.toArray kx2.toArray)), (15, (.slice a0_0 x0.length n0_0)), (16, (vi (x0.length : Int))), (17, (vi s27))]) N ⟨0, F0, ho25, hs0, (To _), fI⟩ ?_
   rintro m42 f w28 ⟨s27, F1, hit43, hs29, le30, ⟨_, rfl⟩⟩
   obtain ⟨m44, fl45, rfl, hb46, hnx47⟩ := A5 hit43
   refine Sq (Rg [0] ?_)
   refine Vs 1 ?_
   refine Nss ?_
   refine Cd hb46 (fun hb48 h49 => ?_) (fun hb48 h50 => ?_)
   ·refine Sc ?_
    refine Ad ?_
    refine Sq ?_
    refine Bk ?_
    refine Sq (Rg [0, 1, 2, 3, 4, 5] ?_)
    refine Vs 1 ?_
    obtain ⟨x51, hx52, h54⟩ := bind_some h49
    obtain ⟨hi53, hx52'⟩ := Az hx52
    obtain ⟨b55, o56, C57, E58, fz59, rfl, hF61, hE62⟩ := Tx (Tq hs0_0 le30) hx52'
    obtain ⟨ae63_2, ne63_2, hc64, hbe63_2, hse63_2⟩ := (A1 (hE62 _ _ hx52'))
    refine Ix hi53 ?_
    refine Lx 0 (hs29.pers _ _ hF61) hc64 ?_
    refine Al' 33 #[(vi 0), (vi 0), (.slice none ([] : List Expr).length 0)] hs29 (fun b65 w66 hs67 => ?_)
    refine Vs 1 ?_
    refine St0 (Ai x51 ae63_2 ne63_2) hs67 (fun w68 hs69 => ?_)
    refine Nss (Rg [0, 1, 2, 3, 4, 5] ?_)
    refine Vs 2 ?_
    obtain ⟨x70, hx71, h73⟩ := bind_some h54
    obtain ⟨hi72, hx71'⟩ := Az hx71
    obtain ⟨b74, o75, C76, E77, fz78, rfl, hF80, hE81⟩ := Tx (Tq hs1_0 le30) hx71'
    obtain ⟨ae82_2, ne82_2, hc83, hbe82_2, hse82_2⟩ := (A1 (hE81 _ _ hx71'))
    refine Ix hi72 ?_
    refine Lx 0 (hs69.pers _ _ hF80) hc83 ?_
    refine Al' 33 #[(vi 0), (vi 0), (.slice none ([] : List Expr).length 0)] hs69 (fun b84 w85 hs86 => ?_)
    refine St0 (Ai x70 ae82_2 ne82_2) hs86 (fun w87 hs88 => ?_)
    refine Nss (Rg [0, 1, 2, 3, 4] ?_)
    refine Vs 1 ?_
    refine Ld hs88.at1 ?_
    refine Ld hs88.at0 ?_
    obtain ⟨r89, hr90, h91⟩ := bind_some h73
    refine Cq hox2 hs88 (hpx2 w87 F1 x51 ae63_2 ne63_2 hbe63_2 hse63_2 x70 ae82_2 ne82_2 hbe82_2 hse82_2 _ le30 hs88.pers hr90) ?_
    rintro _ F3 w93 hs94 le95 rfl
    refine Vs 1 ?_
    refine Nt ?_
    refine Cd h91 (fun hb97 h98 => ?_) (fun hb97 h99 => ?_)
    ·refine Sq (Rg [0] ?_)
     refine Vs 1 ?_
     refine Nt ?_
     refine Rt ?_
     refine Ao ?_
     refine Aj ?_
     refine Aj ?_
     refine Ao ?_
     have hret := B9 h98 hnx47
     subst hret
     refine .inr ?_
     refine Aj ?_
     obtain rfl := Ab h26
     exact Re [(.bool false)] hs94 rfl
    ·refine Sc ?_
     refine AA ?_
     refine Ad ?_
     refine Rg [0, 1] ?_
     refine Vs 2 ?_
     refine Tj ?_
     have hn100 := AW h99 hnx47
     exact ⟨m44, Nat.lt_succ_self _, (W64 (s27 + 1)), F3, hn100, hs94.dr0.dr0, (le30.trans le95), fI⟩
   ·refine Ex ?_
    refine AC ?_
    refine AC ?_
    refine AL rfl ?_
    have ho101 := A8 h50 hnx47
    exact .inl ⟨rfl, s27, F1, ho101, hs29, le30, fI⟩
  ·rintro f w38 ⟨s37, F2, rfl, hs39, le40, ⟨_, rfl⟩⟩
   have h102 := BT h26
   refine Ad ?_
   refine Sq (Rg [0] ?_)
   refine Vs 1 ?_
   refine Nt ?_
   refine Rt ?_
   obtain rfl := Ab h102
   exact Re [(.bool true)] hs39 rfl
def Nz (sR189 : Expr -> Expr -> Option Bool) : Prop := ∀ (w0 : World) (F0 : Mem) (hF : TP w0 F0) (x0 : Expr) (a0_2 : TO) (n0_2 : Nat) (hb0_2 : LC x0.Kids.length n0_2) (hs0_2 : SlA As F0 a0_2 x0.Kids) (x1 : Expr) (a1_2 : TO) (n1_2 : Nat) (hb1_2 : LC x1.Kids.length n1_2) (hs1_2 : SlA As F0 a1_2 x1.Kids) (r : Bool), sR189 x0 x1 = some r -> Calls Tryz.prog 189 ([(.agg #[(.int .i64 x0.Op), (.int .i64 x0.Value), (.slice a0_2 x0.Kids.length n0_2)]), (.agg #[(.int .i64 x1.Op), (.int .i64 x1.Value), (.slice a1_2 x1.Kids.length n1_2)])] : List Value).toArray w0 (Bd w0 F0 fun F' v => v = (.bool r))
theorem DT : Au Tryz.prog 189 := fun _ _ => by kernel_rfl
def Jq (N : Nat) (sR189 : Expr -> Expr -> Option Bool) (x0 : Expr) (x1 : Expr) : Option Bool :=
 ((bif (x0.Op == x1.Op) then (bif (x0.Value == x1.Value) then ((BD N x0.Kids x1.Kids (fun y0 y1 => sR189 y0 y1)).bind fun r41 => some r41) else some false) else some false).bind fun j30 => some j30)
theorem MD (N : Nat) (sR189 : Expr -> Expr -> Option Bool) (hsR189 : Nz sR189) (w0 : World) (F0 : Mem) (hF : TP w0 F0) (x0 : Expr) (a0_2 : TO) (n0_2 : Nat) (hb0_2 : LC x0.Kids.length n0_2) (hs0_2 : SlA As F0 a0_2 x0.Kids) (x1 : Expr) (a1_2 : TO) (n1_2 : Nat) (hb1_2 : LC x1.Kids.length n1_2) (hs1_2 : SlA As F0 a1_2 x1.Kids) (r : Bool) (h : Jq N sR189 x0 x1 = some r) :
  Calls Tryz.prog 189 ([(.agg (Ai x0 a0_2 n0_2)), (.agg (Ai x1 a1_2 n1_2))] : List Value).toArray w0 (Bd w0 F0 fun F' v => v = (.bool r)) := by
 have hs0 := Tp hF
 refine Go 24 Tryz.func189 ?_
 refine Sq (Rg [0, 1, 2] ?_)
 refine Bx' 33 (Ai x0 a0_2 n0_2) hs0 (fun b21 w22 hs23 => ?_)
 refine Bx' 33 (Ai x1 a1_2 n1_2) hs23 (fun b24 w25 hs26 => ?_)
 refine Vs 1 ?_
 refine Nss (Rg [0, 1, 2, 3, 4, 5, 6, 7, 8, 9, 10, 11, 12, 13, 14, 15, 16, 17, 18, 19] ?_)
 obtain ⟨j30, hj33, h34⟩ := bind_some h
 refine Tt (fun f w => ∃ (F1 : Mem), HS w0 F0 w F1 [] /\ Tn F0 F1 /\ FI f [] [(4, (.bool j30))]) ?_ ?_
 ·refine Vs 1 ?_
  refine Ld hs26.at1 ?_
  refine Vs 1 ?_
  refine Ld hs26.at0 ?_
  refine Vs 2 ?_
  refine Sp hj33 (fun hb35 h36 => ?_) (fun hb35 h37 => ?_)
  ·refine Vgs hb35 1 ?_
   refine Lg hb35 hs26.at1 ?_
   refine Vgs hb35 1 ?_
   refine Lg hb35 hs26.at0 ?_
   refine Vgs hb35 1 ?_
   refine Pk1 hb35 ?_
   refine Vs 1 ?_
   refine Sp h36 (fun hb38 h39 => ?_) (fun hb38 h40 => ?_)
   ·refine Vgs hb38 1 ?_
    refine Lg hb38 hs26.at1 ?_
    refine Vgs hb38 1 ?_
    refine Lg hb38 hs26.at0 ?_
    obtain ⟨r41, hr42, h43⟩ := bind_some h39
    refine Cg hb38 Ck hs26 (Cs N w25 F0 hs26.pers x0.Kids a0_2 n0_2 hb0_2 hs0_2 x1.Kids a1_2 n1_2 hb1_2 hs1_2 189 [] [] (fun y0 y1 => sR189 y0 y1) DT (fun w1 F1 y0 ay0_2 ny0_2 hby0_2 hsy0_2 y1 ay1_2 ny1_2 hby1_2 hsy1_2 r le1 pe1 hr1 => hsR189 w1 F1 pe1  y0 ay0_2 ny0_2 hby0_2 hsy0_2 y1 ay1_2 ny1_2 hby1_2 hsy1_2  r hr1) _ hr42) ?_
    rintro _ F2 w45 hs46 le47 rfl
    refine Pk1 hb38 ?_
    refine Vs 1 ?_
    obtain rfl := Ab h43
    exact Tj ⟨rfl, F2, hs46.dr0.dr0, le47, fI⟩
   ·refine Ss hb38 5 ?_
    refine Pk0 hb38 ?_
    refine Vs 1 ?_
    obtain rfl := Ab h40
    exact Tj ⟨rfl, F0, hs26.dr0.dr0, (To _), fI⟩
  ·refine Ss hb35 5 ?_
   refine Pk0 hb35 ?_
   refine Vs 1 ?_
   refine Ss (rfl : false = false) 5 ?_
   refine Pk0 (rfl : false = false) ?_
   refine Vs 1 ?_
   obtain rfl := Ab h37
   exact Tj ⟨rfl, F0, hs26.dr0.dr0, (To _), fI⟩
 ·rintro f w27 ⟨F1, hs28, le29, ⟨_, rfl⟩⟩
  refine Ad ?_
  refine Rt ?_
  obtain rfl := Ab h34
  exact Re [(.bool j30)] hs28 rfl
structure Sv where
 q189 : Expr -> Expr -> Option Bool
def M9 (N : Nat) : Nat -> Sv
 | 0 => ⟨fun _ _ => none⟩
 | k + 1 => ⟨Jq N (M9 N k).q189⟩
theorem MK (N : Nat) : ∀ k, Nz (M9 N k).q189
 | 0 => (by unfold Nz; intros; rename_i h; cases h)
 | k + 1 => by
  have ih := MK N k
  exact @MD N (M9 N k).q189 ih
def FC (N : Nat) (x0 : Expr) (x1 : Expr) : Option Bool := (M9 N N).q189 x0 x1
theorem Fm (N : Nat) (w0 : World) (F0 : Mem) (hF : TP w0 F0) (x0 : Expr) (a0_2 : TO) (n0_2 : Nat) (hb0_2 : LC x0.Kids.length n0_2) (hs0_2 : SlA As F0 a0_2 x0.Kids) (x1 : Expr) (a1_2 : TO) (n1_2 : Nat) (hb1_2 : LC x1.Kids.length n1_2) (hs1_2 : SlA As F0 a1_2 x1.Kids) (r : Bool) (h : FC N x0 x1 = some r) :
  Calls Tryz.prog 189 ([(.agg #[(.int .i64 x0.Op), (.int .i64 x0.Value), (.slice a0_2 x0.Kids.length n0_2)]), (.agg #[(.int .i64 x1.Op), (.int .i64 x1.Value), (.slice a1_2 x1.Kids.length n1_2)])] : List Value).toArray w0 (Bd w0 F0 fun F' v => v = (.bool r)) := (MK N N) w0 F0 hF x0 a0_2 n0_2 hb0_2 hs0_2 x1 a1_2 n1_2 hb1_2 hs1_2 r h
def FX (N : Nat) (x0 : Expr) : Option Bool :=
 (((D8 N x0).bind fun r32 => (bif (r32 != 0) then ((Ga N x0).bind fun r43 => some (decide (r43 <= 32))) else some false)).bind fun j27 => some j27)
theorem FJ : Au Tryz.prog 93 := fun _ _ => by kernel_rfl
theorem Gs (N : Nat) (w0 : World) (F0 : Mem) (hF : TP w0 F0) (x0 : Expr) (a0_2 : TO) (n0_2 : Nat) (hb0_2 : LC x0.Kids.length n0_2) (hs0_2 : SlA As F0 a0_2 x0.Kids) (r : Bool) (h : FX N x0 = some r) :
  Calls Tryz.prog 93 ([(.agg (Ai x0 a0_2 n0_2))] : List Value).toArray w0 (Bd w0 F0 fun F' v => v = (.bool r)) := by
 have hs0 := Tp hF
 refine Go 11 Tryz.func93 ?_
 refine Sq (Rg [0, 1] ?_)
 refine Bx' 33 (Ai x0 a0_2 n0_2) hs0 (fun b21 w22 hs23 => ?_)
 refine Vs 1 ?_
 refine Nss (Rg [0, 1, 2, 3, 4, 5, 6, 7, 8] ?_)
 obtain ⟨j27, hj30, h31⟩ := bind_some h
 refine Tt (fun f w => ∃ (F1 : Mem), HS w0 F0 w F1 [] /\ Tn F0 F1 /\ FI f [] [(2, (.bool j27))]) ?_ ?_
 ·refine Ld hs23.at0 ?_
  obtain ⟨r32, hr33, h34⟩ := bind_some hj30
  refine Cl' DY hs23 (FQ N w22 F0 hs23.pers x0 a0_2 n0_2 hb0_2 hs0_2 _ hr33) ?_
  rintro _ F2 w36 hs37 le38 rfl
  refine Vs 2 ?_
  refine Sp h34 (fun hb40 h41 => ?_) (fun hb40 h42 => ?_)
  ·refine Lg hb40 hs37.at0 ?_
   obtain ⟨r43, hr44, h45⟩ := bind_some h41
   refine Cg hb40 FM hs37 (IR N w36 F2 hs37.pers x0 a0_2 n0_2 hb0_2 (Tq hs0_2 le38) _ hr44) ?_
   rintro _ F3 w47 hs48 le49 rfl
   refine Vgs hb40 1 ?_
   refine Pk1 hb40 ?_
   refine Vs 1 ?_
   obtain rfl := Ab h45
   exact Tj ⟨rfl, F3, hs48.dr0, (le38.trans le49), fI⟩
  ·refine Ss hb40 3 ?_
   refine Pk0 hb40 ?_
   refine Vs 1 ?_
   obtain rfl := Ab h42
   exact Tj ⟨rfl, F2, hs37.dr0, le38, fI⟩
 ·rintro f w24 ⟨F1, hs25, le26, ⟨_, rfl⟩⟩
  refine Ad ?_
  refine Rt ?_
  obtain rfl := Ab h31
  exact Re [(.bool j27)] hs25 rfl

def Jr (N : Nat) (x0 : Expr) (x1 : Int) : Option Bool :=
 (((FX N x0).bind fun r32 => (bif r32 then ((D8 N x0).bind fun r43 => some (r43 == x1)) else some false)).bind fun j27 => some j27)
theorem HF : Au Tryz.prog 124 := fun _ _ => by kernel_rfl
theorem Jf (N : Nat) (w0 : World) (F0 : Mem) (hF : TP w0 F0) (x0 : Expr) (a0_2 : TO) (n0_2 : Nat) (hb0_2 : LC x0.Kids.length n0_2) (hs0_2 : SlA As F0 a0_2 x0.Kids) (x1 : Int) (r : Bool) (h : Jr N x0 x1 = some r) :
  Calls Tryz.prog 124 ([(.agg (Ai x0 a0_2 n0_2)), (vi x1)] : List Value).toArray w0 (Bd w0 F0 fun F' v => v = (.bool r)) := by
 have hs0 := Tp hF
 refine Go 13 Tryz.func124 ?_
 refine Sq (Rg [0, 1] ?_)
 refine Bx' 33 (Ai x0 a0_2 n0_2) hs0 (fun b21 w22 hs23 => ?_)
 refine Vs 1 ?_
 refine Nss (Rg [0, 1, 2, 3, 4, 5, 6, 7, 8] ?_)
 obtain ⟨j27, hj30, h31⟩ := bind_some h
 refine Tt (fun f w => ∃ (F1 : Mem), HS w0 F0 w F1 [] /\ Tn F0 F1 /\ FI f [] [(4, (.bool j27))]) ?_ ?_
 ·refine Ld hs23.at0 ?_
  obtain ⟨r32, hr33, h34⟩ := bind_some hj30
  refine Cl' FJ hs23 (Gs N w22 F0 hs23.pers x0 a0_2 n0_2 hb0_2 hs0_2 _ hr33) ?_
  rintro _ F2 w36 hs37 le38 rfl
  refine Vs 1 ?_
  refine Sp h34 (fun hb40 h41 => ?_) (fun hb40 h42 => ?_)
  ·refine Lg hb40 hs37.at0 ?_
   obtain ⟨r43, hr44, h45⟩ := bind_some h41
   refine Cg hb40 DY hs37 (FQ N w36 F2 hs37.pers x0 a0_2 n0_2 hb0_2 (Tq hs0_2 le38) _ hr44) ?_
   rintro _ F3 w47 hs48 le49 rfl
   refine Vgs hb40 2 ?_
   refine Pk1 hb40 ?_
   refine Vs 1 ?_
   obtain rfl := Ab h45
   exact Tj ⟨rfl, F3, hs48.dr0, (le38.trans le49), fI⟩
  ·refine Ss hb40 4 ?_
   refine Pk0 hb40 ?_
   refine Vs 1 ?_
   obtain rfl := Ab h42
   exact Tj ⟨rfl, F2, hs37.dr0, le38, fI⟩
 ·rintro f w24 ⟨F1, hs25, le26, ⟨_, rfl⟩⟩
  refine Ad ?_
  refine Rt ?_
  obtain rfl := Ab h31
  exact Re [(.bool j27)] hs25 rfl

def FV (N : Nat) (x0 : Clause) : Option Bool :=
 (((Jr N x0.When 2).bind fun r32 => (bif r32 then ((Jr N x0.Then 1).bind fun r43 => some r43) else some false)).bind fun j27 => some j27)
theorem Hy : Au Tryz.prog 123 := fun _ _ => by kernel_rfl
theorem Iq (N : Nat) (w0 : World) (F0 : Mem) (hF : TP w0 F0) (x0 : Clause) (a0_2 : TO) (n0_2 : Nat) (hb0_2 : LC x0.When.Kids.length n0_2) (hs0_2 : SlA As F0 a0_2 x0.When.Kids) (a0_5 : TO) (n0_5 : Nat) (hb0_5 : LC x0.Then.Kids.length n0_5) (hs0_5 : SlA As F0 a0_5 x0.Then.Kids) (r : Bool) (h : FV N x0 = some r) :
  Calls Tryz.prog 123 ([(.agg (JB x0 a0_2 n0_2 a0_5 n0_5))] : List Value).toArray w0 (Bd w0 F0 fun F' v => v = (.bool r)) := by
 have hs0 := Tp hF
 refine Go 11 Tryz.func123 ?_
 refine Sq (Rg [0, 1] ?_)
 refine Bx' 56 (JB x0 a0_2 n0_2 a0_5 n0_5) hs0 (fun b21 w22 hs23 => ?_)
 refine Vs 1 ?_
 refine Nss (Rg [0, 1, 2, 3, 4, 5, 6, 7, 8] ?_)
 obtain ⟨j27, hj30, h31⟩ := bind_some h
 refine Tt (fun f w => ∃ (F1 : Mem), HS w0 F0 w F1 [] /\ Tn F0 F1 /\ FI f [] [(2, (.bool j27))]) ?_ ?_
 ·refine Vs 1 ?_
  refine Ld hs23.at0 ?_
  obtain ⟨r32, hr33, h34⟩ := bind_some hj30
  refine Cl' HF hs23 (Jf N w22 F0 hs23.pers x0.When a0_2 n0_2 hb0_2 hs0_2 2 _ hr33) ?_
  rintro _ F2 w36 hs37 le38 rfl
  refine Vs 1 ?_
  refine Sp h34 (fun hb40 h41 => ?_) (fun hb40 h42 => ?_)
  ·refine Vgs hb40 1 ?_
   refine Lg hb40 hs37.at0 ?_
   obtain ⟨r43, hr44, h45⟩ := bind_some h41
   refine Cg hb40 HF hs37 (Jf N w36 F2 hs37.pers x0.Then a0_5 n0_5 hb0_5 (Tq hs0_5 le38) 1 _ hr44) ?_
   rintro _ F3 w47 hs48 le49 rfl
   refine Pk1 hb40 ?_
   refine Vs 1 ?_
   obtain rfl := Ab h45
   exact Tj ⟨rfl, F3, hs48.dr0, (le38.trans le49), fI⟩
  ·refine Ss hb40 3 ?_
   refine Pk0 hb40 ?_
   refine Vs 1 ?_
   obtain rfl := Ab h42
   exact Tj ⟨rfl, F2, hs37.dr0, le38, fI⟩
 ·rintro f w24 ⟨F1, hs25, le26, ⟨_, rfl⟩⟩
  refine Ad ?_
  refine Rt ?_
  obtain rfl := Ab h31
  exact Re [(.bool j27)] hs25 rfl

theorem So {l : List Expr} {t : Int} : l.any (fun x => kd x != t) = !(decide (l.map kd = List.replicate l.length t)) := by
 induction l with
 | nil => rfl
 | cons x r ih =>
  rw [List.any_cons, ih, List.map_cons, List.length_cons, List.replicate_succ]
  by_cases h : kd x = t <;> simp [h]
section
variable {M : Nat}
theorem LV {q : Expr -> Option Int} {e : Expr} {t : Int} (hq : ∀ x, x ∈ e.Kids -> q x = some (kd x)) (h1 : e.Kids.length < M) (h2 : e.Kids.length < 9223372036854775808) {body : Int -> Option (Bv Bool Int)}
  (hb : ∀ s, body s = bif (decide (s < (e.Kids.length : Int))) then ((idx e.Kids s).bind fun x => ((q x).bind fun r => (bif (r != t) then some (.ret false) else some (.next (W64 (s + 1)))))) else some (.done s)) :
  ((Be body M 0).bind fun o => o.k (fun r => some r) (fun _ => some true)) = some (decide (e.Kids.map kd = List.replicate e.Kids.length t)) := by
 rw [Ew e.Kids (fun x => kd x != t) (fun _ => false) (fun i hi => by
  rw [hb, I7 hi, cond_true, Ed hi, Option.bind_some, hq _ (List.getElem_mem hi), Option.bind_some]) (by rw [hb, Jx, cond_false]) h1 h2, So]
 cases decide (e.Kids.map kd = List.replicate e.Kids.length t) <;> rfl
theorem N8 {a b : Nat} : ((a : Int) != (b : Int)) = decide (a ≠ b) := by
 by_cases h : a = b
 ·subst h; simp
 ·simp [h]; omega
theorem MG {k : Nat} {e : Expr} {t : Int} {c : Nat} {L : Int -> Option (Bv Bool Int)} (hL : (e.Kids.length = c) -> ((Be L M 0).bind fun o => o.k (fun r => some r) (fun _ => some true)) = some (decide (e.Kids.map kd = List.replicate e.Kids.length t))) :
  (bif (((e.Kids.length : Int) != (c : Int)) || (e.Value != 0)) then some false else ((Be L M 0).bind fun o => o.k (fun r => some r) (fun _ => some true))) = some (decide (e.Value = 0 /\ e.Kids.map kd = List.replicate c t)) := by
 rw [N8]
 by_cases h : e.Kids.length = c
 ·by_cases hv : e.Value = 0
  ·have : (decide (e.Kids.length ≠ c) || (e.Value != 0)) = false := by simp [h, hv]
   rw [this, cond_false, hL h, h]
   simp [hv]
  ·have : (decide (e.Kids.length ≠ c) || (e.Value != 0)) = true := by simp [hv]
   rw [this, cond_true]; simp [hv]
 ·have : (decide (e.Kids.length ≠ c) || (e.Value != 0)) = true := by simp [h]
  rw [this, cond_true]
  have : ¬ e.Kids.map kd = List.replicate c t := fun he => h (by have := congrArg List.length he; simpa using this)
  simp [this]
theorem OQ : ∀ {n k : Nat} {e : Expr}, Ht M n e -> 2 * n <= k -> 4 <= M -> (Cw M k).q117 e = some (kd e)
 | 0, _, _, h, _, _ => h.elim
 | n + 1, 0, _, _, h, _ => absurd h (by omega)
 | n + 1, 1, _, _, h, _ => absurd h (by omega)
 | n + 1, k + 2, e, ⟨h1, h2, h3⟩, hk, hM => by
  have hq : ∀ x, x ∈ e.Kids -> (Cw M (k + 1)).q117 x = some (kd x) := fun x hx => OQ (h3 x hx) (by omega) hM
  have hq' : ∀ x, x ∈ e.Kids -> (Cw M k).q117 x = some (kd x) := fun x hx => OQ (h3 x hx) (by omega) hM
  have ht : ∀ c : Nat, (Cw M (k + 1)).q170 e (c : Int) = some (decide (e.Value = 0 /\ e.Kids.map kd = List.replicate c 2)) := fun c => by
   show Ea M (Cw M k).q117 e c = _
   unfold Ea
   exact MG (k := k) fun hc => LV hq' h1 h2 fun s => by unfold EY; rw [hc]
  have hn : ∀ c : Nat, (Cw M (k + 1)).q171 e (c : Int) = some (decide (e.Value = 0 /\ e.Kids.map kd = List.replicate c 1)) := fun c => by
   show DW M (Cw M k).q117 e c = _
   unfold DW
   exact MG (k := k) fun hc => LV hq' h1 h2 fun s => by unfold Eu; rw [hc]
  have ht1 := ht 1
  have ht2 := ht 2
  have hn2 := hn 2
  rw [show ((1 : Nat) : Int) = 1 from rfl] at ht1
  rw [show ((2 : Nat) : Int) = 2 from rfl] at ht2 hn2
  show Fj M (Cw M (k + 1)).q117 (Cw M (k + 1)).q170 (Cw M (k + 1)).q171 e = _
  unfold Fj
  rw [RV]
  unfold kf
  by_cases h1 : e.Op = 1
  ·simp only [h1, beq_self_eq_true, cond_true, Option.bind_some, if_true]
   by_cases hv : 0 <= e.Value /\ e.Value <= 1000000 /\ e.Kids = []
   ·obtain ⟨a, b, c⟩ := hv
    simp [a, b, c]
   ·rw [if_neg (by rintro ⟨a, b, c⟩; exact hv ⟨a, b, by simpa using c⟩)]
    have : ((e.Kids.length : Int) == 0 && (decide (e.Value >= 0) && decide (e.Value <= 1000000))) = false := by
     rw [Bool.eq_false_iff]
     intro h
     simp only [Bool.and_eq_true, decide_eq_true_eq, beq_iff_eq] at h
     exact hv ⟨h.2.1, h.2.2, List.length_eq_zero_iff.1 (by omega)⟩
    rw [this]; rfl
  by_cases h2 : e.Op = 2
  ·simp only [h2, beq_self_eq_true, cond_true, Option.bind_some, if_true]
   by_cases hv : 0 <= e.Value /\ e.Value <= 13 /\ e.Kids = []
   ·obtain ⟨a, b, c⟩ := hv
    have b' : e.Value < 14 := by omega
    simp [a, b, b', c]
   ·rw [show (if (2 : Int) = 1 then some ((1000000 : Int), (1 : Int), ([] : List Int)) else some (13, 1, [])) = some (13, 1, []) from by decide]
    simp only
    rw [if_neg (by rintro ⟨a, b, c⟩; exact hv ⟨a, b, by simpa using c⟩)]
    have : ((e.Kids.length : Int) == 0 && (decide (e.Value >= 0) && decide (e.Value < 14))) = false := by
     rw [Bool.eq_false_iff]
     intro h
     simp only [Bool.and_eq_true, decide_eq_true_eq, beq_iff_eq] at h
     exact hv ⟨h.2.1, by omega, List.length_eq_zero_iff.1 (by omega)⟩
    rw [this]; rfl
  have b : ∀ z : Int, e.Op ≠ z -> (e.Op == z) = false := fun z hz => by simpa using hz
  have hz : ∀ l : List Int, (0 <= e.Value /\ e.Value <= 0 /\ e.Kids.map kd = l) ↔ (e.Value = 0 /\ e.Kids.map kd = l) := fun l => ⟨fun ⟨a, b, c⟩ => ⟨by omega, c⟩, fun ⟨a, c⟩ => ⟨by omega, by omega, c⟩⟩
  have fin : ∀ (c : Bool) (f : Int), (bif c then some f else some 0) = some (if c = true then f else 0) := fun c f => by cases c <;> rfl
  by_cases h3 : e.Op = 3
  ·simp only [h3, b _ h1, b _ h2, ht1, cond_false, beq_self_eq_true, cond_true, Option.bind_some]
   simp only [show ¬ (3 : Int) = 1 from by decide, show ¬ (3 : Int) = 2 from by decide, if_false, if_true, hz, List.replicate]
   by_cases hd : e.Value = 0 /\ e.Kids.map kd = [2]
   ·rw [if_pos hd, decide_eq_true hd]; rfl
   ·rw [if_neg hd, decide_eq_false hd]; rfl
  by_cases h4 : e.Op = 4 \/ e.Op = 5
  ·have hc : (bif e.Op == 4 then e.Op == 4 else e.Op == 5) = true := by rcases h4 with h | h <;> rw [h] <;> rfl
   simp only [b _ h1, b _ h2, b _ h3, hc, ht2, cond_false, beq_self_eq_true, cond_true, Option.bind_some, if_neg h1, if_neg h2, if_neg h3, if_pos h4, hz, List.replicate]
   by_cases hd : e.Value = 0 /\ e.Kids.map kd = [2, 2]
   ·rw [if_pos hd, decide_eq_true hd]; rfl
   ·rw [if_neg hd, decide_eq_false hd]; rfl
  by_cases h6 : e.Op = 6 \/ e.Op = 7
  ·have h4' := not_or.1 h4
   have hc : (bif e.Op == 6 then e.Op == 6 else e.Op == 7) = true := by rcases h6 with h | h <;> rw [h] <;> rfl
   simp only [b _ h1, b _ h2, b _ h3, b _ h4'.1, b _ h4'.2, hc, hn2, cond_false, beq_self_eq_true, cond_true, Option.bind_some, if_neg h1, if_neg h2, if_neg h3, if_neg h4, if_pos h6, hz, List.replicate]
   by_cases hd : e.Value = 0 /\ e.Kids.map kd = [1, 1]
   ·rw [if_pos hd, decide_eq_true hd]; rfl
   ·rw [if_neg hd, decide_eq_false hd]; rfl
  by_cases h8 : e.Op = 8 \/ e.Op = 9 \/ e.Op = 10
  ·have h4' := not_or.1 h4
   have h6' := not_or.1 h6
   have hc : (bif e.Op == 8 then e.Op == 8 else bif e.Op == 9 then e.Op == 9 else e.Op == 10) = true := by rcases h8 with h | h | h <;> rw [h] <;> rfl
   simp only [b _ h1, b _ h2, b _ h3, b _ h4'.1, b _ h4'.2, b _ h6'.1, b _ h6'.2, hc, hn2, cond_false, beq_self_eq_true, cond_true, Option.bind_some, if_neg h1, if_neg h2, if_neg h3, if_neg h4, if_neg h6, if_pos h8, hz, List.replicate]
   by_cases hd : e.Value = 0 /\ e.Kids.map kd = [1, 1]
   ·rw [if_pos hd, decide_eq_true hd]; rfl
   ·rw [if_neg hd, decide_eq_false hd]; rfl
  have h4' := not_or.1 h4
  have h6' := not_or.1 h6
  have h8' := not_or.1 h8
  have h9' := not_or.1 h8'.2
  by_cases h11 : e.Op = 11
  ·simp only [b _ h1, b _ h2, b _ h3, b _ h4'.1, b _ h4'.2, b _ h6'.1, b _ h6'.2, b _ h8'.1, b _ h9'.1, b _ h9'.2, cond_false, if_neg h1, if_neg h2, if_neg h3, if_neg h4, if_neg h6, if_neg h8, if_pos h11]
   simp only [h11, beq_self_eq_true, cond_true]
   have fin : ∀ (o : Option Bool) (c : Bool), o = some c -> ((((o.bind fun j208 => some j208).bind fun j176 => some (j176, false)).bind fun j135 : Bool × Bool => some (j135.1, j135.2)).bind fun j27 => (bif j27.1 then some (1 : Int) else (bif j27.2 then some 2 else some 0))) = some (if c = true then 1 else 0) := by
    rintro _ c rfl; cases c <;> rfl
   by_cases hv : e.Value = 0
   ·by_cases hl : e.Kids.length = 3
    ·obtain ⟨a, b', c, hk⟩ : ∃ a b c, e.Kids = [a, b, c] := by
      match he : e.Kids, hl with
      | [a, b, c], _ => exact ⟨a, b, c, rfl⟩
     have qa := hq a (by rw [hk]; simp)
     have qb := hq b' (by rw [hk]; simp)
     have qc := hq c (by rw [hk]; simp)
     have i0 : idx e.Kids 0 = some a := by rw [hk]; rfl
     have i1 : idx e.Kids 1 = some b' := by rw [hk]; rfl
     have i2 : idx e.Kids 2 = some c := by rw [hk]; rfl
     have el : ((e.Kids.length : Int) == 3) = true := by rw [hl]; rfl
     simp only [hv, el, i0, i1, i2, qa, qb, qc, beq_self_eq_true, cond_true, Option.bind_some]
     rw [hk]
     simp only [List.map_cons, List.map_nil, List.cons.injEq, and_true, Int.le_refl, true_and]
     by_cases ka : kd a = 2 <;> by_cases kb : kd b' = 1 <;> by_cases kc : kd c = 1 <;> simp [ka, kb, kc, Bool.cond_eq_ite]
    ·have el : ((e.Kids.length : Int) == 3) = false := by simp; omega
     simp only [hv, el, beq_self_eq_true, cond_true, cond_false, Option.bind_some]
     rw [if_neg (by rintro ⟨_, _, c⟩; exact hl (by have := congrArg List.length c; simpa using this))]
   ·have ev : (e.Value == 0) = false := by simpa using hv
    simp only [ev, cond_false, Option.bind_some]
    rw [if_neg (by rintro ⟨a, b, _⟩; exact hv (by omega))]
  ·simp only [b _ h1, b _ h2, b _ h3, b _ h4'.1, b _ h4'.2, b _ h6'.1, b _ h6'.2, b _ h8'.1, b _ h9'.1, b _ h9'.2, b _ h11, cond_false, if_neg h1, if_neg h2, if_neg h3, if_neg h4, if_neg h6, if_neg h8, if_neg h11, Option.bind_some]
end

theorem QL {a b : Expr} (h1 : a.Op = b.Op) (h2 : a.Value = b.Value) (h3 : a.Kids = b.Kids) : a = b := by
 obtain ⟨_, _, _⟩ := a; obtain ⟨_, _, _⟩ := b; simp only at h1 h2 h3; subst h1 h2 h3; rfl
noncomputable def eqv (a b : Expr) : Bool := @decide (a = b) (Classical.propDecidable _)
theorem LZ {a b : Expr} : eqv a b = true ↔ a = b := by unfold eqv; simp
theorem MV {a b : Expr} : eqv a b = false ↔ a ≠ b := by unfold eqv; simp
theorem J0 (a : Expr) : eqv a a = true := LZ.2 rfl
theorem Pv {l m : List Expr} (h : l.length = m.length) : ((List.range l.length).any fun i => !((l[i]?.bind fun x => m[i]?.map fun y => eqv x y) == some true)) = false ↔ l = m := by
 constructor
 ·intro hn
  apply List.ext_getElem h
  intro i h1 h2
  rw [List.any_eq_false] at hn
  have := hn i (by simpa using h1)
  rw [List.getElem?_eq_getElem h1, List.getElem?_eq_getElem h2] at this
  simpa [LZ] using this
 ·rintro rfl
  rw [List.any_eq_false]
  intro i hi
  rw [List.getElem?_eq_getElem (by simpa using hi)]
  simp [J0]
section
variable {M : Nat}
theorem Po : ∀ {n k : Nat} {a b : Expr}, Ht M n a -> n <= k -> (LK M k).q27 a b = some (eqv a b)
 | 0, _, _, _, h, _ => h.elim
 | n + 1, 0, _, _, _, h => absurd h (by omega)
 | n + 1, k + 1, a, b, ⟨h1, h2, h3⟩, hk => by
  show EF M (LK M k).q27 a b = _
  unfold EF
  by_cases hc : a.Op = b.Op /\ a.Value = b.Value /\ a.Kids.length = b.Kids.length
  ·obtain ⟨c1, c2, c3⟩ := hc
   have : ((a.Op != b.Op) || ((a.Value != b.Value) || ((a.Kids.length : Int) != (b.Kids.length : Int)))) = false := by simp [c1, c2, c3]
   rw [this, cond_false]
   have hit := Ew (List.range a.Kids.length) (fun i => !((a.Kids[i]?.bind fun x => b.Kids[i]?.map fun y => eqv x y) == some true)) (fun _ => false) (body := DC M (LK M k).q27 a b) (N := M)
    (by
     intro i hi
     simp only [List.length_range] at hi
     unfold DC
     rw [I7 hi, cond_true, Ed hi, Option.bind_some, Ed (show i < b.Kids.length by omega), Option.bind_some, Po (h3 _ (List.getElem_mem hi)) (by omega)]
     simp only [Option.bind_some, List.getElem_range]
     rw [List.getElem?_eq_getElem hi, List.getElem?_eq_getElem (show i < b.Kids.length by omega)]
     simp only [Option.bind_some, Option.map_some]
     cases eqv a.Kids[i] b.Kids[i] <;> rfl)
    (by unfold DC; rw [List.length_range, Jx, cond_false]) (by rw [List.length_range]; exact h1) (by rw [List.length_range]; exact h2)
   rw [hit]
   cases ha : (List.range a.Kids.length).any fun i => !((a.Kids[i]?.bind fun x => b.Kids[i]?.map fun y => eqv x y) == some true) with
   | false =>
    have := (Pv c3).1 ha
    have : eqv a b = true := LZ.2 (QL c1 c2 this)
    rw [this]; rfl
   | true =>
    have : eqv a b = false := MV.2 (by
     rintro rfl
     have := (Pv (l := a.Kids) (m := a.Kids) rfl).2 rfl
     rw [ha] at this; cases this)
    rw [this]; rfl
  ·have : ((a.Op != b.Op) || ((a.Value != b.Value) || ((a.Kids.length : Int) != (b.Kids.length : Int)))) = true := by
    rw [N8]
    apply Classical.byContradiction
    intro hn
    rw [Bool.not_eq_true, Bool.or_eq_false_iff, Bool.or_eq_false_iff] at hn
    simp at hn
    exact hc hn
   rw [this, cond_true]
   have : eqv a b = false := MV.2 (by rintro rfl; exact hc ⟨rfl, rfl, rfl⟩)
   rw [this]
end
def Fit (N : Nat) (e : Expr) : Prop := ∃ n, Ht N n e /\ 2 * n + 10 <= N
section
variable {N : Nat} {e : Expr} (h : Fit N e)
include h
theorem Ql : Hp N e = some (dp e) := by obtain ⟨n, h1, h2⟩ := h; exact Og h1 (by omega)
theorem Rb : Ga N e = some (dp e) := by obtain ⟨n, h1, h2⟩ := h; exact Pp h1 (by omega)
theorem Qm : D8 N e = some (kd e) := by obtain ⟨n, h1, h2⟩ := h; exact Oh h1 (by omega)
theorem R4 : I2 N e = some (kd e) := by obtain ⟨n, h1, h2⟩ := h; exact OQ h1 (by omega) (by omega)
theorem M6 (b : Expr) : EK N e b = some (eqv e b) := by obtain ⟨n, h1, h2⟩ := h; exact Po h1 (by omega)
end
section
variable {N : Nat} {e : Expr} (h : Fit N e)
include h
end
section
open Go.ChangeShapes Go.WideShapes Go.ChangeAt Go.RowKit
end

theorem BZ {a b : Bool} (ha : a = true) (hb : b = true) : (a && b) = true := by rw [ha, hb]; rfl
set_option maxRecDepth 100000 in
theorem Td : (laidOutB Tryz.pinned.checked.prog) = true := by kernel_rfl
set_option maxRecDepth 100000 in
theorem Tc : (mapsRowed Tryz.pinned.checked.prog) = true := by kernel_rfl
set_option maxRecDepth 100000 in
theorem Tb : ((Tryz.pinned.checked.prog.stops == [])) = true := by kernel_rfl
set_option maxRecDepth 100000 in
theorem Ta : ((Tryz.pinned.checked.prog.stopKnobs == [])) = true := by kernel_rfl
set_option maxRecDepth 100000 in
theorem SR : ((Rows.rulesParsesRow.plainKeys == Tryz.pinned.checked.prog.plainKeys)) = true := by kernel_rfl
set_option maxRecDepth 100000 in
theorem SQ : (Tryz.pinned.checked.prog.stopsHeard) = true := by kernel_rfl
set_option maxRecDepth 100000 in
theorem SP : (Tryz.pinned.checked.prog.mayEnter) = true := by kernel_rfl
set_option maxRecDepth 100000 in
theorem SO : ((Rows.rulesParsesRow.lifted == Tryz.pinned.checked.prog.liftsFinal)) = true := by kernel_rfl
set_option maxRecDepth 100000 in
theorem SN : ((Tryz.pinned.checked.prog.make == some Rows.rulesParsesRow.make)) = true := by kernel_rfl
theorem RJ : Tryz.pinned.checked.prog.mainIs = some (true, "9ef67a4cb07571d798ed60e513598468ebe5a66f3455e0900720288bced703b8".toList) := by kernel_rfl
theorem QJ : true = Tryz.pinned.checked.prog.looks [] := by kernel_rfl
def J1 (m : ∀ {σ : Type}, (σ -> An -> Option (Bool × σ)) -> σ -> Option σ) : Option (List An) := m (fun st x => (CU st [x]).map fun t => (true, t)) ([] : List An)
theorem Il : Au Tryz.prog 179 := fun _ _ => by kernel_rfl
theorem Jc (w0 : World) (F0 : Mem) (hF : TP w0 F0) (gf : FuncId) (cap : List Value) (m : ∀ {σ : Type}, (σ -> An -> Option (Bool × σ)) -> σ -> Option σ) (hgf : Au Tryz.prog gf) (hseq : Ot Tryz.prog gf cap F0 [] Nj Pj Ph m) (r : (List An)) (h : J1 m = some r) :
  Calls Tryz.prog 179 ([.slice none 0 0, (.func (.func gf) #[] cap.toArray)] : List Value).toArray w0 (Bd w0 F0 fun F' v => ∃ (aq0_0 : TO) (nq0_0 : Nat), v = (.slice aq0_0 r.length nq0_0) /\ LC r.length nq0_0 /\ SlA Al F' aq0_0 r) := by
 have hs0 := Tp hF
 refine P6 (n := 13) (c := CT Tryz.f179) Tryz.func179 (by kernel_rfl) (by kernel_rfl) (by kernel_rfl) ?_
 refine Sq ?_
 refine Rg [0, 1] ?_
 refine RWP.box (dst := (some 2)) (ty := 0) (g := none) (by kernel_rfl) rfl (x := (.tmp 0)) (t := 98) (v := (.slice none ([] : List An).length 0)) rfl (C := #[(.slice none ([] : List An).length 0)]) rfl hs0 (fun b1 w2 (hs3 : HS w0 F0 w2 F0 [(some b1, (.cells #[(.slice none ([] : List An).length 0)] 98 (0, 0)))]) => ?_)
 refine V 4 98 (AM (x := (.const (.slice none 0 0))) (v := (.slice none ([] : List An).length 0)) rfl) ?_
 refine Tj ?_
 refine Ad ?_
 refine Sq ?_
 refine Sq ?_
 refine Rg [0] ?_
 refine V 6 162 (Bb (x := (.tmp 1)) (v := (.func (.func gf) #[] cap.toArray)) rfl) ?_
 refine Tj ?_
 refine Ad ?_
 refine CWP.block (by kernel_rfl) ?_
 have hs4 : HS w0 F0 w2 F0 [(none, .cells #[] 0 (0, 0)), (some b1, (.cells #[(.slice none ([] : List An).length 0)] 98 (0, 0)))] := hs3.dummy _
 obtain ⟨r14, hr15, h16⟩ : ∃ r14, J1 m = some r14 /\ some r14 = some r := ⟨r, h, rfl⟩
 refine CWP.rangeFunc (enc := Nj) (ok := Pj) (px := Ph) (m := fun {_} y s => m y s) (L := [(none, .cells #[] 0 (0, 0)), (some b1, (.cells #[(.slice none ([] : List An).length 0)] 98 (0, 0)))]) (B := []) (ps := [7]) (by kernel_rfl) (gf := gf) (cap := cap) rfl hgf rfl (by kernel_rfl) (by kernel_rfl) (fun _ => rfl) hs4 hseq (fun st x => (CU st [x]).map fun t => (true, t)) (fun (s6 : (List An)) (F1 : Mem) (Lq : Own) => ∃ (as6_0 : TO) (ns6_0 : Nat) (es6_0 : Option Nat × Obj), Lq = [es6_0, (some b1, (.cells #[(.slice as6_0 s6.length ns6_0)] 98 (0, 0)))] /\ Av Al 97 F1 as6_0 ns6_0 s6 es6_0) ?_ (s := ([] : List An)) (r := r14) ?_ hr15 (fun _ _ _ h => (Oe h).1) ?_ ?_
 ·
  rintro s F F' L ⟨as6_0, ns6_0, es6_0, rfl, hrs6_0⟩ hl
  exact ⟨as6_0, ns6_0, es6_0, rfl, (hrs6_0.mono hl)⟩
 ·
  exact ⟨none, 0, (none, .cells #[] 0 (0, 0)), rfl, (TG Al 97 F0 _)⟩
 ·
  rintro l17 s6 x19 w20 F1 _ Rf22 ⟨q0, q23⟩ le24 ok25 ⟨as6_0, ns6_0, es6_0, rfl, hrs6_0⟩ hs26 hy27
  have h28 := (Oe hy27).2
  have hs29 : HS w0 F0 w20 F1 (es6_0 :: (some b1, (.cells #[(.slice as6_0 s6.length ns6_0)] 98 (0, 0))) :: Rf22) := hs26
  refine Rg [0, 1] ?_
  refine Tv (dst := (some 5)) (ty := 0) (g := none) (by kernel_rfl) rfl (t := 97) (z := (.agg #[(.int .i64 0), (.int .i64 0), (.string ⟨(([] : TN)).toArray⟩)])) (by kernel_rfl) (C := #[(.int .i64 0), (.int .i64 0), (.string ⟨(([] : TN)).toArray⟩)]) rfl hs29 (fun b30 w31 (hs32 : HS w0 F0 w31 F1 ((some b30, (.cells #[(.int .i64 0), (.int .i64 0), (.string ⟨(([] : TN)).toArray⟩)] 97 (0, 0))) :: es6_0 :: (some b1, (.cells #[(.slice as6_0 s6.length ns6_0)] 98 (0, 0))) :: Rf22)) => ?_)
  refine Tw (ty := 0) (g := none) (by kernel_rfl) rfl (x := (.tmp 5)) (y := (.tmp 7)) (t := 97) (gg := true) (s := 3) (v := (.agg #[(.int .i64 x19.kind_), (.int .i64 x19.at_), (.string ⟨(x19.text_).toArray⟩)])) (b := b30) (o := 0) (C := #[(.int .i64 0), (.int .i64 0), (.string ⟨(([] : TN)).toArray⟩)]) rfl rfl (by kernel_rfl) hs32 (k := 0) rfl rfl rfl rfl (C' := #[(.int .i64 x19.kind_), (.int .i64 x19.at_), (.string ⟨(x19.text_).toArray⟩)]) rfl (fun w33 (hs34 : HS w0 F0 w33 F1 ((some b30, (.cells #[(.int .i64 x19.kind_), (.int .i64 x19.at_), (.string ⟨(x19.text_).toArray⟩)] 97 (0, 0))) :: es6_0 :: (some b1, (.cells #[(.slice as6_0 s6.length ns6_0)] 98 (0, 0))) :: Rf22)) => ?_)
  refine Tj ?_
  refine ⟨rfl, F1, [(some b30, (.cells #[(.int .i64 x19.kind_), (.int .i64 x19.at_), (.string ⟨(x19.text_).toArray⟩)] 97 (0, 0))), es6_0, (some b1, (.cells #[(.slice as6_0 s6.length ns6_0)] 98 (0, 0)))], hs34, fun w35 Rf36 hs37 => ?_⟩
  have hs38 : HS w0 F0 w35 F1 ((some b30, (.cells #[(.int .i64 x19.kind_), (.int .i64 x19.at_), (.string ⟨(x19.text_).toArray⟩)] 97 (0, 0))) :: es6_0 :: (some b1, (.cells #[(.slice as6_0 s6.length ns6_0)] 98 (0, 0))) :: Rf36) := hs37
  refine CWP.block (by kernel_rfl) ?_
  refine Rg [0, 1, 2, 3, 4] ?_
  refine V 8 98 (Bh (t := 98) (x := (.tmp 2)) (b := b1) (o := 0) (g := false) (s := 1) (C := #[(.slice as6_0 s6.length ns6_0)]) (v := (.slice as6_0 s6.length ns6_0)) rfl (by kernel_rfl) (hs38.ownAt (k := 2) rfl) rfl rfl rfl) ?_
  refine V 9 97 (Bh (t := 97) (x := (.tmp 5)) (b := b30) (o := 0) (g := true) (s := 3) (C := #[(.int .i64 x19.kind_), (.int .i64 x19.at_), (.string ⟨(x19.text_).toArray⟩)]) (v := (.agg #[(.int .i64 x19.kind_), (.int .i64 x19.at_), (.string ⟨(x19.text_).toArray⟩)])) rfl (by kernel_rfl) (hs38.ownAt (k := 0) rfl) rfl rfl rfl) ?_
  refine RWP.buildSlice (dst := (some 10)) (ty := 98) (g := none) (by kernel_rfl) rfl (t := 98) (len := 1) (parts := #[(0, (.tmp 9))]) (vs := [(0, (.agg #[(.int .i64 x19.kind_), (.int .i64 x19.at_), (.string ⟨(x19.text_).toArray⟩)]))]) (rfl) (E := 97) (cs := [(.int .i64 x19.kind_), (.int .i64 x19.at_), (.string ⟨(x19.text_).toArray⟩)]) (by kernel_rfl) hs38 (fun b39 w40 (hs41 : HS w0 F0 w40 F1 ((some b39, .cells ([(.int .i64 x19.kind_), (.int .i64 x19.at_), (.string ⟨(x19.text_).toArray⟩)] : List Value).toArray 97 (0, 0)) :: (some b30, (.cells #[(.int .i64 x19.kind_), (.int .i64 x19.at_), (.string ⟨(x19.text_).toArray⟩)] 97 (0, 0))) :: es6_0 :: (some b1, (.cells #[(.slice as6_0 s6.length ns6_0)] 98 (0, 0))) :: Rf36)) => ?_)
  have hr43 : Av Al 97 F1 (some ⟨b39, 0, none⟩) 1 [x19] (some b39, .cells ([(.int .i64 x19.kind_), (.int .i64 x19.at_), (.string ⟨(x19.text_).toArray⟩)] : List Value).toArray 97 (0, 0)) := TH ⟨rfl, rfl⟩ (by simp)
  obtain ⟨r44, hap45, h46⟩ : ∃ r44, CU s6 [x19] = some r44 /\ some r44 = some q23 := ⟨_, h28, rfl⟩
  refine RWP.append (dst := (some 11)) (ty := 98) (g := none) (by kernel_rfl) rfl (x := (.tmp 8)) (y := (.tmp 10)) (t := 98) (t2 := 98) (by_ := 32) (z := (.agg #[(.int .i64 0), (.int .i64 0), (.string ⟨(([] : TN)).toArray⟩)])) (a2 := (some ⟨b39, 0, none⟩)) (c2 := 1) (m := [x19]) (T := Al) (E := 97) (a := as6_0) (cap := ns6_0) (l := s6) rfl rfl (by kernel_rfl) (by decide) (by kernel_rfl) (by kernel_rfl) rfl Nb hs41 (k := 2) rfl hrs6_0 (Av.rd hs41 (k := 0) rfl hr43) (r := r44) hap45 (fun a47 n48 e49 w50 (hs51 : HS w0 F0 w50 F1 ((some b39, .cells ([(.int .i64 x19.kind_), (.int .i64 x19.at_), (.string ⟨(x19.text_).toArray⟩)] : List Value).toArray 97 (0, 0)) :: (some b30, (.cells #[(.int .i64 x19.kind_), (.int .i64 x19.at_), (.string ⟨(x19.text_).toArray⟩)] 97 (0, 0))) :: e49 :: (some b1, (.cells #[(.slice as6_0 s6.length ns6_0)] 98 (0, 0))) :: Rf36)) hr52 => ?_)
  refine Tw (ty := 0) (g := none) (by kernel_rfl) rfl (x := (.tmp 2)) (y := (.tmp 11)) (t := 98) (gg := false) (s := 1) (v := (.slice a47 r44.length n48)) (b := b1) (o := 0) (C := #[(.slice as6_0 s6.length ns6_0)]) rfl rfl (by kernel_rfl) hs51 (k := 3) rfl rfl rfl rfl (C' := #[(.slice a47 r44.length n48)]) rfl (fun w53 (hs54 : HS w0 F0 w53 F1 ((some b39, .cells ([(.int .i64 x19.kind_), (.int .i64 x19.at_), (.string ⟨(x19.text_).toArray⟩)] : List Value).toArray 97 (0, 0)) :: (some b30, (.cells #[(.int .i64 x19.kind_), (.int .i64 x19.at_), (.string ⟨(x19.text_).toArray⟩)] 97 (0, 0))) :: e49 :: (some b1, (.cells #[(.slice a47 r44.length n48)] 98 (0, 0))) :: Rf36)) => ?_)
  refine Tj ?_
  refine AA ?_
  have hs56 : HS w0 F0 w53 F1 (e49 :: (some b1, (.cells #[(.slice a47 r44.length n48)] 98 (0, 0))) :: Rf36) := (hs54.drop 0).drop 0
  obtain rfl := Ab h46
  exact ⟨rfl, F1, [e49, (some b1, (.cells #[(.slice a47 r44.length n48)] 98 (0, 0)))], hs56, (To _), ⟨a47, n48, e49, rfl, hr52⟩⟩
 ·
  rintro D58 w59 F2 _ hs60 le61 ⟨as10_0, ns10_0, es10_0, rfl, hrs10_0⟩
  have hs62 : HS w0 F0 w59 F2 [(some D58, (.deferred (some []))), es10_0, (some b1, (.cells #[(.slice as10_0 r14.length ns10_0)] 98 (0, 0)))] := hs60
  refine AA ?_
  refine Ad ?_
  refine Sq ?_
  refine Rg [0, 1] ?_
  refine V 12 98 (Bh (t := 98) (x := (.tmp 2)) (b := b1) (o := 0) (g := false) (s := 1) (C := #[(.slice as10_0 r14.length ns10_0)]) (v := (.slice as10_0 r14.length ns10_0)) rfl (by kernel_rfl) (hs62.ownAt (k := 2) rfl) rfl rfl rfl) ?_
  refine V 4 98 (AM (x := (.tmp 12)) (v := (.slice as10_0 r14.length ns10_0)) rfl) ?_
  refine Tj ?_
  refine Ad ?_
  refine CWP.ret (by kernel_rfl) ?_
  have hb66 := TF hrs10_0
  obtain ⟨F3, hs63, le64, hs65⟩ : ∃ Fq, HS w0 F0 w59 Fq [(some D58, (.deferred (some []))), (some b1, (.cells #[(.slice as10_0 r14.length ns10_0)] 98 (0, 0)))] /\ Tn F2 Fq /\ SlA Al Fq as10_0 r14 := HS.freezeRow hs62 (k := 1) rfl hrs10_0
  have hs67 := hs63.put (k := 0) rfl (.deferred none)
  have hs68 : HS w0 F0 (Dc w59 D58 (.deferred none)) F3 [(some b1, (.cells #[(.slice as10_0 r14.length ns10_0)] 98 (0, 0)))] := hs67.drop 0
  have hfin := Ab h16
  subst hfin
  exact .inr ⟨D58, rfl, hs63.ownAt (k := 0) rfl, (.slice as10_0 r14.length ns10_0), AE (l := [.tmp 4]) (by kernel_rfl) (vs := [(.slice as10_0 r14.length ns10_0)]) ⟨rfl, trivial⟩, (.slice as10_0 r14.length ns10_0), F3, rfl, hs68.clear, ⟨as10_0, ns10_0, rfl, hb66, hs65⟩⟩
theorem J2 : Au Tryz.prog 132 := fun _ _ => by kernel_rfl
set_option maxRecDepth 100000 in
theorem KA (w0 : World) (F0 : Mem) (hF : TP w0 F0) (gf : FuncId) (cap : List Value) (m : ∀ {σ : Type}, (σ -> An -> Option (Bool × σ)) -> σ -> Option σ) (hgf : Au Tryz.prog gf) (hseq : Ot Tryz.prog gf cap F0 [] Nj Pj Ph m) (r : (List An)) (h : J1 m = some r) :
  Calls Tryz.prog 132 ([(.func (.func gf) #[] cap.toArray)] : List Value).toArray w0 (Bd w0 F0 fun F' v => ∃ (aq0_0 : TO) (nq0_0 : Nat), v = (.slice aq0_0 r.length nq0_0) /\ LC r.length nq0_0 /\ SlA Al F' aq0_0 r) := by
 have hs0 := Tp hF
 refine FO (n := 5) (c := CT Tryz.f132) Tryz.func132 (by kernel_rfl) (by kernel_rfl) (by kernel_rfl) ?_
 refine Sq ?_
 refine Rg [0] ?_
 refine V 2 98 (AM (x := (.const (.slice none 0 0))) (v := (.slice none 0 0)) rfl) ?_
 refine Tj ?_
 refine Ad ?_
 refine Sq ?_
 refine Rg [0, 1, 2] ?_
 refine V 3 162 (Bb (x := (.tmp 0)) (v := (.func (.func gf) #[] cap.toArray)) rfl) ?_
 refine RWP.call (dst := (some 4)) (ty := 98) (g := none) (by kernel_rfl) rfl (f0 := (.func 179)) (aos := #[(.const (.slice none 0 0)), (.tmp 3)]) (ats := #[98, 162]) (fid := 179) (first := #[]) (cap := #[]) (args := [.slice none 0 0, (.func (.func gf) #[] cap.toArray)]) rfl Il rfl hs0 (Jc w0 F0 hs0.pers gf cap m hgf hseq r h) ?_
 intro v F1 w1 hs1 le1 hp
 obtain ⟨a, n, rfl, hb, hs⟩ := hp
 refine V 2 98 (AM (x := (.tmp 4)) (v := (.slice a r.length n)) rfl) ?_
 refine Tj ?_
 refine Ad ?_
 refine CWP.ret (by kernel_rfl) ?_
 exact ⟨rfl, (.slice a r.length n), AE (l := [.tmp 2]) (by kernel_rfl) (vs := [(.slice a r.length n)]) ⟨rfl, trivial⟩, _, F1, rfl, hs1, a, n, rfl, hb, hs⟩
theorem K3 : Au Tryz.prog 133 := fun _ _ => by kernel_rfl
set_option maxRecDepth 100000 in
theorem L9 (w0 : World) (F0 : Mem) (hF : TP w0 F0) (x0 : TN) :
  Calls Tryz.prog 133 ([(.string ⟨(x0).toArray⟩)] : List Value).toArray w0 (Bd w0 F0 fun F' v => ∃ (b1 b2 : Nat), v = .func (.func 181) #[] #[.pointer (some ⟨b1, 0, none⟩), .pointer (some ⟨b2, 0, none⟩)] /\ F' b1 = some (.cells #[(.string ⟨(x0).toArray⟩)] 9 (0, 0)) /\ F' b2 = some (.cells #[.func (.func 180) #[] #[.pointer (some ⟨b1, 0, none⟩)]] 193 (0, 0))) := by
 have hs0 := Tp hF
 refine FO (n := 6) (c := CT Tryz.f133) Tryz.func133 (by kernel_rfl) (by kernel_rfl) (by kernel_rfl) ?_
 refine Sq ?_
 refine Rg [0, 1] ?_
 refine RWP.box (dst := (some 1)) (ty := 0) (g := none) (by kernel_rfl) rfl (x := (.tmp 0)) (t := 9) (v := (.string ⟨(x0).toArray⟩)) rfl (C := #[(.string ⟨(x0).toArray⟩)]) rfl hs0 (fun b1 w1 hs1 => ?_)
 refine V 2 162 (AM (x := (.const .nilFunc)) (v := .nilFunc) rfl) ?_
 refine Tj ?_
 refine Ad ?_
 refine Sq ?_
 refine Rg [0, 1, 2] ?_
 refine V 4 193 (DI (fn := .func 180) (first := #[]) (cap := #[.tmp 1]) (fl := []) (cl := [.pointer (some ⟨b1, 0, none⟩)]) rfl rfl) ?_
 refine Tv (dst := (some 3)) (ty := 0) (g := none) (by kernel_rfl) rfl (t := 193) (z := .nilFunc) (by kernel_rfl) (C := #[.nilFunc]) rfl hs1 (fun b2 w2 hs2 => ?_)
 refine Tw (ty := 0) (g := none) (by kernel_rfl) rfl (x := (.tmp 3)) (y := (.tmp 4)) (t := 193) (gg := false) (s := 1) (v := .func (.func 180) #[] #[.pointer (some ⟨b1, 0, none⟩)]) (b := b2) (o := 0) (C := #[.nilFunc]) rfl rfl (by kernel_rfl) hs2 (k := 0) rfl rfl rfl rfl (C' := #[.func (.func 180) #[] #[.pointer (some ⟨b1, 0, none⟩)]]) rfl (fun w3 (hs3 : HS w0 F0 w3 F0 [(some b2, .cells #[.func (.func 180) #[] #[.pointer (some ⟨b1, 0, none⟩)]] 193 (0, 0)), (some b1, .cells #[(.string ⟨(x0).toArray⟩)] 9 (0, 0))]) => ?_)
 refine Tj ?_
 refine Ad ?_
 refine Sq ?_
 refine Rg [0, 1] ?_
 refine V 5 161 (DI (fn := .func 181) (first := #[]) (cap := #[.tmp 1, .tmp 3]) (fl := []) (cl := [.pointer (some ⟨b1, 0, none⟩), .pointer (some ⟨b2, 0, none⟩)]) rfl rfl) ?_
 refine V 2 162 (AM (x := (.tmp 5)) (v := .func (.func 181) #[] #[.pointer (some ⟨b1, 0, none⟩), .pointer (some ⟨b2, 0, none⟩)]) rfl) ?_
 refine Tj ?_
 refine Ad ?_
 refine CWP.ret (by kernel_rfl) ?_
 obtain ⟨F1, hs4, le1, hF1⟩ : ∃ Fq, HS w0 F0 w3 Fq [(some b1, .cells #[(.string ⟨(x0).toArray⟩)] 9 (0, 0))] /\ Tn F0 Fq /\ Fq b2 = some _ := HS.freezeC hs3 (k := 0) rfl
 obtain ⟨F2, hs5, le2, hF2⟩ : ∃ Fq, HS w0 F0 w3 Fq [] /\ Tn F1 Fq /\ Fq b1 = some _ := HS.freezeC hs4 (k := 0) rfl
 exact ⟨rfl, _, AE (l := [.tmp 2]) (by kernel_rfl) (vs := [.func (.func 181) #[] #[.pointer (some ⟨b1, 0, none⟩), .pointer (some ⟨b2, 0, none⟩)]]) ⟨rfl, trivial⟩, _, F2, rfl, hs5, b1, b2, rfl, hF2, le2 _ _ hF1⟩
def D5 (N : Nat) (x0 : Int) (x1 : Int) (x2 : Int) (z0 : TN) : Int -> Option (Bv TN Int) := fun s24 =>
 ((bif (decide (s24 < (z0.length : Int))) then ((Gi z0 s24).bind fun c64 => (bif (decide (x1 <= c64)) then ((Gi z0 s24).bind fun c70 => some (decide (c70 <= x2))) else some false)) else some false).bind fun j51 => (bif j51 then some (.next (W64 (s24 + 1))) else some (.done s24)))
def CD (N : Nat) (x0 : Int) (x1 : Int) (x2 : Int) (z0 : TN) : Option TN :=
 ((Be (D5 N x0 x1 x2 z0) N x0).bind fun o => o.k (fun r => some r) (fun s34 => ((IZ z0 x0 s34).bind fun r79 => some r79)))
theorem J4 : Au Tryz.prog 180 := fun _ _ => by kernel_rfl
theorem KC (N : Nat) (w0 : World) (F0 : Mem) (hF : TP w0 F0) (x0 : Int) (x1 : Int) (x2 : Int) (bz0 : Nat) (z0 : TN) (hz0 : F0 bz0 = some (oc #[(.string ⟨(z0).toArray⟩)] 9)) (r : TN) (h : CD N x0 x1 x2 z0 = some r) :
  Calls Tryz.prog 180 ([(vi x0), (.int .u8 x1), (.int .u8 x2), (pt bz0 0)] : List Value).toArray w0 (Bd w0 F0 fun F' v => v = (.string ⟨(r).toArray⟩)) := by
 have hs0 := Tp hF
 refine Go 34 Tryz.func180 ?_
 refine Sq (Rg [0] ?_)
 refine Vs 1 ?_
 refine Nss (Rg [0, 1] ?_)
 refine Vs 2 ?_
 refine Nss ?_
 obtain ⟨o21, ho22, h23⟩ := bind_some h
 refine Tu (fun f w => ∃ (s34 : Int) (F2 : Mem), o21 = .done s34 /\ HS w0 F0 w F2 [] /\ Tn F0 F2 /\ FI f [] [(0, (vi x0)), (3, (pt bz0 0)), (8, (vi s34))]) ?_ ?_
 ·refine Bk ?_
  refine Tm (by kernel_rfl) (fun m f w => ∃ (s24 : Int) (F1 : Mem), Be (D5 N x0 x1 x2 z0) m s24 = some o21 /\ HS w0 F0 w F1 [] /\ Tn F0 F1 /\ FI f [] [(0, (vi x0)), (1, (.int .u8 x1)), (2, (.int .u8 x2)), (3, (pt bz0 0)), (8, (vi s24))]) N ⟨x0, F0, ho22, hs0, (To _), fI⟩ ?_
  rintro m42 f w25 ⟨s24, F1, hit43, hs26, le27, ⟨_, rfl⟩⟩
  obtain ⟨m44, fl45, rfl, hb46, hnx47⟩ := A5 hit43
  refine Sq ?_
  refine Sq (Rg [0, 1, 2, 3, 4, 5, 6, 7, 8, 9, 10, 11, 12, 13, 14, 15, 16, 17] ?_)
  obtain ⟨j51, hj59, h60⟩ := bind_some hb46
  refine Tt (fun f w => ∃ (F3 : Mem), HS w0 F0 w F3 [] /\ Tn F1 F3 /\ FI f [] [(0, (vi x0)), (1, (.int .u8 x1)), (2, (.int .u8 x2)), (3, (pt bz0 0)), (8, (vi s24)), (27, (.bool j51))]) ?_ ?_
  ·refine Vs 1 ?_
   refine Ld (hs26.pers _ _ (le27 _ _ hz0)) ?_
   refine Vs 3 ?_
   refine Sp hj59 (fun hb61 h62 => ?_) (fun hb61 h63 => ?_)
   ·refine Vgs hb61 1 ?_
    refine Lg hb61 (hs26.pers _ _ (le27 _ _ hz0)) ?_
    refine Vgs hb61 1 ?_
    obtain ⟨c64, hr65, h66⟩ := bind_some h62
    refine Vg 18 5 4 true 14 hb61 (CC (t := 9) (x := (.tmp 16)) (y := (.tmp 17)) (a := z0) (k := .i64) (i := s24) (v := c64) rfl rfl (by kernel_rfl) hr65) ?_
    refine Vgs hb61 1 ?_
    refine Pk1 hb61 ?_
    refine Vs 1 ?_
    refine Sp h66 (fun hb67 h68 => ?_) (fun hb67 h69 => ?_)
    ·refine Lg hb67 (hs26.pers _ _ (le27 _ _ hz0)) ?_
     refine Vgs hb67 1 ?_
     obtain ⟨c70, hr71, h72⟩ := bind_some h68
     refine Vg 24 5 11 true 21 hb67 (CC (t := 9) (x := (.tmp 22)) (y := (.tmp 23)) (a := z0) (k := .i64) (i := s24) (v := c70) rfl rfl (by kernel_rfl) hr71) ?_
     refine Vgs hb67 2 ?_
     refine Pk1 hb67 ?_
     obtain rfl := Ab h72
     exact Tj ⟨rfl, F1, hs26, (To _), fI⟩
    ·refine Ss hb67 5 ?_
     refine Pk0 hb67 ?_
     obtain rfl := Ab h69
     exact Tj ⟨rfl, F1, hs26, (To _), fI⟩
   ·refine Ss hb61 5 ?_
    refine Pk0 hb61 ?_
    refine Vs 1 ?_
    refine Ss (rfl : false = false) 5 ?_
    refine Pk0 (rfl : false = false) ?_
    obtain rfl := Ab h63
    exact Tj ⟨rfl, F1, hs26, (To _), fI⟩
  ·rintro f w48 ⟨F3, hs49, le50, ⟨_, rfl⟩⟩
   refine Ad ?_
   refine Cd h60 (fun hb73 h74 => ?_) (fun hb73 h75 => ?_)
   ·refine Sc ?_
    refine Ad ?_
    refine Bk ?_
    refine Rg [0, 1, 2] ?_
    refine Vs 3 ?_
    refine Tj ?_
    refine AA ?_
    have hn76 := AW h74 hnx47
    exact ⟨m44, Nat.lt_succ_self _, (W64 (s24 + 1)), F3, hn76, hs49, (le27.trans le50), fI⟩
   ·refine Ex ?_
    refine AC ?_
    refine AC ?_
    refine AL rfl ?_
    have ho77 := A8 h75 hnx47
    exact .inl ⟨rfl, s24, F3, ho77, hs49, (le27.trans le50), fI⟩
 ·rintro f w35 ⟨s34, F2, rfl, hs36, le37, ⟨_, rfl⟩⟩
  have h78 := BT h23
  refine Ad ?_
  refine Sq (Rg [0, 1, 2, 3, 4] ?_)
  refine Ld (hs36.pers _ _ (le37 _ _ hz0)) ?_
  refine Vs 2 ?_
  obtain ⟨r79, hr80, h81⟩ := bind_some h78
  refine V 33 9 (Fw (t := 9) (x := (.tmp 30)) (lo := (some (.tmp 31))) (hi := (some (.tmp 32))) (a := z0) (il := x0) (ih := s34) (v := r79) rfl (by kernel_rfl) rfl rfl hr80) ?_
  refine Vs 1 ?_
  refine Nt ?_
  refine Rt ?_
  obtain rfl := Ab h81
  exact Re [(.string ⟨(r79).toArray⟩)] hs36 rfl
end Go.Proofs.YtaihlcdkcampbaaGreatDoor
namespace Go.Proofs
open Go.Shelf
def Tryz.lays137_ren : Go.Shelf.Ren := ⟨fun | 137 => 183 | 217 => 211 | 266 => 225 | n => n, fun | 9 => 9 | 5 => 5 | 3 => 3 | n => n, fun | n => n⟩
theorem Tryz.lays137 : Go.Proofs.Lays.n137 Tryz.prog Tryz.lays137_ren := {
 mixed := by kernel_rfl
 f137 := Tryz.func183.trans (congrArg some (by kernel_rfl))
 f217 := Tryz.func211.trans (congrArg some (by kernel_rfl))
 f266 := Tryz.func225.trans (congrArg some (by kernel_rfl))
 t3 := Tryz.underlying3
 a3 := Tryz.isAgg3
 z3 := Tryz.sizeOf3
 v3 := Tryz.zeroValue3
 t5 := Tryz.underlying5
 a5 := Tryz.isAgg5
 z5 := Tryz.sizeOf5
 v5 := Tryz.zeroValue5
 t9 := Tryz.underlying9
 a9 := Tryz.isAgg9
 z9 := Tryz.sizeOf9
 v9 := Tryz.zeroValue9 }
open Go.RowKit in
theorem Tryz.strings_IndexByte (s : ByteArray) (c : Int) (w : World) :
  Calls Tryz.prog 183 #[.string s, .int .u8 c] w fun e w' => e = .returned (.int .i64 (Lib.indexByte s.data.toList c.toNat.toUInt8)) /\ w' = w := Any.strings_IndexByte Tryz.lays137 s c w
def Tryz.laysM171_ren : Go.Shelf.Ren := ⟨fun | 171 => 151 | 243 => 196 | 246 => 218 | 283 => 228 | 284 => 229 | 285 => 230 | 286 => 231 | 129 => 209 | 317 => 235 | 318 => 236 | 319 => 237 | 320 => 238 | 337 => 241 | 338 => 242 | n => n, fun | 3 => 3 | 9 => 9 | 2 => 2 | 4 => 4 | 171 => 227 | 0 => 0 | 53 => 218 | 37 => 42 | 5 => 5 | 173 => 229 | 212 => 234 | 51 => 216 | 20 => 20 | 213 => 235 | 46 => 191 | 232 => 237 | 233 => 238 | n => n, fun | 17 => 1 | 18 => 2 | 19 => 3 | n => n⟩
theorem Tryz.laysM171 : Go.Proofs.LaysM.n171 Tryz.prog Tryz.laysM171_ren := {
 mixed := by kernel_rfl
 f129 := Tryz.func209.trans (congrArg some (by kernel_rfl))
 f171 := Tryz.func151.trans (congrArg some (by kernel_rfl))
 f243 := Tryz.func196.trans (congrArg some (by kernel_rfl))
 f246 := Tryz.func218.trans (congrArg some (by kernel_rfl))
 f283 := Tryz.func228.trans (congrArg some (by kernel_rfl))
 f284 := Tryz.func229.trans (congrArg some (by kernel_rfl))
 f285 := Tryz.func230.trans (congrArg some (by kernel_rfl))
 f286 := Tryz.func231.trans (congrArg some (by kernel_rfl))
 f317 := Tryz.func235.trans (congrArg some (by kernel_rfl))
 f318 := Tryz.func236.trans (congrArg some (by kernel_rfl))
 f319 := Tryz.func237.trans (congrArg some (by kernel_rfl))
 f320 := Tryz.func238.trans (congrArg some (by kernel_rfl))
 f337 := Tryz.func241.trans (congrArg some (by kernel_rfl))
 f338 := Tryz.func242.trans (congrArg some (by kernel_rfl))
 t0 := Tryz.underlying0
 a0 := Tryz.isAgg0
 z0 := Tryz.sizeOf0
 v0 := Tryz.zeroValue0
 t2 := Tryz.underlying2
 a2 := Tryz.isAgg2
 z2 := Tryz.sizeOf2
 v2 := Tryz.zeroValue2
 t3 := Tryz.underlying3
 a3 := Tryz.isAgg3
 z3 := Tryz.sizeOf3
 v3 := Tryz.zeroValue3
 t4 := Tryz.underlying4
 a4 := Tryz.isAgg4
 z4 := Tryz.sizeOf4
 v4 := Tryz.zeroValue4
 t5 := Tryz.underlying5
 a5 := Tryz.isAgg5
 z5 := Tryz.sizeOf5
 v5 := Tryz.zeroValue5
 t9 := Tryz.underlying9
 a9 := Tryz.isAgg9
 z9 := Tryz.sizeOf9
 v9 := Tryz.zeroValue9
 t20 := Tryz.underlying20
 a20 := Tryz.isAgg20
 z20 := Tryz.sizeOf20
 v20 := Tryz.zeroValue20
 t37 := Tryz.underlying42
 a37 := Tryz.isAgg42
 z37 := Tryz.sizeOf42
 v37 := Tryz.zeroValue42
 t46 := Tryz.underlying191
 a46 := Tryz.isAgg191
 z46 := Tryz.sizeOf191
 v46 := Tryz.zeroValue191
 t51 := Tryz.underlying216
 a51 := Tryz.isAgg216
 z51 := Tryz.sizeOf216
 v51 := Tryz.zeroValue216
 t53 := Tryz.underlying218
 a53 := Tryz.isAgg218
 z53 := Tryz.sizeOf218
 v53 := Tryz.zeroValue218
 t171 := Tryz.underlying227
 a171 := Tryz.isAgg227
 z171 := Tryz.sizeOf227
 v171 := Tryz.zeroValue227
 t173 := Tryz.underlying229
 a173 := Tryz.isAgg229
 z173 := Tryz.sizeOf229
 v173 := Tryz.zeroValue229
 t212 := Tryz.underlying234
 a212 := Tryz.isAgg234
 z212 := Tryz.sizeOf234
 v212 := Tryz.zeroValue234
 t213 := Tryz.underlying235
 a213 := Tryz.isAgg235
 z213 := Tryz.sizeOf235
 t232 := Tryz.underlying237
 a232 := Tryz.isAgg237
 z232 := Tryz.sizeOf237
 v232 := Tryz.zeroValue237
 t233 := Tryz.underlying238
 a233 := Tryz.isAgg238
 z233 := Tryz.sizeOf238
 v233 := Tryz.zeroValue238
 g17 := by kernel_rfl
 g18 := by kernel_rfl
 g19 := by kernel_rfl
 i0 := by kernel_rfl
 i2 := by kernel_rfl
 i3 := by kernel_rfl
 i4 := by kernel_rfl
 i5 := by kernel_rfl
 i9 := by kernel_rfl
 i20 := by kernel_rfl
 i37 := by kernel_rfl
 i46 := by kernel_rfl
 i51 := by kernel_rfl
 i53 := by kernel_rfl
 i171 := by kernel_rfl
 i173 := by kernel_rfl
 i212 := by kernel_rfl
 i232 := by kernel_rfl
 i233 := by kernel_rfl
 m17 := by kernel_rfl
 m18 := by kernel_rfl
 m19 := by kernel_rfl }
open Go.RowKit Go.Sort Go.Lib in
theorem Tryz.strconv_Itoa (n : Int) (h0 : -9223372036854775808 <= n) (h1 : n <= 9223372036854775807) (w : World) (htab : Lib.TabIs Tryz.prog w "internal/strconv.uint64pow10" .u64 Lib.pow10Tab) :
  Calls Tryz.prog 151 #[.int .i64 n] w fun e w' => e = .returned (.string ⟨(Lib.itoa n).toArray⟩) /\ ∃ k os, w' = grow (w.drewN k) os := Any.strconv_Itoa Tryz.laysM171 n h0 h1 w htab
def Tryz.laysC172_ren : Go.Shelf.Ren := ⟨fun | 172 => 248 | 244 => 251 | 245 => 252 | 247 => 253 | 279 => 254 | 280 => 255 | 281 => 256 | 282 => 257 | 287 => 258 | 316 => 259 | 171 => 151 | 205 => 260 | 321 => 261 | 322 => 262 | 243 => 196 | 246 => 218 | 283 => 228 | 284 => 229 | 285 => 230 | 286 => 231 | 129 => 209 | 317 => 235 | 318 => 236 | 319 => 237 | 320 => 238 | 337 => 241 | 338 => 242 | n => n, fun | 9 => 9 | 3 => 3 | 75 => 134 | 76 => 135 | 4 => 4 | 5 => 5 | 167 => 241 | 37 => 42 | 0 => 0 | 85 => 242 | 2 => 2 | 168 => 244 | 53 => 218 | 175 => 247 | 46 => 191 | 210 => 251 | 127 => 184 | 145 => 256 | 143 => 254 | 21 => 21 | 171 => 227 | 173 => 229 | 212 => 234 | 51 => 216 | 20 => 20 | 213 => 235 | 232 => 237 | 233 => 238 | 80 => 137 | n => n, fun | 15 => 4 | 16 => 5 | 17 => 1 | 18 => 2 | 19 => 3 | n => n⟩
theorem Tryz.laysC172 : Go.Proofs.LaysC.n172 Tryz.prog Tryz.laysC172_ren := {
 mixed := by kernel_rfl
 f129 := Tryz.func209.trans (congrArg some (by kernel_rfl))
 f171 := Tryz.func151.trans (congrArg some (by kernel_rfl))
 f172 := Tryz.func248.trans (congrArg some (by kernel_rfl))
 f205 := Tryz.func260.trans (congrArg some (by kernel_rfl))
 f243 := Tryz.func196.trans (congrArg some (by kernel_rfl))
 f244 := Tryz.func251.trans (congrArg some (by kernel_rfl))
 f245 := Tryz.func252.trans (congrArg some (by kernel_rfl))
 f246 := Tryz.func218.trans (congrArg some (by kernel_rfl))
 f247 := Tryz.func253.trans (congrArg some (by kernel_rfl))
 f279 := Tryz.func254.trans (congrArg some (by kernel_rfl))
 f280 := Tryz.func255.trans (congrArg some (by kernel_rfl))
 f281 := Tryz.func256.trans (congrArg some (by kernel_rfl))
 f282 := Tryz.func257.trans (congrArg some (by kernel_rfl))
 f283 := Tryz.func228.trans (congrArg some (by kernel_rfl))
 f284 := Tryz.func229.trans (congrArg some (by kernel_rfl))
 f285 := Tryz.func230.trans (congrArg some (by kernel_rfl))
 f286 := Tryz.func231.trans (congrArg some (by kernel_rfl))
 f287 := Tryz.func258.trans (congrArg some (by kernel_rfl))
 f316 := Tryz.func259.trans (congrArg some (by kernel_rfl))
 f317 := Tryz.func235.trans (congrArg some (by kernel_rfl))
 f318 := Tryz.func236.trans (congrArg some (by kernel_rfl))
 f319 := Tryz.func237.trans (congrArg some (by kernel_rfl))
 f320 := Tryz.func238.trans (congrArg some (by kernel_rfl))
 f321 := Tryz.func261.trans (congrArg some (by kernel_rfl))
 f322 := Tryz.func262.trans (congrArg some (by kernel_rfl))
 f337 := Tryz.func241.trans (congrArg some (by kernel_rfl))
 f338 := Tryz.func242.trans (congrArg some (by kernel_rfl))
 t0 := Tryz.underlying0
 a0 := Tryz.isAgg0
 z0 := Tryz.sizeOf0
 v0 := Tryz.zeroValue0
 t2 := Tryz.underlying2
 a2 := Tryz.isAgg2
 z2 := Tryz.sizeOf2
 v2 := Tryz.zeroValue2
 t3 := Tryz.underlying3
 a3 := Tryz.isAgg3
 z3 := Tryz.sizeOf3
 v3 := Tryz.zeroValue3
 t4 := Tryz.underlying4
 a4 := Tryz.isAgg4
 z4 := Tryz.sizeOf4
 v4 := Tryz.zeroValue4
 t5 := Tryz.underlying5
 a5 := Tryz.isAgg5
 z5 := Tryz.sizeOf5
 v5 := Tryz.zeroValue5
 t9 := Tryz.underlying9
 a9 := Tryz.isAgg9
 z9 := Tryz.sizeOf9
 v9 := Tryz.zeroValue9
 t20 := Tryz.underlying20
 a20 := Tryz.isAgg20
 z20 := Tryz.sizeOf20
 v20 := Tryz.zeroValue20
 t21 := Tryz.underlying21
 a21 := Tryz.isAgg21
 z21 := Tryz.sizeOf21
 v21 := Tryz.zeroValue21
 t37 := Tryz.underlying42
 a37 := Tryz.isAgg42
 z37 := Tryz.sizeOf42
 v37 := Tryz.zeroValue42
 t46 := Tryz.underlying191
 a46 := Tryz.isAgg191
 z46 := Tryz.sizeOf191
 v46 := Tryz.zeroValue191
 t51 := Tryz.underlying216
 a51 := Tryz.isAgg216
 z51 := Tryz.sizeOf216
 v51 := Tryz.zeroValue216
 t53 := Tryz.underlying218
 a53 := Tryz.isAgg218
 z53 := Tryz.sizeOf218
 v53 := Tryz.zeroValue218
 t75 := Tryz.underlying134
 a75 := Tryz.isAgg134
 z75 := Tryz.sizeOf134
 v75 := Tryz.zeroValue134
 t76 := Tryz.underlying135
 a76 := Tryz.isAgg135
 z76 := Tryz.sizeOf135
 v76 := Tryz.zeroValue135
 t85 := Tryz.underlying242
 a85 := Tryz.isAgg242
 z85 := Tryz.sizeOf242
 v85 := Tryz.zeroValue242
 t127 := Tryz.underlying184
 a127 := Tryz.isAgg184
 z127 := Tryz.sizeOf184
 v127 := Tryz.zeroValue184
 t143 := Tryz.underlying254
 a143 := Tryz.isAgg254
 z143 := Tryz.sizeOf254
 v143 := Tryz.zeroValue254
 t145 := Tryz.underlying256
 a145 := Tryz.isAgg256
 z145 := Tryz.sizeOf256
 v145 := Tryz.zeroValue256
 t167 := Tryz.underlying241
 a167 := Tryz.isAgg241
 z167 := Tryz.sizeOf241
 v167 := Tryz.zeroValue241
 t168 := Tryz.underlying244
 a168 := Tryz.isAgg244
 z168 := Tryz.sizeOf244
 v168 := Tryz.zeroValue244
 t171 := Tryz.underlying227
 a171 := Tryz.isAgg227
 z171 := Tryz.sizeOf227
 v171 := Tryz.zeroValue227
 t173 := Tryz.underlying229
 a173 := Tryz.isAgg229
 z173 := Tryz.sizeOf229
 v173 := Tryz.zeroValue229
 t175 := Tryz.underlying247
 a175 := Tryz.isAgg247
 z175 := Tryz.sizeOf247
 v175 := Tryz.zeroValue247
 t210 := Tryz.underlying251
 a210 := Tryz.isAgg251
 z210 := Tryz.sizeOf251
 v210 := Tryz.zeroValue251
 t212 := Tryz.underlying234
 a212 := Tryz.isAgg234
 z212 := Tryz.sizeOf234
 v212 := Tryz.zeroValue234
 t213 := Tryz.underlying235
 a213 := Tryz.isAgg235
 z213 := Tryz.sizeOf235
 t232 := Tryz.underlying237
 a232 := Tryz.isAgg237
 z232 := Tryz.sizeOf237
 v232 := Tryz.zeroValue237
 t233 := Tryz.underlying238
 a233 := Tryz.isAgg238
 z233 := Tryz.sizeOf238
 v233 := Tryz.zeroValue238
 g15 := by kernel_rfl
 g16 := by kernel_rfl
 g17 := by kernel_rfl
 g18 := by kernel_rfl
 g19 := by kernel_rfl
 t80 := Tryz.underlying137
 a80 := Tryz.isAgg137
 z80 := Tryz.sizeOf137
 v80 := Tryz.zeroValue137
 i0 := by kernel_rfl
 i2 := by kernel_rfl
 i3 := by kernel_rfl
 i4 := by kernel_rfl
 i5 := by kernel_rfl
 i9 := by kernel_rfl
 i20 := by kernel_rfl
 i21 := by kernel_rfl
 i37 := by kernel_rfl
 i46 := by kernel_rfl
 i51 := by kernel_rfl
 i53 := by kernel_rfl
 i75 := by kernel_rfl
 i76 := by kernel_rfl
 i80 := by kernel_rfl
 i85 := by kernel_rfl
 i127 := by kernel_rfl
 i143 := by kernel_rfl
 i145 := by kernel_rfl
 i167 := by kernel_rfl
 i168 := by kernel_rfl
 i171 := by kernel_rfl
 i173 := by kernel_rfl
 i175 := by kernel_rfl
 i210 := by kernel_rfl
 i212 := by kernel_rfl
 i232 := by kernel_rfl
 i233 := by kernel_rfl
 m15 := by kernel_rfl
 m16 := by kernel_rfl
 m17 := by kernel_rfl
 m18 := by kernel_rfl
 m19 := by kernel_rfl
 c0 := by kernel_rfl
 c2 := by kernel_rfl
 c3 := by kernel_rfl
 c4 := by kernel_rfl
 c5 := by kernel_rfl
 c9 := by kernel_rfl
 c20 := by kernel_rfl
 c21 := by kernel_rfl
 c37 := by kernel_rfl
 c46 := by kernel_rfl
 c51 := by kernel_rfl
 c53 := by kernel_rfl
 c75 := by kernel_rfl
 c76 := by kernel_rfl
 c80 := by kernel_rfl
 c85 := by kernel_rfl
 c127 := by kernel_rfl
 c143 := by kernel_rfl
 c145 := by kernel_rfl
 c167 := by kernel_rfl
 c168 := by kernel_rfl
 c171 := by kernel_rfl
 c173 := by kernel_rfl
 c175 := by kernel_rfl
 c210 := by kernel_rfl
 c212 := by kernel_rfl
 c213 := by kernel_rfl
 c232 := by kernel_rfl
 c233 := by kernel_rfl }
open Go.RowKit in
theorem Tryz.strconv_Atoi_ok (s : ByteArray) (hmax : s.size <= 9223372036854775806) (v : Int) (h : Lib.atoiAll s.data.toList = .ok v) (w : World) :
  Calls Tryz.prog 248 #[.string s] w fun e w' => e = .returned (.tuple #[.int .i64 v, .nilIface]) /\ (w' = w \/ ∃ t, w' = Lib.bytesWorld w 5 t) := Any.strconv_Atoi_ok Tryz.laysC172 s hmax v h w
open Go.RowKit in
theorem Tryz.strconv_Atoi_range_var (s : ByteArray) (hlim : s.size <= 281474976710656) (h : Lib.atoiAll s.data.toList = .range) (tp : TypeId) (p : Value) (w : World) (hvar : w.var? Tryz.prog "strconv.ErrRange" = some #[.iface tp p]) :
  Calls Tryz.prog 248 #[.string s] w fun e w' => ∃ N, e = .returned (.tuple #[.int .i64 (Lib.atoiSat s.data.toList), .iface 244 (.pointer (some ⟨N, 0, none⟩))]) /\ w.heap.size <= N /\ w'.heap[N]? = some (.cells #[.string ⟨#[65, 116, 111, 105]⟩, .string s, .iface tp p] 251 (0, 0)) /\ Below w.heap.size w w' := Any.strconv_Atoi_range_var Tryz.laysC172 s hlim h tp p w hvar
def Tryz.lays99_ren : Go.Shelf.Ren := ⟨fun | 99 => 182 | 206 => 210 | n => n, fun | 9 => 9 | 4 => 4 | 3 => 3 | n => n, fun | n => n⟩
theorem Tryz.lays99 : Go.Proofs.Lays.n99 Tryz.prog Tryz.lays99_ren := {
 mixed := by kernel_rfl
 f99 := Tryz.func182.trans (congrArg some (by kernel_rfl))
 f206 := Tryz.func210.trans (congrArg some (by kernel_rfl))
 t3 := Tryz.underlying3
 a3 := Tryz.isAgg3
 z3 := Tryz.sizeOf3
 v3 := Tryz.zeroValue3
 t4 := Tryz.underlying4
 a4 := Tryz.isAgg4
 z4 := Tryz.sizeOf4
 v4 := Tryz.zeroValue4
 t9 := Tryz.underlying9
 a9 := Tryz.isAgg9
 z9 := Tryz.sizeOf9
 v9 := Tryz.zeroValue9 }
open Go.RowKit Go.Lib in
theorem Tryz.strings_HasPrefix (s p : ByteArray) (w : World) :
  Calls Tryz.prog 182 #[.string s, .string p] w fun e w' => e = .returned (.bool (Lib.hasPrefix s.data.toList p.data.toList)) /\ w' = w := Any.strings_HasPrefix Tryz.lays99 s p w
end Go.Proofs
namespace Go.Proofs.YtaihlcdkcampbaaGreatDoor
section
open Go.Proofs Go.RowKit Go.Sort Go.Lib
def strings_HasPrefix (_N : Nat) (s p : TN) : Option Bool := some (Go.Lib.hasPrefix s p)
theorem Hx : Au Tryz.prog 182 := fun _ _ => by kernel_rfl
theorem Ip (N : Nat) (w0 : World) (F0 : Mem) (hF : TP w0 F0) (x0 : TN) (x1 : TN) (r : Bool) (h : strings_HasPrefix N x0 x1 = some r) :
  Calls Tryz.prog 182 ([(.string ⟨(x0).toArray⟩), (.string ⟨(x1).toArray⟩)] : List Value).toArray w0 (Bd w0 F0 fun _ v => v = (.bool r)) := by
 cases h
 exact Bd.below hF ((Tryz.strings_HasPrefix ⟨x0.toArray⟩ ⟨x1.toArray⟩ w0).mono fun e w' ⟨he, hw⟩ => ⟨he, hw ▸ Below.refl _ _⟩) rfl
def strings_IndexByte (_N : Nat) (s : TN) (c : Int) : Option Int := some (Go.Lib.indexByte s c.toNat.toUInt8)
theorem Hw : Au Tryz.prog 183 := fun _ _ => by kernel_rfl
theorem Io (N : Nat) (w0 : World) (F0 : Mem) (hF : TP w0 F0) (x0 : TN) (x1 : Int) (r : Int) (h : strings_IndexByte N x0 x1 = some r) :
  Calls Tryz.prog 183 ([(.string ⟨(x0).toArray⟩), (.int .u8 x1)] : List Value).toArray w0 (Bd w0 F0 fun _ v => v = (.int .i64 r)) := by
 cases h
 exact Bd.below hF ((Tryz.strings_IndexByte ⟨x0.toArray⟩ x1 w0).mono fun e w' ⟨he, hw⟩ => ⟨he, hw ▸ Below.refl _ _⟩) rfl
def strconv_Itoa (_N : Nat) (n : Int) : Option TN := if -9223372036854775808 <= n /\ n <= 9223372036854775807 then some (Go.Lib.itoa n) else none
theorem K1 : Au Tryz.prog 151 := fun _ _ => by kernel_rfl
theorem L7 (N : Nat) (w0 : World) (F0 : Mem) (hF : TP w0 F0) (hG : Dy F0) (x0 : Int) (r : TN) (h : strconv_Itoa N x0 = some r) :
  Calls Tryz.prog 151 ([(.int .i64 x0)] : List Value).toArray w0 (Bd w0 F0 fun _ v => v = (.string ⟨(r).toArray⟩)) := by
 unfold strconv_Itoa at h
 split at h
 ·rename_i ha
  cases h
  refine Bd.below hF ((Tryz.strconv_Itoa x0 ha.1 ha.2 w0 (hG w0 hF).1).mono ?_) rfl
  rintro e w' ⟨rfl, k, os, rfl⟩
  exact ⟨rfl, rfl, rfl, rfl, by simp [grow, World.drewN], fun j hj => by
   show ((w0.drewN k).heap ++ os)[j]? = _
   rw [Array.getElem?_append_left (show j < (w0.drewN k).heap.size from hj)]; rfl⟩
 ·cases h
def C9 (_N : Nat) (s : TN) : Option (Int × Bool) := if s.length <= 281474976710656 then (match Go.Lib.atoiAll s with
 | .ok v => some (v, false)
 | .range => some (Go.Lib.atoiSat s, true)
 | _ => none) else none
theorem K2 : Au Tryz.prog 248 := fun _ _ => by kernel_rfl
theorem L8 (N : Nat) (w0 : World) (F0 : Mem) (hF : TP w0 F0) (hG : Dy F0) (x0 : TN) (r : Int × Bool) (h : C9 N x0 = some r) :
  Calls Tryz.prog 248 ([(.string ⟨(x0).toArray⟩)] : List Value).toArray w0 (Bd w0 F0 fun _ v => ∃ (vq1_0 : Value), v = (.tuple #[(.int .i64 r.1), vq1_0]) /\ S3 r.2 vq1_0) := by
 unfold C9 at h
 split at h
 ·rename_i ha
  have hsz : (⟨x0.toArray⟩ : ByteArray).size <= 281474976710656 := by simpa [ByteArray.size] using ha
  split at h
  ·rename_i v hv
   cases h
   refine Bd.below hF ((Tryz.strconv_Atoi_ok ⟨x0.toArray⟩ (by omega) v (by simpa using hv) w0).mono ?_) ⟨.nilIface, rfl, rfl⟩
   rintro e w' ⟨rfl, (rfl | ⟨t, rfl⟩)⟩
   ·exact ⟨rfl, Below.refl _ _⟩
   ·exact ⟨rfl, rfl, rfl, rfl, by rw [Go.Lib.bytesWorld_size]; omega, fun j hj => Go.Lib.bytesWorld_at_old w0 _ _ j hj⟩
  ·rename_i hv
   cases h
   obtain ⟨tp, p, hvar⟩ := (hG w0 hF).2
   refine (Tryz.strconv_Atoi_range_var ⟨x0.toArray⟩ hsz (by simpa using hv) tp p w0 hvar).mono ?_
   rintro e w' ⟨n, rfl, _, _, hb⟩
   exact ⟨_, F0, rfl, HS.below hF hb, _, rfl, _, _, rfl⟩
  ·cases h
 ·cases h
end
def B2 {σ : Type} (N : Nat) (y : (σ -> An -> Option (Bool × σ))) (z0 : TN) (z1 : (Int -> Int -> Int -> Option TN)) (s : σ) : (Int × σ) -> Option (Bv σ (Int × σ)) := fun s4 =>
 (bif (decide (s4.1 < (z0.length : Int))) then ((IZ z0 s4.1 (W64 (s4.1 + 1))).bind fun r33 => ((Gi z0 s4.1).bind fun c41 => (bif ((c41 == 32) || (c41 == 9)) then some (.next ((W64 (s4.1 + 1)), s4.2)) else ((bif ((decide (c41 >= 48)) && (decide (c41 <= 57))) then ((z1 s4.1 48 57).bind fun r87 => some (1, r87)) else ((bif ((decide (c41 >= 97)) && (decide (c41 <= 122))) then ((z1 s4.1 97 122).bind fun r126 => some (2, r126)) else ((IZ z0 s4.1 (z0.length : Int)).bind fun r138 => ((strings_HasPrefix N r138 ([61, 62] : TN)).bind fun r141 => ((bif r141 then some (3, ([61, 62] : TN)) else ((strings_IndexByte N ([40, 41, 44, 58, 61, 60, 43, 45, 42, 10] : TN) c41).bind fun r168 => ((bif (decide (r168 >= 0)) then some 3 else some 4).bind fun j179 => some (j179, r33)))).bind fun j152 => some (j152.1, j152.2))))).bind fun j114 => some (j114.1, j114.2))).bind fun j75 => ((y s4.2 ({ kind_ := j75.1, at_ := s4.1, text_ := j75.2 } : An)).bind fun q193 => (bif (!q193.1) then some (.ret q193.2) else some (.next ((W64 (s4.1 + (j75.2.length : Int))), q193.2)))))))) else some (.done (s4.1, s4.2)))
def Fz {σ : Type} (N : Nat) (y : σ -> An -> Option (Bool × σ)) (z0 : TN) (z1 : (Int -> Int -> Int -> Option TN)) (s : σ) : Option σ :=
 ((Be (B2 N y z0 z1 s) N (0, s)).bind fun o => o.k (fun r => some r) (fun s15 => ((y s15.2 ({ kind_ := 0, at_ := (z0.length : Int), text_ := ([] : TN) } : An)).bind fun q208 => some q208.2)))
theorem J3 : Au Tryz.prog 181 := fun _ _ => by kernel_rfl
theorem KB (N : Nat) (F0 : Mem) (z0 : TN) (bz0 : Nat) (hz0 : F0 bz0 = some (oc #[(.string ⟨(z0).toArray⟩)] 9)) (z1 : (Int -> Int -> Int -> Option TN)) (gz1_0 : FuncId) (fz1_0 : List Value) (kz1_0 : List Value) (hoz1_0 : Au Tryz.prog gz1_0) (hpz1_0 : PA F0 gz1_0 fz1_0 kz1_0 z1) (bz1 : Nat) (hz1 : F0 bz1 = some (oc #[(.func (.func gz1_0) fz1_0.toArray kz1_0.toArray)] 193)) :
  Ot Tryz.prog 181 [(pt bz0 0), (pt bz1 0)] F0 [] Nj Pj Ph (fun {_} y s => Fz N y z0 z1 s) := by
 intro σ wb w0 Fb F1 l y J s r Lf le01 hJm hs0 hJ hY h
 have hs0 : HS wb Fb w0 F1 Lf := hs0
 refine FO (n := 80) (c := CT Tryz.f181) Tryz.func181 (by kernel_rfl) (by kernel_rfl) (by kernel_rfl) ?_
 refine Sq ?_
 refine Sq (Rg [0] ?_)
 refine Vs 1 ?_
 refine Nt ?_
 obtain ⟨o1, ho2, h3⟩ := bind_some h
 refine Tu (fun f w => ∃ (s15 : (Int × σ)) (F3 : Mem) (Lf19 : Own), o1 = .done s15 /\ HS wb Fb w F3 Lf19 /\ Tn F1 F3 /\ FI f [] [(0, (.func (.yield l) #[] #[])), (1, (pt bz0 0))] /\ J s15.2 F3 Lf19) ?_ ?_
 ·refine Bk ?_
  refine Tm (by kernel_rfl) (fun m f w => ∃ (s4 : (Int × σ)) (F2 : Mem) (Lf8 : Own), Be (B2 N y z0 z1 s) m s4 = some o1 /\ HS wb Fb w F2 Lf8 /\ Tn F1 F2 /\ FI f [] [(0, (.func (.yield l) #[] #[])), (1, (pt bz0 0)), (2, (pt bz1 0)), (4, (vi s4.1))] /\ J s4.2 F2 Lf8) N ⟨(0, s), F1, Lf, ho2, hs0, (To _), fI, hJ⟩ ?_
  rintro m24 f w5 ⟨s4, F2, Lf8, hit25, hs6, le7, ⟨_, rfl⟩, hJ9⟩
  obtain ⟨m26, fl27, rfl, hb28, hnx29⟩ := A5 hit25
  refine Sq ?_
  refine Sq (Rg [0, 1, 2, 3] ?_)
  refine Vs 1 ?_
  refine Ld (hs6.pers _ _ ((le01.trans le7) _ _ hz0)) ?_
  refine Vs 1 ?_
  refine Vs 1 ?_
  refine Nt ?_
  refine Cd hb28 (fun hb30 h31 => ?_) (fun hb30 h32 => ?_)
  ·refine Sc ?_
   refine Ad ?_
   refine Bk ?_
   refine Sq (Rg [0, 1, 2, 3, 4, 5, 6, 7, 8] ?_)
   refine Vs 1 ?_
   refine Ld (hs6.pers _ _ ((le01.trans le7) _ _ hz0)) ?_
   refine Vs 1 ?_
   refine Vs 1 ?_
   refine Vs 1 ?_
   obtain ⟨r33, hr34, h35⟩ := bind_some h31
   refine V 16 9 (Fw (t := 9) (x := (.tmp 12)) (lo := (some (.tmp 13))) (hi := (some (.tmp 15))) (a := z0) (il := s4.1) (ih := (W64 (s4.1 + 1))) (v := r33) rfl (by kernel_rfl) rfl rfl hr34) ?_
   refine Vs 1 ?_
   refine Al' 97 #[(vi 0), (vi 0), (.string ⟨(([] : TN)).toArray⟩)] hs6 (fun b36 w37 hs38 => ?_)
   refine St0 #[(vi 4), (vi s4.1), (.string ⟨(r33).toArray⟩)] hs38 (fun w39 hs40 => ?_)
   refine Nss ?_
   refine Sq (Rg [0, 1, 2, 3] ?_)
   refine Ld (hs40.pers _ _ ((le01.trans le7) _ _ hz0)) ?_
   refine Vs 1 ?_
   obtain ⟨c41, hr42, h43⟩ := bind_some h35
   refine V 20 5 (CC (t := 9) (x := (.tmp 18)) (y := (.tmp 19)) (a := z0) (k := .i64) (i := s4.1) (v := c41) rfl rfl (by kernel_rfl) hr42) ?_
   refine Vs 1 ?_
   refine Nt ?_
   refine Bk ?_
   refine Sq (Rg [0, 1, 2, 3, 4, 5, 6] ?_)
   refine Tt (fun f w => ∃ (F4 : Mem), HS wb Fb w F4 ((sb b36 #[(vi 4), (vi s4.1), (.string ⟨(r33).toArray⟩)] 97) :: Lf8) /\ Tn F2 F4 /\ FI f [] [(0, (.func (.yield l) #[] #[])), (1, (pt bz0 0)), (2, (pt bz1 0)), (4, (vi s4.1)), (5, (pt b36 0)), (6, (.int .u8 c41)), (21, (.bool ((c41 == 32) || (c41 == 9))))]) ?_ ?_
   ·refine Vs 1 ?_
    refine Vs 1 ?_
    refine Vs 1 ?_
    refine Ts (c41 == 32) (fun hb55 => ?_) (fun hb55 => ?_)
    ·refine Ss hb55 1 ?_--2
     refine Ss hb55 1 ?_--2
     refine Pk1 hb55 ?_
     refine Vs 1 ?_
     exact Tj ⟨rfl, F2, hs40, (To _), (fJ ⟨rfl, rfl, rfl, rfl, rfl, rfl, (congrArg Value.bool (Fk hb55 rfl)), trivial⟩)⟩
    ·refine Vgs hb55 1 ?_--2
     refine Vgs hb55 1 ?_--2
     refine Pk0 hb55 ?_
     refine Vs 1 ?_
     exact Tj ⟨rfl, F2, hs40, (To _), (fJ ⟨rfl, rfl, rfl, rfl, rfl, rfl, (congrArg Value.bool (B7 hb55 rfl)), trivial⟩)⟩
   ·rintro f w44 ⟨F4, hs45, le46, ⟨_, rfl⟩⟩
    refine Ad ?_
    refine Cd h43 (fun hb56 h57 => ?_) (fun hb56 h58 => ?_)
    ·refine Sq (Rg [0, 1, 2] ?_)
     refine Vs 1 ?_
     refine Vs 1 ?_
     refine Vs 1 ?_
     refine Nt ?_
     refine Ex ?_
     refine KX (by decide) ?_
     refine AC ?_
     refine AL rfl ?_
     have hn59 := AW h57 hnx29
     exact ⟨m26, Nat.lt_succ_self _, ((W64 (s4.1 + 1)), s4.2), F4, Lf8, hn59, hs45.dr0, (le7.trans le46), fI, (hJm _ _ _ _ hJ9 le46)⟩
    ·refine Sq (Rg [0, 1, 2, 3, 4, 5, 6] ?_)
     refine Tt (fun f w => ∃ (F5 : Mem), HS wb Fb w F5 ((sb b36 #[(vi 4), (vi s4.1), (.string ⟨(r33).toArray⟩)] 97) :: Lf8) /\ Tn F4 F5 /\ FI f [] [(0, (.func (.yield l) #[] #[])), (1, (pt bz0 0)), (2, (pt bz1 0)), (4, (vi s4.1)), (5, (pt b36 0)), (6, (.int .u8 c41)), (30, (.bool ((decide (c41 >= 48)) && (decide (c41 <= 57)))))]) ?_ ?_
     ·refine Vs 1 ?_
      refine Vs 1 ?_
      refine Vs 1 ?_
      refine Ts (decide (c41 >= 48)) (fun hb71 => ?_) (fun hb71 => ?_)
      ·refine Vgs hb71 1 ?_--2
       refine Vgs hb71 1 ?_--2
       refine Pk1 hb71 ?_
       refine Vs 1 ?_
       exact Tj ⟨rfl, F4, hs45, (To _), (fJ ⟨rfl, rfl, rfl, rfl, rfl, rfl, (congrArg Value.bool (Cz hb71 rfl)), trivial⟩)⟩
      ·refine Ss hb71 1 ?_--2
       refine Ss hb71 1 ?_--2
       refine Pk0 hb71 ?_
       refine Vs 1 ?_
       exact Tj ⟨rfl, F4, hs45, (To _), (fJ ⟨rfl, rfl, rfl, rfl, rfl, rfl, (congrArg Value.bool (Dw hb71 rfl)), trivial⟩)⟩
     ·rintro f w60 ⟨F5, hs61, le62, ⟨_, rfl⟩⟩
      refine Ad ?_
      obtain ⟨j75, hj82, h83⟩ := bind_some h58
      refine Tu (fun f w => ∃ (F6 : Mem), HS wb Fb w F6 ((sb b36 #[(vi j75.1), (vi s4.1), (.string ⟨(j75.2).toArray⟩)] 97) :: Lf8) /\ Tn F5 F6 /\ FI f [] [(0, (.func (.yield l) #[] #[])), (1, (pt bz0 0)), (2, (pt bz1 0)), (4, (vi s4.1)), (5, (pt b36 0))]) ?_ ?_
      ·refine Cd hj82 (fun hb84 h85 => ?_) (fun hb84 h86 => ?_)
       ·refine Rg [0, 1, 2, 3, 4, 5, 6] ?_
        refine Ld (hs61.pers _ _ ((((le01.trans le7).trans le46).trans le62) _ _ hz1)) ?_
        refine Vs 1 ?_
        obtain ⟨r87, hr88, h89⟩ := bind_some h85
        refine Cq hoz1_0 hs61 (hpz1_0 w60 F5 s4.1 48 57 _ (((le01.trans le7).trans le46).trans le62) hs61.pers hr88) ?_
        rintro _ F7 w91 hs92 le93 rfl
        refine Vs 1 ?_
        refine St0 #[(vi 1), (vi s4.1), (.string ⟨(r33).toArray⟩)] hs92 (fun w95 hs96 => ?_)
        refine Vs 1 ?_
        refine St0 #[(vi 1), (vi s4.1), (.string ⟨(r87).toArray⟩)] hs96 (fun w97 hs98 => ?_)
        refine Tj ?_
        obtain rfl := Ab h89
        exact .inl ⟨rfl, F7, hs98, le93, fI⟩
       ·refine Sq (Rg [0, 1, 2, 3, 4, 5, 6] ?_)
        refine Tt (fun f w => ∃ (F8 : Mem), HS wb Fb w F8 ((sb b36 #[(vi 4), (vi s4.1), (.string ⟨(r33).toArray⟩)] 97) :: Lf8) /\ Tn F5 F8 /\ FI f [] [(0, (.func (.yield l) #[] #[])), (1, (pt bz0 0)), (2, (pt bz1 0)), (4, (vi s4.1)), (5, (pt b36 0)), (6, (.int .u8 c41)), (42, (.bool ((decide (c41 >= 97)) && (decide (c41 <= 122)))))]) ?_ ?_
        ·refine Vs 1 ?_
         refine Vs 1 ?_
         refine Vs 1 ?_
         refine Ts (decide (c41 >= 97)) (fun hb110 => ?_) (fun hb110 => ?_)
         ·refine Vgs hb110 1 ?_--2
          refine Vgs hb110 1 ?_--2
          refine Pk1 hb110 ?_
          refine Vs 1 ?_
          exact Tj ⟨rfl, F5, hs61, (To _), (fJ ⟨rfl, rfl, rfl, rfl, rfl, rfl, (congrArg Value.bool (Cz hb110 rfl)), trivial⟩)⟩
         ·refine Ss hb110 1 ?_--2
          refine Ss hb110 1 ?_--2
          refine Pk0 hb110 ?_
          refine Vs 1 ?_
          exact Tj ⟨rfl, F5, hs61, (To _), (fJ ⟨rfl, rfl, rfl, rfl, rfl, rfl, (congrArg Value.bool (Dw hb110 rfl)), trivial⟩)⟩
        ·rintro f w99 ⟨F8, hs100, le101, ⟨_, rfl⟩⟩
         refine Ad ?_
         obtain ⟨j114, hj121, h122⟩ := bind_some h86
         refine Tu (fun f w => ∃ (F9 : Mem), HS wb Fb w F9 ((sb b36 #[(vi j114.1), (vi s4.1), (.string ⟨(j114.2).toArray⟩)] 97) :: Lf8) /\ Tn F8 F9 /\ FI f [] [(0, (.func (.yield l) #[] #[])), (1, (pt bz0 0)), (2, (pt bz1 0)), (4, (vi s4.1)), (5, (pt b36 0))]) ?_ ?_
         ·refine Cd hj121 (fun hb123 h124 => ?_) (fun hb123 h125 => ?_)
          ·refine Rg [0, 1, 2, 3, 4, 5, 6] ?_
           refine Ld (hs100.pers _ _ (((((le01.trans le7).trans le46).trans le62).trans le101) _ _ hz1)) ?_
           refine Vs 1 ?_
           obtain ⟨r126, hr127, h128⟩ := bind_some h124
           refine Cq hoz1_0 hs100 (hpz1_0 w99 F8 s4.1 97 122 _ ((((le01.trans le7).trans le46).trans le62).trans le101) hs100.pers hr127) ?_
           rintro _ F10 w130 hs131 le132 rfl
           refine Vs 1 ?_
           refine St0 #[(vi 2), (vi s4.1), (.string ⟨(r33).toArray⟩)] hs131 (fun w134 hs135 => ?_)
           refine Vs 1 ?_
           refine St0 #[(vi 2), (vi s4.1), (.string ⟨(r126).toArray⟩)] hs135 (fun w136 hs137 => ?_)
           refine Tj ?_
           obtain rfl := Ab h128
           exact .inl ⟨rfl, F10, hs137, le132, fI⟩
          ·refine Sq (Rg [0, 1, 2, 3, 4] ?_)
           refine Ld (hs100.pers _ _ (((((le01.trans le7).trans le46).trans le62).trans le101) _ _ hz0)) ?_
           refine Vs 1 ?_
           obtain ⟨r138, hr139, h140⟩ := bind_some h125
           refine V 57 9 (Fw (t := 9) (x := (.tmp 55)) (lo := (some (.tmp 56))) (hi := none) (a := z0) (il := s4.1) (ih := (z0.length : Int)) (v := r138) rfl (by kernel_rfl) rfl rfl hr139) ?_
           obtain ⟨r141, hr142, h143⟩ := bind_some h140
           refine Cl' Hx hs100 (Ip N w99 F8 hs100.pers r138 (([61, 62] : TN)) _ hr142) ?_
           rintro _ F11 w145 hs146 le147 rfl
           refine Vs 1 ?_
           refine Nt ?_
           obtain ⟨j152, hj159, h160⟩ := bind_some h143
           refine Tu (fun f w => ∃ (F12 : Mem), HS wb Fb w F12 ((sb b36 #[(vi j152.1), (vi s4.1), (.string ⟨(j152.2).toArray⟩)] 97) :: Lf8) /\ Tn F11 F12 /\ FI f [] [(0, (.func (.yield l) #[] #[])), (1, (pt bz0 0)), (2, (pt bz1 0)), (4, (vi s4.1)), (5, (pt b36 0))]) ?_ ?_
           ·refine Cd hj159 (fun hb161 h162 => ?_) (fun hb161 h163 => ?_)
            ·refine Rg [0, 1, 2, 3] ?_
             refine Vs 1 ?_
             refine St0 #[(vi 3), (vi s4.1), (.string ⟨(r33).toArray⟩)] hs146 (fun w164 hs165 => ?_)
             refine Vs 1 ?_
             refine St0 #[(vi 3), (vi s4.1), (.string ⟨(([61, 62] : TN)).toArray⟩)] hs165 (fun w166 hs167 => ?_)
             refine Tj ?_
             obtain rfl := Ab h162
             exact .inl ⟨rfl, F11, hs167, (To _), fI⟩
            ·refine Sq (Rg [0, 1, 2, 3] ?_)
             refine Vs 1 ?_
             obtain ⟨r168, hr169, h170⟩ := bind_some h163
             refine Cl' Hw hs146 (Io N w145 F11 hs146.pers (([40, 41, 44, 58, 61, 60, 43, 45, 42, 10] : TN)) c41 _ hr169) ?_
             rintro _ F13 w172 hs173 le174 rfl
             refine Vs 1 ?_
             refine Vs 1 ?_
             refine Nt ?_
             obtain ⟨j179, hj186, h187⟩ := bind_some h170
             refine Tu (fun f w => ∃ (F14 : Mem), HS wb Fb w F14 ((sb b36 #[(vi j179), (vi s4.1), (.string ⟨(r33).toArray⟩)] 97) :: Lf8) /\ Tn F13 F14 /\ FI f [] [(0, (.func (.yield l) #[] #[])), (1, (pt bz0 0)), (2, (pt bz1 0)), (4, (vi s4.1)), (5, (pt b36 0))]) ?_ ?_
             ·refine Cd hj186 (fun hb188 h189 => ?_) (fun hb188 h190 => ?_)
              ·refine Rg [0, 1] ?_
               refine Vs 1 ?_
               refine St0 #[(vi 3), (vi s4.1), (.string ⟨(r33).toArray⟩)] hs173 (fun w191 hs192 => ?_)
               refine Tj ?_
               obtain rfl := Ab h189
               exact .inl ⟨rfl, F13, hs192, (To _), fI⟩
              ·refine Sc ?_
               obtain rfl := Ab h190
               exact .inl ⟨rfl, F13, hs173, (To _), fI⟩
             ·rintro f w176 ⟨F14, hs177, le178, ⟨_, rfl⟩⟩
              obtain rfl := Ab h187
              exact .inl ⟨rfl, F14, hs177, (le174.trans le178), fI⟩
           ·rintro f w149 ⟨F12, hs150, le151, ⟨_, rfl⟩⟩
            obtain rfl := Ab h160
            exact .inl ⟨rfl, F12, hs150, (le147.trans le151), fI⟩
         ·rintro f w111 ⟨F9, hs112, le113, ⟨_, rfl⟩⟩
          obtain rfl := Ab h122
          exact .inl ⟨rfl, F9, hs112, (le101.trans le113), fI⟩
      ·rintro f w72 ⟨F6, hs73, le74, ⟨_, rfl⟩⟩
       refine AA ?_
       refine Ad ?_
       refine Sq (Rg [0, 1, 2, 3, 4, 5] ?_)
       refine Vs 1 ?_
       refine Vs 1 ?_
       refine Ld hs73.at0 ?_
       refine Vs 1 ?_
       refine Vs 1 ?_
       refine Vs 1 ?_
       refine Nss (Rg [0, 1, 2, 3] ?_)
       refine Vs 1 ?_
       refine Ld hs73.at0 ?_
       obtain ⟨q193, hq194, h195⟩ := bind_some h83
       refine RWP.yield (dst := (some 73)) (ty := 4) (g := none) (by kernel_rfl) rfl (f0 := (.tmp 71)) (aos := #[(.tmp 72)]) (ats := #[97]) (l := l) (args := [(.agg #[(vi j75.1), (vi s4.1), (.string ⟨(j75.2).toArray⟩)])]) rfl rfl (hY s4.2 ({ kind_ := j75.1, at_ := s4.1, text_ := j75.2 } : An) w72 F6 [(sb b36 #[(vi j75.1), (vi s4.1), (.string ⟨(j75.2).toArray⟩)] 97)] Lf8 q193 (((le7.trans le46).trans le62).trans le74) trivial (hJm _ _ _ _ hJ9 ((le46.trans le62).trans le74)) hs73 hq194) ?_
       rintro _ w196 ⟨F15, Lf200, rfl, hs197, le198, hJ199⟩
       have hs201 : HS wb Fb w196 F15 ((sb b36 #[(vi j75.1), (vi s4.1), (.string ⟨(j75.2).toArray⟩)] 97) :: Lf200) := hs197
       refine ⟨_, rfl, ?_⟩
       refine Vs 1 ?_
       refine Nt ?_
       refine Cd h195 (fun hb202 h203 => ?_) (fun hb202 h204 => ?_)
       ·refine Rt ?_
        refine Ao ?_
        refine Aj ?_
        refine Ao ?_
        have hret := B9 h203 hnx29
        subst hret
        refine .inr ?_
        refine Aj ?_
        have hfin := Ab h3
        subst hfin
        exact ⟨rfl, .tuple #[], AE (l := []) (by kernel_rfl) (vs := []) trivial, F15, Lf200, rfl, hs201.dr0, ((((le7.trans le46).trans le62).trans le74).trans le198), hJ199⟩
       ·refine Sc ?_
        refine AA ?_
        have hn205 := AW h204 hnx29
        exact ⟨m26, Nat.lt_succ_self _, ((W64 (s4.1 + (j75.2.length : Int))), q193.2), F15, Lf200, hn205, hs201.dr0, ((((le7.trans le46).trans le62).trans le74).trans le198), fI, hJ199⟩
  ·refine Ex ?_
   refine AC ?_
   refine AC ?_
   refine AL rfl ?_
   have ho206 := A8 h32 hnx29
   exact .inl ⟨rfl, (s4.1, s4.2), F2, Lf8, ho206, hs6, le7, fI, hJ9⟩
 ·rintro f w16 ⟨s15, F3, Lf19, rfl, hs17, le18, ⟨_, rfl⟩, hJ20⟩
  have h207 := BT h3
  refine Ad ?_
  refine Rg [0, 1, 2, 3, 4] ?_
  refine Vs 1 ?_
  refine Ld (hs17.pers _ _ ((le01.trans le18) _ _ hz0)) ?_
  refine Vs 1 ?_
  refine Vs 1 ?_
  obtain ⟨q208, hq209, h210⟩ := bind_some h207
  refine RWP.yield (dst := (some 79)) (ty := 4) (g := none) (by kernel_rfl) rfl (f0 := (.tmp 75)) (aos := #[(.tmp 78)]) (ats := #[97]) (l := l) (args := [(.agg #[(vi 0), (vi (z0.length : Int)), (.string ⟨(([] : TN)).toArray⟩)])]) rfl rfl (hY s15.2 ({ kind_ := 0, at_ := (z0.length : Int), text_ := ([] : TN) } : An) w16 F3 [] Lf19 q208 le18 trivial hJ20 hs17 hq209) ?_
  rintro _ w211 ⟨F16, Lf215, rfl, hs212, le213, hJ214⟩
  have hs216 : HS wb Fb w211 F16 Lf215 := hs212
  refine ⟨_, rfl, ?_⟩
  refine Tj ?_
  have hfin := Ab h210
  subst hfin
  exact ⟨rfl, .tuple #[], AE (l := []) (by kernel_rfl) (vs := []) trivial, F16, Lf215, rfl, hs216, (le18.trans le213), hJ214⟩
section
variable {P : Program} {ro : Option Nat} {n : Nat} {R : Array Oper} {Q : Exit -> Fr -> World -> Prop} {w w0 : World} {F0 F : Mem} {L : Own} {f : Fr} {i : Nat} {rest : List Nat} {dst : Option Nat} {ty : TypeId} {g : Option (Nat × Bool)} {ρ : Operand -> Value}
theorem OG {x : Operand} {q : FuncId} {cap : Array Value} {ats : Array TypeId} (hx : ρ x = .func (.func q) #[] cap) :
  (Ax ρ (.defer { callee := .value x, args := #[], argTypes := ats }) ty).run P w = .ok (.defer { target := .fn (.func q) cap, args := #[] }) w := by
 have e : Ax ρ (.defer { callee := .value x, args := #[], argTypes := ats }) ty = (do pure (Next.defer (<- Deferred.ofValue (ρ x) (Array.map ρ #[])))) := rfl
 rw [e, hx]
 simp [Deferred.ofValue]
theorem RWP.defer0 {x : Operand} {q : FuncId} {cap : Array Value} {ats : Array TypeId} (ho : opq R i = some (none, .defer { callee := .value x, args := #[], argTypes := ats }, ty, g)) (hg : gd R f g = true) (hx : fev f x = .func (.func q) #[] cap)
  (k : RWP P none n R Q rest ⟨f.v, { target := .fn (.func q) cap, args := #[] } :: f.d⟩ w) : RWP P none n R Q (i :: rest) f w := by
 intro hok a ha
 obtain ⟨o, hR, hd, hop, hty, hgd⟩ := Ct ho
 rw [wpOpsIn]
 simp only [hR]
 rw [ha.wanted R o, hgd, hg]
 simp only [if_true]
 refine ⟨BP, ?_⟩
 show o.uponIn (FW none) 0 P a _ _ ((execOp a.eval o).run P w)
 rw [Cm, ha.evalF, hop, hty, OG hx]
 simp only [Oper.uponIn]
 rw [hd]
 exact k hok _ ⟨ha.size, ha.at_, by simp [Act.put, ha.defers]⟩
theorem KY {x : Operand} {t q : TypeId} {v : Value} (hx : ρ x = .iface q v) (hu : Jv P q = true) :
  (Ax ρ (.typeAssert x t q true) ty).run P w = .ok (.value (.tuple #[v, .bool true])) w := by
 have e : Ax ρ (.typeAssert x t q true) ty = (do pure (Next.value (<- Instr.typeAssert (ρ x) t q true))) := rfl
 rw [e, hx]
 unfold Jv at hu
 split at hu
 ·cases hu
 ·rename_i d h1 h2
  cases d <;> first | exact (h1 _ rfl).elim | simp [Instr.typeAssert, run_underlying h2, Result.andThen]
 ·cases hu
theorem GW {ops : Array Oper} {QS : Exit -> Act -> List Frame -> World -> Prop} {a : Act} {cs : List Frame} {d d2 : Nat} {ty ty2 : TypeId}
  (ho : opq ops 0 = some (some d, .call { callee := .builtin .recover, args := #[], argTypes := #[] }, ty, none)) (ho2 : opq ops 1 = some (some d2, .assign (.tmp d), ty2, none)) (hl : ops.size = 2) (hsz : d < a.tmps.size)
  (h : match recoverD cs with | some (v, cs') => QS .normal ((a.put (some d) v).put (some d2) v) cs' w | none => QS .normal ((a.put (some d) .nilIface).put (some d2) .nilIface) cs w) : wpOpsS P ops QS (List.range ops.size) a cs w := by
 rw [hl]
 obtain ⟨o, hR, hd, hop, hty, hgd⟩ := Ct ho
 obtain ⟨o2, hR2, hd2, hop2, hty2, hgd2⟩ := Ct ho2
 show wpOpsS P ops QS [0, 1] a cs w
 have step2 : ∀ (v : Value) (cs' : List Frame), QS .normal ((a.put (some d) v).put (some d2) v) cs' w -> wpOpsS P ops QS [1] (a.put (some d) v) cs' w := by
  intro v cs' hq
  simp only [wpOpsS, hR2]
  have hw : ∀ y, Region.wanted o2 y = true := fun y => by unfold Region.wanted; rw [hgd2]
  rw [if_pos (hw _)]
  have hev : (a.put (some d) v).eval (.tmp d) = v := by
   simp [Act.eval, Act.put, hsz]
  have hx : (execOp (a.put (some d) v).eval o2).run P w = .ok (.value v) w := by
   rw [Cm, hop2]
   exact AM (ρ := (a.put (some d) v).eval) hev
  rw [hx]
  simp only [Oper.upon]
  rw [hd2]; exact hq
 rw [wpOpsS]
 simp only [hR]
 have hw : Region.wanted o (yielded ops a.tmps) = true := by unfold Region.wanted; rw [hgd]
 rw [if_pos hw]
 have hx : (execOp a.eval o).run P w = .ok .recover w := by rw [Cm, hop]; rfl
 rw [hx]
 simp only
 cases hr : recoverD cs with
 | none => rw [hr] at h; simp only at h ⊢; rw [hd]; exact step2 _ _ h
 | some p => obtain ⟨v, cs'⟩ := p; rw [hr] at h; simp only at h ⊢; rw [hd]; exact step2 _ _ h
theorem RT {c : Code} {a : Act} {cs : List Frame} {Q' : Exit -> Fr -> World -> Prop} {QS : Exit -> Act -> List Frame -> World -> Prop} (h : CWP P none n c Q' f w) (hf : Ei n f a)
  (hq : ∀ e a' w', lq n Q' e a' w' -> QS e a' cs w') : c.wpS P QS a cs w := wpS_of_wp (wp_mono (wpIn_wide.1 (h a hf)) hq)
theorem QK {args : List Value} (hsz : decide (args.length <= n) = true) : Ei n (f0 args) { tmps := args.toArray ++ Array.replicate (n - args.toArray.size) undef, defers := [] } := by
 have hsz' : args.length <= n := by simpa using hsz
 refine ⟨?_, ?_, rfl⟩
 ·simp; omega
 ·intro i
  simp only [f0]
  rw [Array.getD_eq_getD_getElem?]
  by_cases hi : i < args.length
  ·simp [Array.getElem?_append, hi]
  ·rw [Array.getElem?_append_right (by simp; omega)]
   rw [List.getD_eq_getElem?_getD, List.getElem?_eq_none (by omega)]
   simp only [List.getElem?_toArray, Array.getElem?_replicate]
   split <;> rfl
end
section
variable {wb w : World} {Fb F : Mem} {Lf : Own}
theorem RK : ∃ id ops, cs1 (CT Tryz.f131) = .region id ops false /\ CT Tryz.f131 = .seq (cs1 (CT Tryz.f131)) (cs2 (CT Tryz.f131)) := ⟨_, _, rfl, rfl⟩
theorem KM {Q : Exit -> Act -> List Frame -> World -> Prop} {a : Act} {cs : List Frame} {w : World} (h : wpOpsS Tryz.prog (EM (cs1 (CT Tryz.f131))) (Exit.thenS ((cs2 (CT Tryz.f131)).wpS Tryz.prog Q) Q) (List.range (EM (cs1 (CT Tryz.f131))).size) a cs w) : (CT Tryz.f131).wpS Tryz.prog Q a cs w := by
 obtain ⟨id, ops, h1, h2⟩ := RK
 rw [h2]
 refine wpS_seq ?_
 rw [h1] at h ⊢
 exact wpS_region h
abbrev IA (b : Ak) : Value := .agg #[.int .i64 b.e_, .int .i64 b.at_]
abbrev be (v : Int) : Obj := .cells #[.int .i64 v] 27 (0, 0)
abbrev ba (v : Int) : Obj := .cells #[.int .i64 v] 3 (0, 0)
abbrev G5 (b c : Nat) : List Value := [.pointer (some ⟨b, 0, none⟩), .pointer (some ⟨c, 0, none⟩)]
theorem Om {b c : Nat} : CallsD Tryz.prog 131 (G5 b c).toArray .returning w fun e u' w' => u' = .returning /\ e = .returned (.tuple #[]) /\ w' = w := by
 refine callsD_of_wpS (fn := Tryz.f131) (c := CT Tryz.f131) Tryz.func131 (by kernel_rfl) fun c0 cs hu => KM (GW (d := 5) (d2 := 2) (ty := 20) (ty2 := 20) (by kernel_rfl) (by kernel_rfl) (by kernel_rfl) (by rw [show Tryz.f131.ntmps = 20 from by kernel_rfl]; simp) ?_)
 have hr : recoverD (c0 :: cs) = none := by simp [recoverD, hu]
 rw [hr]
 simp only
 refine RT (n := 20) (f := upd (upd (f0 (G5 b c)) 5 .nilIface) 2 .nilIface) (Q' := fun e f w' => e = .normal /\ w' = w /\ f.d = []) ?_ (((QK (n := 20) (args := G5 b c) rfl).put (dst := some 5) (by decide) .nilIface).put (dst := some 2) (by decide) .nilIface) ?_
 ·refine Sq ?_
  refine Rg [0, 1] ?_
  refine V 6 20 (Bb (x := .tmp 2) (v := .nilIface) rfl) ?_
  refine V 7 4 (I1 (t := 20) (t' := 20) (x := .tmp 6) (c := .nilIface) (b := false) (v := .nilIface) rfl rfl rfl (by kernel_rfl)) ?_
  refine Tj ?_
  refine Ad ?_
  refine CWP.cond0 (t := false) (by kernel_rfl) rfl rfl ?_
  exact CWP.skip (by kernel_rfl) ⟨rfl, rfl, rfl⟩
 ·rintro e a' w' ⟨f, hf, rfl, rfl, hd⟩
  refine ⟨hf.defers.trans hd, .returning, by rw [<- hu], .tuple #[], ?_, rfl, rfl, rfl⟩
  rw [hf.results Tryz.f131]
  exact AE (l := []) (by kernel_rfl) (vs := []) trivial
theorem On {b c : Nat} {x : Ak} (hs : HS wb Fb w F ((some c, ba 0) :: (some b, be 0) :: Lf)) :
  CallsD Tryz.prog 131 (G5 b c).toArray (.panicking [{ v := .iface 158 (IA x), recovered := false }]) w fun e u' w' =>
   settle u' = .returning /\ e = .returned (.tuple #[]) /\ HS wb Fb w' F ((some c, ba x.at_) :: (some b, be x.e_) :: Lf) := by
 refine callsD_of_wpS (fn := Tryz.f131) (c := CT Tryz.f131) Tryz.func131 (by kernel_rfl) fun c0 cs hu => KM (GW (d := 5) (d2 := 2) (ty := 20) (ty2 := 20) (by kernel_rfl) (by kernel_rfl) (by kernel_rfl) (by rw [show Tryz.f131.ntmps = 20 from by kernel_rfl]; simp) ?_)
 have hr : recoverD (c0 :: cs) = some (.iface 158 (IA x), { c0 with mode := .panicking [{ v := .iface 158 (IA x), recovered := true }] } :: cs) := by simp [recoverD, hu]
 rw [hr]
 simp only
 refine RT (n := 20) (f := upd (upd (f0 (G5 b c)) 5 (.iface 158 (IA x))) 2 (.iface 158 (IA x))) (Q' := fun e f w' => e = .normal /\ f.d = [] /\ HS wb Fb w' F ((some c, ba x.at_) :: (some b, be x.e_) :: Lf)) ?_ (((QK (n := 20) (args := G5 b c) rfl).put (dst := some 5) (by decide) _).put (dst := some 2) (by decide) _) ?_
 ·refine Sq ?_
  refine Rg [0, 1] ?_
  refine V 6 20 (Bb (x := .tmp 2) (v := .iface 158 (IA x)) rfl) ?_
  refine V 7 4 (I1 (t := 20) (t' := 20) (x := .tmp 6) (c := .nilIface) (b := true) (v := .iface 158 (IA x)) ⟨_, _, rfl⟩ rfl rfl (by kernel_rfl)) ?_
  refine Tj ?_
  refine Ad ?_
  refine CWP.cond1 (t := true) (by kernel_rfl) rfl rfl ?_
  refine Sq ?_
  refine Rg [0, 1, 2, 3, 4, 5, 6, 7] ?_
  refine V 9 20 (Bb (x := .tmp 2) (v := .iface 158 (IA x)) rfl) ?_
  refine V 10 159 (KY (x := .tmp 9) (t := 20) (q := 158) (v := IA x) rfl (by kernel_rfl)) ?_
  refine V 8 159 (Bb (x := .tmp 10) (v := .tuple #[IA x, .bool true]) rfl) ?_
  refine V 11 158 (Ch (x := .tmp 8) (vs := #[IA x, .bool true]) (i := 0) (v := IA x) rfl rfl) ?_
  refine V 12 4 (Ch (x := .tmp 8) (vs := #[IA x, .bool true]) (i := 1) (v := .bool true) rfl rfl) ?_
  refine Tv (dst := some 3) (ty := 0) (g := none) (by kernel_rfl) rfl (t := 158) (z := .agg #[.int .i64 0, .int .i64 0]) (by kernel_rfl) (C := #[.int .i64 0, .int .i64 0]) rfl hs (fun b3 w3 hs3 => ?_)
  refine Tw (ty := 0) (g := none) (by kernel_rfl) rfl (x := .tmp 3) (y := .tmp 11) (t := 158) (gg := true) (s := 2) (v := IA x) (b := b3) (o := 0) (C := #[.int .i64 0, .int .i64 0]) rfl rfl (by kernel_rfl) hs3 (k := 0) rfl rfl rfl rfl (C' := #[.int .i64 x.e_, .int .i64 x.at_]) rfl (fun w4 (hs4 : HS wb Fb w4 F ((some b3, .cells #[.int .i64 x.e_, .int .i64 x.at_] 158 (0, 0)) :: (some c, ba 0) :: (some b, be 0) :: Lf)) => ?_)
  refine V 4 4 (AM (x := .tmp 12) (v := .bool true) rfl) ?_
  refine Tj ?_
  refine Ad ?_
  refine Sq ?_
  refine Sq ?_
  refine Rg [0, 1] ?_
  refine V 13 4 (Bb (x := .tmp 4) (v := .bool true) rfl) ?_
  refine V 14 4 (Ia (t := 4) (x := .tmp 13) (a := true) rfl) ?_
  refine Tj ?_
  refine Ad ?_
  refine CWP.cond0 (t := false) (by kernel_rfl) rfl rfl ?_
  refine CWP.skip (by kernel_rfl) ?_
  refine Ad ?_
  refine CWP.regionD (by kernel_rfl) (by kernel_rfl) (by kernel_rfl) (by kernel_rfl) (z := 6) (F := F) (Lc := [(some b3, .cells #[.int .i64 x.e_, .int .i64 x.at_] 158 (0, 0))]) (Lz := []) (l := [false, false, false, false, false, false]) (fuel := 6) (by kernel_rfl) (by kernel_rfl) hs4 (by simp) (by simp) (fun f w' => f.d = [] /\ HS wb Fb w' F ((some c, ba x.at_) :: (some b, be x.e_) :: Lf)) (fun wd hw => ?_) (fun f w' h => ⟨rfl, h.1, h.2⟩)
  refine Tz (i := 0) (v := .pointer (some ⟨b3, 0, none⟩)) (zd := true) (dst := some 16) (ty := 0) (g := none) (by kernel_rfl) (by kernel_rfl) (by kernel_rfl) (by kernel_rfl) (by kernel_rfl) rfl (fun wq hq => Cy (s := 158) (x := .tmp 3) (i := 0) (o := 0) (k := 1) (b := b3) (o0 := 0) rfl (by kernel_rfl) rfl (o1 := 0) rfl) (l' := [true, false, false, false, false, false]) (by kernel_rfl) ?_
  refine Tz (i := 1) (v := .int .i64 x.e_) (zd := true) (dst := some 17) (ty := 27) (g := none) (by kernel_rfl) (by kernel_rfl) (by kernel_rfl) (by kernel_rfl) (by kernel_rfl) rfl (fun wq hq => Bh (t := 27) (x := .tmp 16) (b := b3) (o := 0) (g := false) (s := 1) (C := #[.int .i64 x.e_, .int .i64 x.at_]) (v := .int .i64 x.e_) rfl (by kernel_rfl) (hq.1.2 0 _ _ rfl) rfl rfl rfl) (l' := [true, true, false, false, false, false]) (by kernel_rfl) ?_
  refine Tz (i := 2) (v := .pointer (some ⟨b3, 1, none⟩)) (zd := true) (dst := some 18) (ty := 0) (g := none) (by kernel_rfl) (by kernel_rfl) (by kernel_rfl) (by kernel_rfl) (by kernel_rfl) rfl (fun wq hq => Cy (s := 158) (x := .tmp 3) (i := 1) (o := 1) (k := 1) (b := b3) (o0 := 0) rfl (by kernel_rfl) rfl (o1 := 1) rfl) (l' := [true, true, true, false, false, false]) (by kernel_rfl) ?_
  refine Tz (i := 3) (v := .int .i64 x.at_) (zd := true) (dst := some 19) (ty := 3) (g := none) (by kernel_rfl) (by kernel_rfl) (by kernel_rfl) (by kernel_rfl) (by kernel_rfl) rfl (fun wq hq => Bh (t := 3) (x := .tmp 18) (b := b3) (o := 1) (g := false) (s := 1) (C := #[.int .i64 x.e_, .int .i64 x.at_]) (v := .int .i64 x.at_) rfl (by kernel_rfl) (hq.1.2 0 _ _ rfl) rfl rfl rfl) (l' := [true, true, true, true, false, false]) (by kernel_rfl) ?_
  refine TA (i := 4) (by kernel_rfl) ?_
  refine AB.store (l' := [true, true, true, true, true, false]) (zd := true) (by kernel_rfl) (by kernel_rfl) (ty := 0) (g := none) (by kernel_rfl) rfl (x := .tmp 0) (y := .tmp 17) (t := 27) (v := .int .i64 x.e_) (gg := false) (s := 1) (b := b) (o := 0) (C := #[.int .i64 0]) rfl rfl (by kernel_rfl) hw (k := 2) rfl rfl rfl rfl (C' := #[.int .i64 x.e_]) rfl (To _) (by simp) (fun e => by cases e) (fun w5 (hs5 : HS wb Fb w5 F ((some b3, .cells #[.int .i64 x.e_, .int .i64 x.at_] 158 (0, 0)) :: (some c, ba 0) :: (some b, be x.e_) :: Lf)) => ?_)
  refine TA (i := 5) (by kernel_rfl) ?_
  refine AB.store (l' := [true, true, true, true, true, true]) (zd := true) (by kernel_rfl) (by kernel_rfl) (ty := 0) (g := none) (by kernel_rfl) rfl (x := .tmp 1) (y := .tmp 19) (t := 3) (v := .int .i64 x.at_) (gg := false) (s := 1) (b := c) (o := 0) (C := #[.int .i64 0]) rfl rfl (by kernel_rfl) hs5 (k := 1) rfl rfl rfl rfl (C' := #[.int .i64 x.at_]) rfl (To _) (by simp) (fun e => by cases e) (fun w6 (hs6 : HS wb Fb w6 F ((some b3, .cells #[.int .i64 x.e_, .int .i64 x.at_] 158 (0, 0)) :: (some c, ba x.at_) :: (some b, be x.e_) :: Lf)) => ?_)
  exact TE (by kernel_rfl) ⟨rfl, hs6.drop 0⟩
 ·rintro e a' w' ⟨f, hf, rfl, hd, hs'⟩
  refine ⟨hf.defers.trans hd, _, rfl, .tuple #[], ?_, rfl, rfl, hs'⟩
  rw [hf.results Tryz.f131]
  exact AE (l := []) (by kernel_rfl) (vs := []) trivial
theorem QI (b c : Nat) (w' : World) : (invoke (.fn (.func 131) (G5 b c).toArray) #[]).run Tryz.prog w' = .ok (.enter 131 (G5 b c).toArray) w' := by
 have co : Au Tryz.prog 131 := fun _ _ => by kernel_rfl
 simp only [invoke]; rw [co]; rfl
def FA (N : Nat) (s : TN) : Option (List An) := J1 (fun {_} y st => Fz N y s (fun y0 y1 y2 => CD N y0 y1 y2 s) st)
theorem IP : Au Tryz.prog 78 := fun _ _ => by kernel_rfl
theorem Ka (N : Nat) (hs : HS wb Fb w F Lf) (s : TN) {g : FuncId} {cap : List Value} (hok : Au Tryz.prog g) (K : Option Ak -> Mem -> Own -> Prop) (hlong : decide ((s.length : Int) > 65536) = true -> ∀ F', K (some ⟨2, 0⟩) F' Lf)
  (hrun : decide ((s.length : Int) > 65536) = false -> ∃ l, FA N s = some l /\ ∀ w1 F1 be_ ba_ bp a n, Tn F F1 -> LC l.length n -> SlA Al F1 a l -> HS wb Fb w1 F1 ((some bp, .cells #[.slice a l.length n, .int .i64 0] 100 (0, 0)) :: (some ba_, ba 0) :: (some be_, be 0) :: Lf) ->
   Calls Tryz.prog g (.pointer (some ⟨bp, 0, none⟩) :: cap).toArray w1 (fun e w2 =>
   (∃ v F2 Lf2, e = .returned v /\ HS wb Fb w2 F2 ((some ba_, ba 0) :: (some be_, be 0) :: Lf2) /\ Tn F1 F2 /\ K none F2 Lf2) \/
   (∃ x F2 Lf2, e = .panicked [{ v := .iface 158 (IA x), recovered := false }] /\ HS wb Fb w2 F2 ((some ba_, ba 0) :: (some be_, be 0) :: Lf2) /\ Tn F1 F2 /\ K (some x) F2 Lf2))) :
  Calls Tryz.prog 78 ([.string ⟨s.toArray⟩, .func (.func g) #[] cap.toArray] : List Value).toArray w (fun e w' => ∃ o F' Lf', e = .returned (match o with | none => .tuple #[.int .i64 0, .int .i64 0] | some x => .tuple #[.int .i64 x.e_, .int .i64 x.at_]) /\ HS wb Fb w' F' Lf' /\ Tn F F' /\ K o F' Lf') := by
 refine calls_of_wp_defers (fn := Tryz.f78) (c := CT Tryz.f78) Tryz.func78 (by kernel_rfl) ?_
 have key : CWP Tryz.prog none 17 (CT Tryz.f78) (fun e f w' => ∃ b c F' Lf', f 4 = .pointer (some ⟨b, 0, none⟩) /\ f 5 = .pointer (some ⟨c, 0, none⟩) /\ Tn F F' /\
   ((e = .ret /\ f.d = [] /\ HS wb Fb w' F' ((some c, ba 0) :: (some b, be 2) :: Lf') /\ K (some ⟨2, 0⟩) F' Lf') \/
   (e = .ret /\ f.d = [{ target := .fn (.func 131) (G5 b c).toArray, args := #[] }] /\ HS wb Fb w' F' ((some c, ba 0) :: (some b, be 0) :: Lf') /\ K none F' Lf') \/
   (∃ x, e = .panic [{ v := .iface 158 (IA x), recovered := false }] /\ f.d = [{ target := .fn (.func 131) (G5 b c).toArray, args := #[] }] /\ HS wb Fb w' F' ((some c, ba 0) :: (some b, be 0) :: Lf') /\ K (some x) F' Lf'))) (f0 [.string ⟨s.toArray⟩, .func (.func g) #[] cap.toArray]) w := by
  refine Sq ?_
  refine Rg [0, 1] ?_
  refine Tv (dst := some 4) (ty := 0) (g := none) (by kernel_rfl) rfl (t := 27) (z := .int .i64 0) (by kernel_rfl) (C := #[.int .i64 0]) rfl hs (fun b w2 hs2 => ?_)
  refine Tv (dst := some 5) (ty := 0) (g := none) (by kernel_rfl) rfl (t := 3) (z := .int .i64 0) (by kernel_rfl) (C := #[.int .i64 0]) rfl hs2 (fun c w3 hs3 => ?_)
  refine Tj ?_
  refine Ad ?_
  refine Sq ?_
  refine Sq ?_
  refine Rg [0, 1, 2] ?_
  refine V 6 9 (Bb (x := .tmp 0) (v := .string ⟨s.toArray⟩) rfl) ?_
  refine V 7 3 (LA (x := .tmp 6) (ats := #[9]) (t := 9) (a := s) rfl rfl (by kernel_rfl)) ?_
  refine V 8 4 (M7 (t := 3) (t' := 3) (x := .tmp 7) (y := .const (.int .i64 65536)) (k := .i64) (a := (s.length : Int)) (b := 65536) rfl rfl) ?_
  refine Tj ?_
  refine Ad ?_
  refine CWP.cond (t := decide ((s.length : Int) > 65536)) (by kernel_rfl) rfl (fun hc => ?_) (fun hc => ?_)
  ·refine Sq ?_
   refine Rg [0, 1] ?_
   refine Tw (ty := 0) (g := none) (by kernel_rfl) rfl (x := .tmp 4) (y := .const (.int .i64 2)) (t := 27) (gg := false) (s := 1) (v := .int .i64 2) (b := b) (o := 0) (C := #[.int .i64 0]) rfl rfl (by kernel_rfl) hs3 (k := 1) rfl rfl rfl rfl (C' := #[.int .i64 2]) rfl (fun w4 hs4 => ?_)
   refine Tw (ty := 0) (g := none) (by kernel_rfl) rfl (x := .tmp 5) (y := .const (.int .i64 0)) (t := 3) (gg := false) (s := 1) (v := .int .i64 0) (b := c) (o := 0) (C := #[.int .i64 0]) rfl rfl (by kernel_rfl) hs4 (k := 0) rfl rfl rfl rfl (C' := #[.int .i64 0]) rfl (fun w5 hs5 => ?_)
   refine Tj ?_
   refine Ad ?_
   refine CWP.ret (by kernel_rfl) ?_
   exact ⟨b, c, F, Lf, rfl, rfl, To F, .inl ⟨rfl, rfl, hs5, hlong hc F⟩⟩
  ·obtain ⟨l, hl, hrun⟩ := hrun hc
   refine CWP.skip (by kernel_rfl) ?_
   refine Ad ?_
   refine Sq ?_
   refine Rg [0, 1] ?_
   refine V 9 1 (DI (fn := .func 131) (first := #[]) (cap := #[.tmp 4, .tmp 5]) (fl := []) (cl := G5 b c) rfl rfl) ?_
   refine RWP.defer0 (ty := 0) (g := none) (x := .tmp 9) (q := 131) (cap := (G5 b c).toArray) (ats := #[]) (by kernel_rfl) rfl rfl ?_
   refine Tj ?_
   refine Ad ?_
   refine Sq ?_
   refine Rg [0, 1, 2, 3, 4, 5, 6] ?_
   refine V 10 103 (Bb (x := .tmp 1) (v := .func (.func g) #[] cap.toArray) rfl) ?_
   refine V 11 9 (Bb (x := .tmp 0) (v := .string ⟨s.toArray⟩) rfl) ?_
   refine RWP.call (dst := some 12) (ty := 162) (g := none) (by kernel_rfl) rfl (f0 := .func 133) (aos := #[.tmp 11]) (ats := #[9]) (fid := 133) (first := #[]) (cap := #[]) (args := [.string ⟨s.toArray⟩]) rfl K3 rfl hs3 (L9 w3 F hs3.pers s) ?_
   rintro _ F1 w4 hs4 le4 ⟨b1, b2, rfl, hb1, hb2⟩
   refine RWP.call (dst := some 13) (ty := 98) (g := none) (by kernel_rfl) rfl (f0 := .func 132) (aos := #[.tmp 12]) (ats := #[162]) (fid := 132) (first := #[]) (cap := #[]) (args := [.func (.func 181) #[] #[.pointer (some ⟨b1, 0, none⟩), .pointer (some ⟨b2, 0, none⟩)]]) rfl J2 rfl hs4
    (KA w4 F1 hs4.pers 181 [.pointer (some ⟨b1, 0, none⟩), .pointer (some ⟨b2, 0, none⟩)] (fun {_} y st => Fz N y s (fun y0 y1 y2 => CD N y0 y1 y2 s) st) J3
     (KB N F1 s b1 hb1 (fun y0 y1 y2 => CD N y0 y1 y2 s) 180 [] [.pointer (some ⟨b1, 0, none⟩)] J4 (fun w1 F2 y0 y1 y2 r le1 pe1 hr1 => KC N w1 F2 pe1 y0 y1 y2 b1 s (le1 _ _ hb1) r hr1) b2 hb2) l hl) ?_
   rintro _ F2 w5 hs5 le5 ⟨a, n, rfl, hb, hsl⟩
   refine V 14 100 (GN (t := 100) (parts := #[(0, .tmp 13)]) (vs := [(0, .slice a l.length n)]) rfl (cs := [.slice a l.length n, .int .i64 0]) (by kernel_rfl)) ?_
   refine RWP.box (dst := some 15) (ty := 95) (g := none) (by kernel_rfl) rfl (x := .tmp 14) (t := 100) (v := .agg #[.slice a l.length n, .int .i64 0]) rfl (C := #[.slice a l.length n, .int .i64 0]) rfl hs5 (fun bp w6 hs6 => ?_)
   refine Tl (dst := some 16) (ty := 0) (g := none) (by kernel_rfl) rfl (DR (f := .tmp 10) (aos := #[.tmp 15]) (ats := #[95]) (g := g) (first := #[]) (cap := cap.toArray) (args := .pointer (some ⟨bp, 0, none⟩) :: cap) rfl hok (by simp; rfl)) (hrun _ F2 b c bp a n (le4.trans le5) hb hsl hs6) ?_
   rintro e w7 (⟨v, F3, Lf2, rfl, hs7, hle, hK⟩ | ⟨x, F3, Lf2, rfl, hs7, hle, hK⟩)
   ·refine Tj ?_
    refine Ad ?_
    refine Sq ?_
    refine Rg [0, 1] ?_
    refine Tw (ty := 0) (g := none) (by kernel_rfl) rfl (x := .tmp 4) (y := .const (.int .i64 0)) (t := 27) (gg := false) (s := 1) (v := .int .i64 0) (b := b) (o := 0) (C := #[.int .i64 0]) rfl rfl (by kernel_rfl) hs7 (k := 1) rfl rfl rfl rfl (C' := #[.int .i64 0]) rfl (fun w8 hs8 => ?_)
    refine Tw (ty := 0) (g := none) (by kernel_rfl) rfl (x := .tmp 5) (y := .const (.int .i64 0)) (t := 3) (gg := false) (s := 1) (v := .int .i64 0) (b := c) (o := 0) (C := #[.int .i64 0]) rfl rfl (by kernel_rfl) hs8 (k := 0) rfl rfl rfl rfl (C' := #[.int .i64 0]) rfl (fun w9 hs9 => ?_)
    refine Tj ?_
    refine Ad ?_
    refine CWP.ret (by kernel_rfl) ?_
    exact ⟨b, c, F3, Lf2, rfl, rfl, (le4.trans le5).trans hle, .inr (.inl ⟨rfl, rfl, hs9, hK⟩)⟩
   ·exact ⟨b, c, F3, Lf2, rfl, rfl, (le4.trans le5).trans hle, .inr (.inr ⟨x, rfl, rfl, hs7, hK⟩)⟩
 refine wp_mono (wpIn_wide.1 (key _ (QK (n := 17) (args := [.string ⟨s.toArray⟩, .func (.func g) #[] cap.toArray]) rfl))) ?_
 have hres : ∀ {f : Fr} {b c : Nat} {v u : Int} {w' : World} {F' : Mem} {L' : Own}, f 4 = .pointer (some ⟨b, 0, none⟩) -> f 5 = .pointer (some ⟨c, 0, none⟩) -> HS wb Fb w' F' ((some c, ba u) :: (some b, be v) :: L') -> (C4 Tryz.f78.results f).run Tryz.prog w' = .ok (.tuple #[.int .i64 v, .int .i64 u]) w' := by
  intro f b c v u w' F' L' hf hf5 hs'
  exact AE (l := [.cell 4 27, .cell 5 3]) (by kernel_rfl) (vs := [.int .i64 v, .int .i64 u]) ⟨b, 0, hf, Am (t := 27) (g := false) (s := 1) (by kernel_rfl) (hs'.ownAt (k := 1) rfl) rfl (by decide), c, 0, hf5, Am (t := 3) (g := false) (s := 1) (by kernel_rfl) (hs'.ownAt (k := 0) rfl) rfl (by decide), trivial⟩
 rintro e a w' ⟨f, hf, b, c, F', Lf', h4, h5, hle, (⟨rfl, hd, hs', hK⟩ | ⟨rfl, hd, hs', hK⟩ | ⟨x, rfl, hd, hs', hK⟩)⟩
 ·show Leaves _ _ _ _ _ _ _
  rw [hf.defers, hd]
  exact ⟨_, by rw [hf.results Tryz.f78]; exact hres h4 h5 hs', some ⟨2, 0⟩, F', Lf', rfl, (hs'.drop 0).drop 0, hle, hK⟩
 ·show Leaves _ _ _ _ _ _ _
  rw [hf.defers, hd]
  refine ⟨by simp, _, _, 131, _, rfl, QI b c w', ?_⟩
  intro c0 cs hc0
  obtain ⟨e, u', w2, fr, hR, hrest⟩ := Om (w := w') (b := b) (c := c) c0 cs hc0
  refine ⟨e, u', w2, fr, ?_, hrest⟩
  obtain ⟨rfl, rfl, rfl⟩ := hR
  show Leaves _ _ _ _ _ _ _
  exact ⟨_, by rw [hf.results Tryz.f78]; exact hres h4 h5 hs', none, F', Lf', rfl, (hs'.drop 0).drop 0, hle, hK⟩
 ·show Leaves _ _ _ _ _ _ _
  rw [hf.defers, hd]
  refine ⟨by simp, _, _, 131, _, rfl, QI b c w', ?_⟩
  intro c0 cs hc0
  obtain ⟨e, u', w2, fr, hR, hrest⟩ := On (w := w') (b := b) (c := c) (x := x) hs' c0 cs hc0
  refine ⟨e, u', w2, fr, ?_, hrest⟩
  obtain ⟨hu, rfl, hs2⟩ := hR
  show Leaves _ _ _ _ _ _ _
  rw [hu]
  exact ⟨_, by rw [hf.results Tryz.f78]; exact hres h4 h5 hs2, some x, F', Lf', rfl, (hs2.drop 0).drop 0, hle, hK⟩
end
def DB (N : Nat) (x0 : Int) : Option Bool :=
 some ((decide (x0 >= 48)) && (decide (x0 <= 57)))
theorem HK : Au Tryz.prog 139 := fun _ _ => by kernel_rfl
theorem IV (N : Nat) (w0 : World) (F0 : Mem) (hF : TP w0 F0) (x0 : Int) (r : Bool) (h : DB N x0 = some r) :
  Calls Tryz.prog 139 ([(.int .u8 x0)] : List Value).toArray w0 (Bd w0 F0 fun F' v => v = (.bool r)) := by
 have hs0 := Tp hF
 refine Go 9 Tryz.func139 ?_
 refine Sq (Rg [0] ?_)
 refine Vs 1 ?_
 refine Nss (Rg [0, 1, 2, 3, 4, 5, 6] ?_)
 refine Tt (fun f w => ∃ (F1 : Mem), HS w0 F0 w F1 [] /\ Tn F0 F1 /\ FI f [] [(2, (.bool ((decide (x0 >= 48)) && (decide (x0 <= 57)))))]) ?_ ?_
 ·refine Vs 3 ?_
  refine Ts (decide (x0 >= 48)) (fun hb26 => ?_) (fun hb26 => ?_)
  ·refine Vgs hb26 2 ?_
   refine Pk1 hb26 ?_
   refine Vs 1 ?_
   exact Tj ⟨rfl, F0, hs0, (To _), (fJ ⟨(congrArg Value.bool (Cz hb26 rfl)), trivial⟩)⟩
  ·refine Ss hb26 2 ?_
   refine Pk0 hb26 ?_
   refine Vs 1 ?_
   exact Tj ⟨rfl, F0, hs0, (To _), (fJ ⟨(congrArg Value.bool (Dw hb26 rfl)), trivial⟩)⟩
 ·rintro f w21 ⟨F1, hs22, le23, ⟨_, rfl⟩⟩
  refine Ad ?_
  refine Rt ?_
  obtain rfl := Ab h
  exact Re [(.bool ((decide (x0 >= 48)) && (decide (x0 <= 57))))] hs22 rfl
def DA (N : Nat) (x0 : Int) : Option Bool :=
 some ((decide (x0 >= 97)) && (decide (x0 <= 122)))
theorem HH : Au Tryz.prog 140 := fun _ _ => by kernel_rfl
theorem IU (N : Nat) (w0 : World) (F0 : Mem) (hF : TP w0 F0) (x0 : Int) (r : Bool) (h : DA N x0 = some r) :
  Calls Tryz.prog 140 ([(.int .u8 x0)] : List Value).toArray w0 (Bd w0 F0 fun F' v => v = (.bool r)) := by
 have hs0 := Tp hF
 refine Go 9 Tryz.func140 ?_
 refine Sq (Rg [0] ?_)
 refine Vs 1 ?_
 refine Nss (Rg [0, 1, 2, 3, 4, 5, 6] ?_)
 refine Tt (fun f w => ∃ (F1 : Mem), HS w0 F0 w F1 [] /\ Tn F0 F1 /\ FI f [] [(2, (.bool ((decide (x0 >= 97)) && (decide (x0 <= 122)))))]) ?_ ?_
 ·refine Vs 3 ?_
  refine Ts (decide (x0 >= 97)) (fun hb26 => ?_) (fun hb26 => ?_)
  ·refine Vgs hb26 2 ?_
   refine Pk1 hb26 ?_
   refine Vs 1 ?_
   exact Tj ⟨rfl, F0, hs0, (To _), (fJ ⟨(congrArg Value.bool (Cz hb26 rfl)), trivial⟩)⟩
  ·refine Ss hb26 2 ?_
   refine Pk0 hb26 ?_
   refine Vs 1 ?_
   exact Tj ⟨rfl, F0, hs0, (To _), (fJ ⟨(congrArg Value.bool (Dw hb26 rfl)), trivial⟩)⟩
 ·rintro f w21 ⟨F1, hs22, le23, ⟨_, rfl⟩⟩
  refine Ad ?_
  refine Rt ?_
  obtain rfl := Ab h
  exact Re [(.bool ((decide (x0 >= 97)) && (decide (x0 <= 122))))] hs22 rfl
def EE (N : Nat) (x0 : Int) : Int -> Option (Bv Bool Int) := fun s24 =>
 (bif (decide (s24 < 9)) then ((Gi ([40, 41, 44, 58, 61, 60, 43, 45, 42] : TN) s24).bind fun c45 => (bif (c45 == x0) then some (.ret true) else some (.next (W64 (s24 + 1))))) else some (.done s24))
def GP (N : Nat) (x0 : Int) : Option Bool :=
 ((Be (EE N x0) N 0).bind fun o => o.k (fun r => some r) (fun s31 => some false))
theorem Mv : Au Tryz.prog 141 := fun _ _ => by kernel_rfl
theorem Nk (N : Nat) (w0 : World) (F0 : Mem) (hF : TP w0 F0) (x0 : Int) (r : Bool) (h : GP N x0 = some r) :
  Calls Tryz.prog 141 ([(.int .u8 x0)] : List Value).toArray w0 (Bd w0 F0 fun F' v => v = (.bool r)) := by
 have hs0 := Tp hF
 refine Go 12 Tryz.func141 ?_
 refine Sq (Rg [0] ?_)
 refine Vs 1 ?_
 refine Nss ?_
 refine Sq (Rg [0] ?_)
 refine Vs 1 ?_
 refine Nt ?_
 obtain ⟨o21, ho22, h23⟩ := bind_some h
 refine Tu (fun f w => ∃ (s31 : Int) (F2 : Mem), o21 = .done s31 /\ HS w0 F0 w F2 [] /\ Tn F0 F2 /\ FI f [] []) ?_ ?_
 ·refine Bk ?_
  refine Tm (by kernel_rfl) (fun m f w => ∃ (s24 : Int) (F1 : Mem), Be (EE N x0) m s24 = some o21 /\ HS w0 F0 w F1 [] /\ Tn F0 F1 /\ FI f [] [(0, (.int .u8 x0)), (3, (vi s24))]) N ⟨0, F0, ho22, hs0, (To _), fI⟩ ?_
  rintro m36 f w25 ⟨s24, F1, hit37, hs26, le27, ⟨_, rfl⟩⟩
  obtain ⟨m38, fl39, rfl, hb40, hnx41⟩ := A5 hit37
  refine Sq ?_
  refine Sq (Rg [0, 1] ?_)
  refine Vs 2 ?_
  refine Nt ?_
  refine Cd hb40 (fun hb42 h43 => ?_) (fun hb42 h44 => ?_)
  ·refine Sc ?_
   refine Ad ?_
   refine Sq ?_
   refine Bk ?_
   refine Sq (Rg [0, 1, 2, 3] ?_)
   refine Vs 1 ?_
   obtain ⟨c45, hr46, h47⟩ := bind_some h43
   refine V 9 5 (CC (t := 9) (x := (.const (.string ⟨([40, 41, 44, 58, 61, 60, 43, 45, 42] : TN).toArray⟩))) (y := (.tmp 8)) (a := ([40, 41, 44, 58, 61, 60, 43, 45, 42] : TN)) (k := .i64) (i := s24) (v := c45) rfl rfl (by kernel_rfl) hr46) ?_
   refine Vs 2 ?_
   refine Nt ?_
   refine Cd h47 (fun hb48 h49 => ?_) (fun hb48 h50 => ?_)
   ·refine Sq (Rg [0] ?_)
    refine Vs 1 ?_
    refine Nt ?_
    refine Rt ?_
    refine Ao ?_
    refine Aj ?_
    refine Aj ?_
    refine Ao ?_
    have hret := B9 h49 hnx41
    subst hret
    refine .inr ?_
    refine Aj ?_
    obtain rfl := Ab h23
    exact Re [(.bool true)] hs26 rfl
   ·refine Sc ?_
    refine AA ?_
    refine Ad ?_
    refine Rg [0, 1, 2] ?_
    refine Vs 3 ?_
    refine Tj ?_
    have hn51 := AW h50 hnx41
    exact ⟨m38, Nat.lt_succ_self _, (W64 (s24 + 1)), F1, hn51, hs26, le27, fI⟩
  ·refine Ex ?_
   refine AC ?_
   refine AC ?_
   refine AL rfl ?_
   have ho52 := A8 h44 hnx41
   exact .inl ⟨rfl, s24, F1, ho52, hs26, le27, fI⟩
 ·rintro f w32 ⟨s31, F2, rfl, hs33, le34, ⟨_, rfl⟩⟩
  have h53 := BT h23
  refine Ad ?_
  refine Sq (Rg [0] ?_)
  refine Vs 1 ?_
  refine Nt ?_
  refine Rt ?_
  obtain rfl := Ab h53
  exact Re [(.bool false)] hs33 rfl
end Go.Proofs.YtaihlcdkcampbaaGreatDoor
