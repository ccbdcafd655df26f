/- Lemmas of the claim LogsPrefix, printed by a program of the claimant and by hand. No statement of the seat is proved here. -/
import Derived.Test.YthljkpeimofbbaaGreatDoorE8x1
set_option linter.unusedVariables false
set_option linter.unusedSimpArgs false
set_option linter.unusedSectionVars false
set_option maxHeartbeats 4000000
set_option maxRecDepth 100000
namespace Go.Proofs.YthljkpeimofbbaaGreatDoor
def Ae (R : Array Oper) (i : Nat) : Op := match R[i]? with | some o => o.op | none => .alloc 0
def ES (R : Array Oper) (i : Nat) : TypeId := match R[i]? with | some o => o.type | none => 0
def A1 (R : Array Oper) (i : Nat) : Option Nat := match R[i]? with | some o => o.dst | none => none
def T3 (R : Array Oper) (i : Nat) : Option (Nat × Bool) := match R[i]? with | some o => o.guard | none => none
def ung (R : Array Oper) (i : Nat) : Bool := match R[i]? with | some o => (match o.guard with | none => true | some _ => false) | none => false
theorem A4 {R : Array Oper} {i : Nat} (h : ung R i = true) : opq R i = some (A1 R i, Ae R i, ES R i, none) := by
 unfold ung at h; unfold opq A1 Ae ES
 cases hr : R[i]? with
 | none => simp [hr] at h
 | some o =>
  simp only [hr] at h
  cases hg : o.guard with
  | none => simp [hg]
  | some p => simp [hg] at h
def Lv (R : Array Oper) (j : Nat) (b : Bool) (i : Nat) : Bool := match R[i]? with | some o => (match o.guard with | none => true | some (j', b') => Nat.beq j j' && (b == b')) | none => false
theorem LS {R : Array Oper} {i j : Nat} {b : Bool} (h : Lv R j b i = true) : opq R i = some (A1 R i, Ae R i, ES R i, none) \/ opq R i = some (A1 R i, Ae R i, ES R i, some (j, b)) := by
 unfold Lv at h; unfold opq A1 Ae ES
 cases hr : R[i]? with
 | none => simp [hr] at h
 | some o =>
  simp only [hr] at h
  cases hg : o.guard with
  | none => simp [hg]
  | some p =>
   obtain ⟨j', b'⟩ := p
   simp only [hg, Bool.and_eq_true, beq_iff_eq] at h
   have e1 := Nat.eq_of_beq_eq_true h.1
   have e2 := h.2
   subst e1; subst e2
   simp [hg]
def slQ (P : Program) (t : TypeId) : Bool := match Bt P t with | some _ => true | none => false
def pvI (op : BinOp) (k : IntKind) (a b : Int) : Option Value := match op with
 | .add => some (.int k (k.wrap (a + b))) | .sub => some (.int k (k.wrap (a - b))) | .mul => some (.int k (k.wrap (a * b)))
 | .lss => some (.bool (decide (a < b))) | .leq => some (.bool (decide (a <= b))) | .gtr => some (.bool (decide (a > b))) | .geq => some (.bool (decide (a >= b)))
 | .eql => some (.bool (a == b)) | .neq => some (.bool (a != b))
 | .quo => (match decide (b = 0) with | false => some (.int k (k.wrap (a.tdiv b))) | true => none)
 | .rem => (match decide (b = 0) with | false => some (.int k (a.tmod b)) | true => none)
 | _ => none
def pvS (op : BinOp) (a b : UQ) : Option Value := match op with
 | .eql => some (.bool (a == b)) | .neq => some (.bool (a != b)) | .lss => some (.bool (I6 a b)) | .leq => some (.bool (I6 a b || a == b))
 | .gtr => some (.bool (!(I6 a b || a == b))) | .geq => some (.bool (!I6 a b)) | _ => none
def QU (P : Program) (t : TypeId) (op : BinOp) : Value -> Value -> Option Value
 | .int k a, .int k' b => (match decide (k = k') with | true => pvI op k a b | false => none)
 | .string a, .string b => pvS op a.data.toList b.data.toList
 | .bool a, .bool b => (match P.underlying t with | some .bool => (match op with | .eql => some (.bool (a == b)) | .neq => some (.bool (!(a == b))) | _ => none) | _ => none)
 | .agg xs, .agg ys => (match P.eqGuardType P.depth t with
  | false => (match eqV P 8 t (.agg xs) (.agg ys) with | some b => (match op with | .eql => some (.bool b) | .neq => some (.bool (!b)) | _ => none) | none => none)
  | true => none)
 | _, _ => none
def Pd (P : Program) (ρ : Operand -> Value) (c : Call) : Option Value := match c.callee with
 | .builtin .len => (match c.args.toList with
  | [x] => (match c.argTypes[0]? with
   | some t => (match ρ x with
    | .slice _ n _ => (match slQ P t with | true => some (.int .i64 (n : Int)) | false => none)
    | .string s => (match P.underlying t with | some .string => some (.int .i64 (s.data.toList.length : Int)) | _ => none)
    | _ => none)
   | none => none)
  | _ => none)
 | .builtin .max => (match c.args.toList with | [x, y] => (match ρ x, ρ y with | .int .i64 a, .int .i64 b => some (.int .i64 (max a b)) | _, _ => none) | _ => none)
 | .builtin .min => (match c.args.toList with | [x, y] => (match ρ x, ρ y with | .int .i64 a, .int .i64 b => some (.int .i64 (min a b)) | _, _ => none) | _ => none)
 | _ => none
def pv (P : Program) (ρ : Operand -> Value) : Op -> Option Value
 | .move x => some (ρ x)
 | .assign x => some (ρ x)
 | .binOp op t x y _ => QU P t op (ρ x) (ρ y)
 | .unOp op _ x => (match op, ρ x with | .not, .bool b => some (.bool (!b)) | .neg, .int k a => some (.int k (k.wrap (0 - a))) | _, _ => none)
 | .extract x i => (match ρ x with | .tuple vs => vs[i]? | _ => none)
 | .fieldAddr s x i => (match ρ x with
  | .pointer (some ⟨b, o, none⟩) => (match Jn P s i with | some (off, k) => (match decide (k = 0) with | false => some (.pointer (some ⟨b, o + off, none⟩)) | true => none) | none => none)
  | _ => none)
 | .field s x i => (match ρ x with
  | .agg cs => (match Pq P s i with
   | some (o, t) => (match D6 P t with
    | some (gg, k) => (match Nat.beq (Ao cs o k).length k && (gg || k == 1) with | true => some (mkV gg (Ao cs o k)) | false => none)
    | none => none)
   | none => none)
  | _ => none)
 | .build t parts => (match Px P t (parts.toList.map fun p => (p.1, ρ p.2)) with | some cs => some (.agg cs.toArray) | none => none)
 | .makeFunc fn fi ca => some (.func fn (fi.toList.map ρ).toArray (ca.toList.map ρ).toArray)
 | .nilCheck x => (match ρ x with | .pointer (some a) => some (.pointer (some a)) | _ => none)
 | .convert s d x => (match ρ x with | .int _ a => (match (P.underlying s).isSome, P.underlying d with | true, some (.int k) => some (.int k (k.wrap a)) | _, _ => none) | _ => none)
 | .call c => Pd P ρ c
 | _ => none
theorem Ng (s : ByteArray) : s = ⟨s.data.toList.toArray⟩ := by cases s; rfl
section
variable {P : Program} {ρ : Operand -> Value} {w : World} {ty : TypeId}
theorem Sk {op : BinOp} {k : IntKind} {a b : Int} {x y : Operand} {t t' : TypeId} {v : Value} (hx : ρ x = .int k a) (hy : ρ y = .int k b) (h : pvI op k a b = some v) : (Ai ρ (.binOp op t x y t') ty).run P w = .ok (.value v) w := by
  cases op <;> simp only [pvI, Option.some.injEq, reduceCtorEq] at h <;> first
    | (subst h; first | exact PI hx hy | exact Nk hx hy | exact R9 hx hy | exact Lb hx hy | exact PD hx hy | exact Nq hx hy | exact PE hx hy | exact I8 hx hy | exact La hx hy)
    | (split at h
       · rename_i hb; cases h; first | exact R5 hx hy hb | exact R4 hx hy hb
       · cases h)
theorem Sj {op : BinOp} {a b : UQ} {x y : Operand} {t t' : TypeId} {v : Value} (hx : ρ x = .string ⟨a.toArray⟩) (hy : ρ y = .string ⟨b.toArray⟩) (h : pvS op a b = some v) : (Ai ρ (.binOp op t x y t') ty).run P w = .ok (.value v) w := by
 cases op <;> simp only [pvS, Option.some.injEq, reduceCtorEq] at h <;> subst h <;> exact QP hx hy rfl
theorem Qf {op : BinOp} {x y : Operand} {t t' : TypeId} {v : Value} (h : QU P t op (ρ x) (ρ y) = some v) : (Ai ρ (.binOp op t x y t') ty).run P w = .ok (.value v) w := by
 generalize hx : ρ x = a at h
 generalize hy : ρ y = b at h
 unfold QU at h
 split at h
 ·split at h
  ·rename_i hk
   have := of_decide_eq_true hk; subst this
   exact Sk hx hy h
  ·cases h
 ·rename_i a b
  exact Sj (hx.trans (congrArg _ (Ng a))) (hy.trans (congrArg _ (Ng b))) h
 ·split at h
  ·rename_i hu
   split at h
   ·cases h; exact Sb hx hy hu
   ·cases h; exact R8 hx hy hu
   ·cases h
  ·cases h
 ·split at h
  ·rename_i hg
   split at h
   ·rename_i b he
    split at h
    ·cases h; exact PF hx hy hg he
    ·cases h; exact R6 hx hy hg he
    ·cases h
   ·cases h
  ·cases h
 ·cases h
theorem Pc {c : Call} {v : Value} (h : Pd P ρ c = some v) : (Ai ρ (.call c) ty).run P w = .ok (.value v) w := by
 obtain ⟨callee, args, ats⟩ := c
 unfold Pd at h
 simp only at h
 split at h
 ·split at h
  ·rename_i x ha
   have : args = #[x] := by cases args; simpa using ha
   subst this
   split at h
   ·rename_i t ht
    split at h
    ·rename_i a n c hx
     split at h
     ·rename_i hs
      unfold slQ at hs
      split at hs
      ·rename_i q hq; obtain ⟨E, s, by_⟩ := q
       cases h; exact G6 hx ht hq
      ·cases hs
     ·cases h
    ·rename_i s hx
     split at h
     ·rename_i hu; cases h; exact LH (hx.trans (congrArg _ (Ng s))) ht hu
     ·cases h
    ·cases h
   ·cases h
  ·cases h
 ·split at h
  ·rename_i x y ha
   have : args = #[x, y] := by cases args; simpa using ha
   subst this
   split at h
   ·rename_i hx hy; cases h; exact QR hx hy
   ·cases h
  ·cases h
 ·split at h
  ·rename_i x y ha
   have : args = #[x, y] := by cases args; simpa using ha
   subst this
   split at h
   ·rename_i hx hy; cases h; exact QQ hx hy
   ·cases h
  ·cases h
 ·cases h
theorem Nv {op : Op} {v : Value} (h : pv P ρ op = some v) : (Ai ρ op ty).run P w = .ok (.value v) w := by
 unfold pv at h
 split at h
 ·cases h; exact Oc rfl
 ·cases h; exact Gl rfl
 ·exact Qf h
 ·split at h
  ·rename_i hx; cases h; exact Nl hx
  ·rename_i hx; cases h; exact R7 hx
  ·cases h
 ·split at h
  ·rename_i hx; exact Oe hx h
  ·cases h
 ·split at h
  ·rename_i hx
   split at h
   ·rename_i hf
    split at h
    ·rename_i hk; cases h; exact CE hx hf hk rfl
    ·cases h
   ·cases h
  ·cases h
 ·split at h
  ·rename_i hx
   split at h
   ·rename_i hf
    split at h
    ·rename_i ht
     split at h
     ·rename_i hk
      simp only [Bool.and_eq_true] at hk
      cases h; exact LK hx hf ht (Nat.eq_of_beq_eq_true hk.1) hk.2 rfl
     ·cases h
    ·cases h
   ·cases h
  ·cases h
 ·split at h
  ·rename_i hb; cases h; exact Pb rfl hb
  ·cases h
 ·cases h; exact Nn rfl rfl
 ·split at h
  ·rename_i hx; cases h; exact DR hx
  ·cases h
 ·split at h
  ·rename_i hx
   split at h
   ·rename_i hs hd; cases h; exact Og hx hs hd
   ·cases h
  ·cases h
 ·exact Pc h
 ·cases h
variable {ro : Option Nat} {n : Nat} {R : Array Oper} {Q : Exit -> Fr -> World -> Prop}
def pst (P : Program) (R : Array Oper) : List Nat -> Nat -> Fr -> Fr
 | _, 0, f => f
 | [], _ + 1, f => f
 | i :: l, m + 1, f => pst P R l m (AY f (A1 R i) ((pv P (fev f) (Ae R i)).getD undef))
def isS {α : Type} : Option α -> Bool | some _ => true | none => false
theorem Hk {α : Type} {o : Option α} {d : α} (h : isS o = true) : o = some (o.getD d) := by cases o <;> simp_all [isS]
def pok (P : Program) (R : Array Oper) : List Nat -> Nat -> Fr -> Bool
 | _, 0, _ => true
 | [], _ + 1, _ => false
 | i :: l, m + 1, f => ung R i && (isS (pv P (fev f) (Ae R i)) && pok P R l m (AY f (A1 R i) ((pv P (fev f) (Ae R i)).getD undef)))
theorem RQ : ∀ (m : Nat) {l : List Nat} {f : Fr}, RWP P ro n R Q (l.drop m) (pst P R l m f) w -> pok P R l m f = true -> RWP P ro n R Q l f w
 | 0, l, f, k, _ => by cases l <;> exact k
 | m + 1, [], f, k, h => by simp [pok] at h
 | m + 1, i :: l, f, k, h => by
  simp only [pok, Bool.and_eq_true] at h
  exact Ut (A4 h.1) rfl (Nv (Hk h.2.1)) (RQ m k h.2.2)
theorem Vs (m : Nat) {l : List Nat} {f : Fr} (k : RWP P ro n R Q (l.drop m) (pst P R l m f) w) (h : pok P R l m f = true := by kernel_rfl) : RWP P ro n R Q l f w := RQ m k h
def QW (P : Program) (R : Array Oper) (j : Nat) (b : Bool) (q : Nat) : List Nat -> Nat -> Fr -> Bool
 | _, 0, _ => true
 | [], _ + 1, _ => false
 | i :: l, m + 1, f => Lv R j b i && ((match A1 R i with | some d => !Nat.beq q d | none => true) && (isS (pv P (fev f) (Ae R i)) && QW P R j b q l m (AY f (A1 R i) ((pv P (fev f) (Ae R i)).getD undef))))
theorem PB {f : Fr} {d : Option Nat} {v : Value} {q : Nat} (h : (match d with | some d => !Nat.beq q d | none => true) = true) : (AY f d v) q = f q := by
 cases d with
 | none => rfl
 | some d => simp only [Bool.not_eq_true'] at h; simp only [AY, upd, h, cond_false]
theorem NY {j q : Nat} {b : Bool} (hj : Es R j = some q) : ∀ (m : Nat) {l : List Nat} {f : Fr}, f q = .bool b -> RWP P ro n R Q (l.drop m) (pst P R l m f) w -> QW P R j b q l m f = true -> RWP P ro n R Q l f w
 | 0, l, f, _, k, _ => by cases l <;> exact k
 | m + 1, [], f, _, k, h => by simp [QW] at h
 | m + 1, i :: l, f, hf, k, h => by
  simp only [QW, Bool.and_eq_true] at h
  have hf' := (PB (f := f) (v := (pv P (fev f) (Ae R i)).getD undef) h.2.1).trans hf
  rcases LS h.1 with e | e
  ·exact Ut e rfl (Nv (Hk h.2.2.1)) (NY hj m hf' k h.2.2.2)
  ·exact Ut e (Ho hj hf rfl) (Nv (Hk h.2.2.1)) (NY hj m hf' k h.2.2.2)
def gj (R : Array Oper) : List Nat -> Nat
 | i :: _ => (match T3 R i with | some (j, _) => j | none => 0)
 | [] => 0
def gq (R : Array Oper) (l : List Nat) : Nat := match Es R (gj R l) with | some q => q | none => 0
theorem Vgs {b c : Bool} (hc : c = b) (m : Nat) {l : List Nat} {f : Fr} (k : RWP P ro n R Q (l.drop m) (pst P R l m f) w) (h : QW P R (gj R l) b (gq R l) l m f = true := by kernel_rfl)
  (hj : Es R (gj R l) = some (gq R l) := by kernel_rfl) (hf : f (gq R l) = .bool c := by kernel_rfl) : RWP P ro n R Q l f w :=
 NY hj m (by rw [hf, hc]) k h
def sst (R : Array Oper) : List Nat -> Nat -> Fr -> Fr
 | _, 0, f => f
 | [], _ + 1, f => f
 | i :: l, m + 1, f => sst R l m (AY f (A1 R i) undef)
def sok (R : Array Oper) (j : Nat) (b : Bool) (q : Nat) : List Nat -> Nat -> Bool
 | _, 0 => true
 | [], _ + 1 => false
 | i :: l, m + 1 => (match R[i]? with | some o => (match o.guard with | some (j', b') => Nat.beq j j' && (b == b') | none => false) | none => false) && ((match A1 R i with | some d => !Nat.beq q d | none => true) && sok R j b q l m)
theorem Tc {i j : Nat} {b : Bool} (h : (match R[i]? with | some o => (match o.guard with | some (j', b') => Nat.beq j j' && (b == b') | none => false) | none => false) = true) : opq R i = some (A1 R i, Ae R i, ES R i, some (j, b)) := by
 unfold opq A1 Ae ES
 cases hr : R[i]? with
 | none => simp [hr] at h
 | some o =>
  simp only [hr] at h
  cases hg : o.guard with
  | none => simp [hg] at h
  | some p =>
   obtain ⟨j', b'⟩ := p
   simp only [hg, Bool.and_eq_true, beq_iff_eq] at h
   have e1 := Nat.eq_of_beq_eq_true h.1
   have e2 := h.2
   subst e1; subst e2
   simp [hg]
theorem OY {j q : Nat} {b : Bool} (hg : ∀ f' : Fr, f' q = f' q -> True) (hgd : ∀ f' : Fr, ∀ v, f' q = v -> v = undef \/ v = .bool (!b) -> gd R f' (some (j, b)) = false) : ∀ (m : Nat) {l : List Nat} {f : Fr}, (f q = undef \/ f q = .bool (!b)) -> RWP P ro n R Q (l.drop m) (sst R l m f) w -> sok R j b q l m = true -> RWP P ro n R Q l f w
 | 0, l, f, _, k, _ => by cases l <;> exact k
 | m + 1, [], f, _, k, h => by simp [sok] at h
 | m + 1, i :: l, f, hf, k, h => by
  simp only [sok, Bool.and_eq_true] at h
  have hf' : (AY f (A1 R i) undef) q = f q := PB h.2.1
  exact RWP.skip (Tc h.1) (hgd f _ rfl hf) (OY hg hgd m (by rw [hf']; exact hf) k h.2.2)
def gb (R : Array Oper) : List Nat -> Bool
 | i :: _ => (match T3 R i with | some (_, b) => b | none => false)
 | [] => false
theorem Ss {b c : Bool} (hc : c = b) (m : Nat) {l : List Nat} {f : Fr} (k : RWP P ro n R Q (l.drop m) (sst R l m f) w) (h : sok R (gj R l) (!b) (gq R l) l m = true := by kernel_rfl)
  (hj : Es R (gj R l) = some (gq R l) := by kernel_rfl) (hf : f (gq R l) = .bool c := by kernel_rfl) : RWP P ro n R Q l f w :=
 OY (fun _ _ => trivial) (fun f' v e hv => by
  rcases hv with hv | hv
  ·exact Ts hj (e.trans hv)
  ·exact Tt hj (e.trans hv) rfl) m (.inr (by rw [hf, hc]; simp)) k h
theorem Su' (m : Nat) {l : List Nat} {f : Fr} (k : RWP P ro n R Q (l.drop m) (sst R l m f) w) (h : sok R (gj R l) (gb R l) (gq R l) l m = true := by kernel_rfl)
  (hj : Es R (gj R l) = some (gq R l) := by kernel_rfl) (hf : f (gq R l) = undef := by kernel_rfl) : RWP P ro n R Q l f w :=
 OY (fun _ _ => trivial) (fun f' v e hv => by
  rcases hv with hv | hv
  ·exact Ts hj (e.trans hv)
  ·exact Tt hj (e.trans hv) rfl) m (.inl hf) k h
end
def ups (g : Fr) (d : List Deferred) : List (Nat × Value) -> Fr
 | [] => ⟨g.v, d⟩
 | (i, v) :: l => upd (ups g d l) i v
def FI (f : Fr) (d : List Deferred) (l : List (Nat × Value)) : Prop := ∃ g, f = ups g d l
theorem QK {f : Fr} {i : Nat} {v : Value} (h : f i = v) : upd f i v = f := by
 subst h
 cases f with
 | mk fv fd =>
  simp only [upd, Fr.mk.injEq, and_true]
  funext j
  cases hb : Nat.beq j i with
  | false => rfl
  | true => rw [Nat.eq_of_beq_eq_true hb]; rfl
def Eqs (f : Fr) : List (Nat × Value) -> Prop
 | [] => True
 | (i, v) :: l => f i = v /\ Eqs f l
theorem Lt {f : Fr} {d : List Deferred} (hd : f.d = d) : ∀ {l : List (Nat × Value)}, Eqs f l -> f = ups f d l
 | [], _ => by subst hd; rfl
 | (i, v) :: l, h => by
  show f = upd (ups f d l) i v
  rw [<- Lt hd h.2]; exact (QK h.1).symm
theorem RB {f : Fr} : ∀ {l : List (Nat × Value)}, l.map (fun p => f p.1) = l.map (·.2) -> Eqs f l
 | [], _ => trivial
 | (i, v) :: l, h => by
  simp only [List.map_cons, List.cons.injEq] at h
  exact ⟨h.1, RB h.2⟩
theorem kq {α : Type} {a : α} (b : α) {c : α} (h : b = c) (k : a = b := by kernel_rfl) : a = c := k.trans h
theorem fI {f : Fr} {d : List Deferred} {l : List (Nat × Value)} (h : l.map (fun p => f p.1) = l.map (·.2) := by kernel_rfl) (hd : f.d = d := by kernel_rfl) : FI f d l := ⟨f, Lt hd (RB h)⟩
theorem fJ {f : Fr} {d : List Deferred} {l : List (Nat × Value)} (h : Eqs f l) (hd : f.d = d := by kernel_rfl) : FI f d l := ⟨f, Lt hd h⟩
def pkC : Op -> Operand | .pick c _ _ => c | _ => .tmp 0
def pkA : Op -> Operand | .pick _ a _ => a | _ => .tmp 0
def pkB : Op -> Operand | .pick _ _ b => b | _ => .tmp 0
def Qs : Op -> Bool | .pick _ _ _ => true | _ => false
theorem HT {op : Op} (h : Qs op = true) : op = .pick (pkC op) (pkA op) (pkB op) := by cases op <;> simp_all [Qs, pkC, pkA, pkB]
def ldX : Op -> Operand | .load _ x => x | _ => .tmp 0
def ldT : Op -> TypeId | .load t _ => t | _ => 0
def Oy : Op -> Bool | .load _ _ => true | _ => false
theorem EQ {op : Op} (h : Oy op = true) : op = .load (ldT op) (ldX op) := by cases op <;> simp_all [Oy, ldX, ldT]
def pO : Value -> Nat | .pointer (some ⟨_, o, _⟩) => o | _ => 0
def sB : Value -> Nat | .slice (some ⟨b, _, _⟩) _ _ => b | _ => 0
def sO : Value -> Nat | .slice (some ⟨_, o, _⟩) _ _ => o | _ => 0
def sC : Value -> Nat | .slice _ _ c => c | _ => 0
def iK : Value -> IntKind | .int k _ => k | _ => .i64
def ixX : Op -> Operand | .indexAddr _ x _ => x | _ => .tmp 0
def ixY : Op -> Operand | .indexAddr _ _ y => y | _ => .tmp 0
def ixT : Op -> TypeId | .indexAddr t _ _ => t | _ => 0
def Pn : Op -> Bool | .indexAddr _ _ _ => true | _ => false
theorem FX {op : Op} (h : Pn op = true) : op = .indexAddr (ixT op) (ixX op) (ixY op) := by cases op <;> simp_all [Pn, ixT, ixX, ixY]
def stX : Op -> Operand | .store _ x _ => x | _ => .tmp 0
def stY : Op -> Operand | .store _ _ y => y | _ => .tmp 0
def stT : Op -> TypeId | .store t _ _ => t | _ => 0
def GW : Op -> Bool | .store _ _ _ => true | _ => false
theorem Dd {op : Op} (h : GW op = true) : op = .store (stT op) (stX op) (stY op) := by cases op <;> simp_all [GW, stT, stX, stY]
def SJ (t : TypeId) : Op -> Bool | .alloc t' => Nat.beq t t' | _ => false
theorem M5 {t : TypeId} {op : Op} (h : SJ t op = true) : op = .alloc t := by
 cases op <;> simp only [SJ, Bool.false_eq_true] at h
 rw [Nat.eq_of_beq_eq_true h]
def bxX : Op -> Operand | .box _ x => x | _ => .tmp 0
def SI (t : TypeId) : Op -> Bool | .box t' _ => Nat.beq t t' | _ => false
theorem M4 {t : TypeId} {op : Op} (h : SI t op = true) : op = .box t (bxX op) := by
 cases op <;> simp only [SI, Bool.false_eq_true] at h
 rw [Nat.eq_of_beq_eq_true h]; rfl
def bsV (P : Program) (f : Fr) : Op -> Option (TypeId × List Value) | .buildSlice t len parts => JG P t len (parts.toList.map fun p => (p.1, fev f p.2)) | _ => none
def bsL : Op -> Nat | .buildSlice _ len _ => len | _ => 0
def clV (f : Fr) : Op -> Option (FuncId × List Value)
 | .call c => (match c.callee with
  | .value f0 => (match fev f f0 with
   | .func (.func g) fi ca => some (g, fi.toList ++ c.args.toList.map (fev f) ++ ca.toList)
   | _ => none)
  | _ => none)
 | _ => none
theorem Jy {P : Program} {w : World} {f : Fr} {op : Op} {ty : TypeId} {g : FuncId} {args : List Value} (h : clV f op = some (g, args)) (hok : Ag P g) : (Ai (fev f) op ty).run P w = .ok (.enter g args.toArray) w := by
 unfold clV at h
 split at h
 ·rename_i c
  obtain ⟨callee, aos, ats⟩ := c
  simp only at h
  split at h
  ·split at h
   ·rename_i hf
    simp only [Option.some.injEq, Prod.mk.injEq] at h
    obtain ⟨rfl, rfl⟩ := h
    exact Dy hf hok rfl
   ·cases h
  ·cases h
 ·cases h
section
variable {P : Program} {ro : Option Nat} {n : Nat} {R : Array Oper} {Q : Exit -> Fr -> World -> Prop} {i : Nat} {rest : List Nat} {f : Fr} {w w' w0 : World} {F0 F : Mem} {L : List (Option Nat × Obj)}
theorem RWP.valU {v : Value} (ho : ung R i = true) (hy : (Ai (fev f) (Ae R i) (ES R i)).run P w = .ok (.value v) w') (k : RWP P ro n R Q rest (AY f (A1 R i) v) w') : RWP P ro n R Q (i :: rest) f w := Ut (A4 ho) rfl hy k
theorem Pk1 {t : Bool} (ht : t = true) (k : RWP P ro n R Q rest (AY f (A1 R i) (fev f (pkA (Ae R i)))) w) (hc : fev f (pkC (Ae R i)) = .bool t := by kernel_rfl) (ho : (ung R i && Qs (Ae R i)) = true := by kernel_rfl) : RWP P ro n R Q (i :: rest) f w := by
 simp only [Bool.and_eq_true] at ho
 refine RWP.valU ho.1 ?_ k
 have := HT ho.2
 rw [this] at hc ⊢; exact JL hc ht rfl
theorem Pk0 {t : Bool} (ht : t = false) (k : RWP P ro n R Q rest (AY f (A1 R i) (fev f (pkB (Ae R i)))) w) (hc : fev f (pkC (Ae R i)) = .bool t := by kernel_rfl) (ho : (ung R i && Qs (Ae R i)) = true := by kernel_rfl) : RWP P ro n R Q (i :: rest) f w := by
 simp only [Bool.and_eq_true] at ho
 refine RWP.valU ho.1 ?_ k
 have := HT ho.2
 rw [this] at hc ⊢; exact JM hc ht rfl
def ldV (P : Program) (t : TypeId) (C : Array Value) (o : Nat) : Value := match D6 P t with | some (g, s) => mkV g (Ao C o s) | none => undef
def ldK (P : Program) (t : TypeId) (C : Array Value) (o : Nat) : Bool := match D6 P t with | some (g, s) => Nat.beq (Ao C o s).length s && (g || s == 1) | none => false
theorem O9 {ρ : Operand -> Value} {t ty : TypeId} {x : Operand} {b o : Nat} {C : Array Value} {E : TypeId} {fz : Nat × Nat} (hx : ρ x = .pointer (some ⟨b, o, none⟩)) (hp : w.heap[b]? = some (.cells C E fz)) (hk : ldK P t C o = true) :
  (Ai ρ (.load t x) ty).run P w = .ok (.value (ldV P t C o)) w := by
 unfold ldK at hk; unfold ldV
 split at hk
 ·rename_i g s ht
  simp only [Bool.and_eq_true] at hk
  exact Bz hx ht hp (Nat.eq_of_beq_eq_true hk.1) hk.2 rfl
 ·cases hk
theorem Ld {b : Nat} {C : Array Value} {E : TypeId} {fz : Nat × Nat} (hp : w.heap[b]? = some (.cells C E fz)) (k : RWP P ro n R Q rest (AY f (A1 R i) (ldV P (ldT (Ae R i)) C (pO (fev f (ldX (Ae R i)))))) w)
  (hx : fev f (ldX (Ae R i)) = .pointer (some ⟨b, pO (fev f (ldX (Ae R i))), none⟩) := by kernel_rfl) (ho : (ung R i && (Oy (Ae R i) && ldK P (ldT (Ae R i)) C (pO (fev f (ldX (Ae R i)))))) = true := by kernel_rfl) : RWP P ro n R Q (i :: rest) f w := by
 simp only [Bool.and_eq_true] at ho
 refine RWP.valU ho.1 ?_ k
 have := EQ ho.2.1
 rw [this]; exact O9 hx hp ho.2.2
def lxV (P : Program) (t : TypeId) (cs : List Value) (j : Nat) : Value := match D6 P t with | some (g, s) => mkV g ((cs.drop j).take s) | none => undef
def lxK (P : Program) (t : TypeId) (cs : List Value) (j kk : Nat) : Bool := match D6 P t with | some (g, s) => decide (j + s <= kk) && (Nat.beq ((cs.drop j).take s).length s && (g || s == 1)) | none => false
theorem O7 {ρ : Operand -> Value} {t ty : TypeId} {x : Operand} {j b o kk : Nat} {C : Array Value} {E : TypeId} {fz : Nat × Nat} {cs : List Value} (hx : ρ x = .pointer (some ⟨b, o + j, none⟩)) (hp : w.heap[b]? = some (.cells C E fz)) (hc : Ao C o kk = cs) (hk : lxK P t cs j kk = true) :
  (Ai ρ (.load t x) ty).run P w = .ok (.value (lxV P t cs j)) w := by
 unfold lxK at hk; unfold lxV
 split at hk
 ·rename_i g s ht
  simp only [Bool.and_eq_true] at hk
  exact JN hx ht hp hc hk.1 ⟨Nat.eq_of_beq_eq_true hk.2.1, trivial⟩ hk.2.2 rfl
 ·cases hk
theorem Lx (j : Nat) {b o kk : Nat} {C : Array Value} {E : TypeId} {fz : Nat × Nat} {cs : List Value} (hp : w.heap[b]? = some (.cells C E fz)) (hc : Ao C o kk = cs) (k : RWP P ro n R Q rest (AY f (A1 R i) (lxV P (ldT (Ae R i)) cs j)) w)
  (hx : fev f (ldX (Ae R i)) = .pointer (some ⟨b, o + j, none⟩) := by kernel_rfl) (ho : (ung R i && (Oy (Ae R i) && lxK P (ldT (Ae R i)) cs j kk)) = true := by kernel_rfl) : RWP P ro n R Q (i :: rest) f w := by
 simp only [Bool.and_eq_true] at ho
 refine RWP.valU ho.1 ?_ k
 have := EQ ho.2.1
 rw [this]; exact O7 hx hp hc ho.2.2
def elS (P : Program) (t : TypeId) : Nat := match Bt P t with | some (_, s, _) => s | none => 0
theorem Ix {m : Nat} {y : Int} (hi : 0 <= y /\ y < (m : Int)) (k : RWP P ro n R Q rest (AY f (A1 R i) (.pointer (some ⟨sB (fev f (ixX (Ae R i))), sO (fev f (ixX (Ae R i))) + y.toNat * elS P (ixT (Ae R i)), none⟩))) w)
  (hx : fev f (ixX (Ae R i)) = .slice (some ⟨sB (fev f (ixX (Ae R i))), sO (fev f (ixX (Ae R i))), none⟩) m (sC (fev f (ixX (Ae R i)))) := by kernel_rfl) (hy : fev f (ixY (Ae R i)) = .int (iK (fev f (ixY (Ae R i)))) y := by kernel_rfl)
  (ho : (ung R i && (Pn (Ae R i) && slQ P (ixT (Ae R i)))) = true := by kernel_rfl) : RWP P ro n R Q (i :: rest) f w := by
 simp only [Bool.and_eq_true] at ho
 obtain ⟨h1, h2, h3⟩ := ho
 refine RWP.valU h1 ?_ k
 unfold slQ at h3
 split at h3
 ·rename_i q hq; obtain ⟨E, s, by_⟩ := q
  have es : elS P (ixT (Ae R i)) = s := by simp [elS, hq]
  rw [es]
  have e := FX h2
  have := Ce (P := P) (w := w) (ty := ES R i) hx hy hq hi
  rw [<- e] at this; exact this
 ·cases h3
theorem Ix0 {m : Nat} {y : Int} (hi : 0 <= y /\ y < (m : Int)) (k : RWP P ro n R Q rest (AY f (A1 R i) (.pointer (some ⟨sB (fev f (ixX (Ae R i))), y.toNat * elS P (ixT (Ae R i)), none⟩))) w)
  (hx : fev f (ixX (Ae R i)) = .slice (some ⟨sB (fev f (ixX (Ae R i))), 0, none⟩) m (sC (fev f (ixX (Ae R i)))) := by kernel_rfl) (hy : fev f (ixY (Ae R i)) = .int (iK (fev f (ixY (Ae R i)))) y := by kernel_rfl)
  (ho : (ung R i && (Pn (Ae R i) && slQ P (ixT (Ae R i)))) = true := by kernel_rfl) : RWP P ro n R Q (i :: rest) f w := by
 simp only [Bool.and_eq_true] at ho
 obtain ⟨h1, h2, h3⟩ := ho
 refine RWP.valU h1 ?_ k
 unfold slQ at h3
 split at h3
 ·rename_i q hq; obtain ⟨E, s, by_⟩ := q
  have es : elS P (ixT (Ae R i)) = s := by simp [elS, hq]
  rw [es]
  have e := FX h2
  have := DF (P := P) (w := w) (ty := ES R i) hx hy hq hi
  rw [<- e] at this; exact this
 ·cases h3
theorem QS {ρ : Operand -> Value} {t ty : TypeId} {x y : Operand} {m : Nat} {q : Int} (hi : 0 <= q /\ q < (m : Int)) (hx : ρ x = .slice (some ⟨sB (ρ x), sO (ρ x), none⟩) m (sC (ρ x))) (hy : ρ y = .int (iK (ρ y)) q) (h3 : slQ P t = true) :
  (Ai ρ (.indexAddr t x y) ty).run P w = .ok (.value (.pointer (some ⟨sB (ρ x), sO (ρ x) + q.toNat * elS P t, none⟩))) w := by
 unfold slQ at h3
 split at h3
 ·rename_i a hq; obtain ⟨E, s, by_⟩ := a
  have es : elS P t = s := by simp [elS, hq]
  rw [es]; exact Ce hx hy hq hi
 ·cases h3
theorem Sa {t ty : TypeId} {x y : Operand} {m : Nat} {q : Int} (hi : 0 <= q /\ q < (m : Int)) (hx : fev f x = .slice (some ⟨sB (fev f x), 0, none⟩) m (sC (fev f x))) (hy : fev f y = .int (iK (fev f y)) q) (h3 : slQ P t = true) :
  (Ai (fev f) (.indexAddr t x y) ty).run P w = .ok (.value (.pointer (some ⟨sB (fev f x), q.toNat * elS P t, none⟩))) w := by
 unfold slQ at h3
 split at h3
 ·rename_i a hq; obtain ⟨E, s, by_⟩ := a
  have es : elS P t = s := by simp [elS, hq]
  rw [es]; exact DF hx hy hq hi
 ·cases h3
theorem RWP.valG {gb' gc : Bool} (hg : gc = gb') {v : Value} (hy : (Ai (fev f) (Ae R i) (ES R i)).run P w = .ok (.value v) w') (k : RWP P ro n R Q rest (AY f (A1 R i) v) w')
  (ho2 : Lv R (gj R [i]) gb' i = true) (hj : Es R (gj R [i]) = some (gq R [i])) (hf : f (gq R [i]) = .bool gc) : RWP P ro n R Q (i :: rest) f w := by
 rcases LS ho2 with e | e
 ·exact Ut e rfl hy k
 ·exact Ut e (Ho hj hf hg) hy k
theorem Pg1 {gb' gc : Bool} (hg : gc = gb') {t : Bool} (ht : t = true) (k : RWP P ro n R Q rest (AY f (A1 R i) (fev f (pkA (Ae R i)))) w) (hc : fev f (pkC (Ae R i)) = .bool t := by kernel_rfl) (ho : Qs (Ae R i) = true := by kernel_rfl)
  (ho2 : Lv R (gj R [i]) gb' i = true := by kernel_rfl) (hj : Es R (gj R [i]) = some (gq R [i]) := by kernel_rfl) (hf : f (gq R [i]) = .bool gc := by kernel_rfl) : RWP P ro n R Q (i :: rest) f w := by
 refine RWP.valG hg ?_ k ho2 hj hf
 have := HT ho
 rw [this] at hc ⊢; exact JL hc ht rfl
theorem Pg0 {gb' gc : Bool} (hg : gc = gb') {t : Bool} (ht : t = false) (k : RWP P ro n R Q rest (AY f (A1 R i) (fev f (pkB (Ae R i)))) w) (hc : fev f (pkC (Ae R i)) = .bool t := by kernel_rfl) (ho : Qs (Ae R i) = true := by kernel_rfl)
  (ho2 : Lv R (gj R [i]) gb' i = true := by kernel_rfl) (hj : Es R (gj R [i]) = some (gq R [i]) := by kernel_rfl) (hf : f (gq R [i]) = .bool gc := by kernel_rfl) : RWP P ro n R Q (i :: rest) f w := by
 refine RWP.valG hg ?_ k ho2 hj hf
 have := HT ho
 rw [this] at hc ⊢; exact JM hc ht rfl
theorem Lg {gb' gc : Bool} (hg : gc = gb') {b : Nat} {C : Array Value} {E : TypeId} {fz : Nat × Nat} (hp : w.heap[b]? = some (.cells C E fz)) (k : RWP P ro n R Q rest (AY f (A1 R i) (ldV P (ldT (Ae R i)) C (pO (fev f (ldX (Ae R i)))))) w)
  (hx : fev f (ldX (Ae R i)) = .pointer (some ⟨b, pO (fev f (ldX (Ae R i))), none⟩) := by kernel_rfl) (ho : (Oy (Ae R i) && ldK P (ldT (Ae R i)) C (pO (fev f (ldX (Ae R i))))) = true := by kernel_rfl)
  (ho2 : Lv R (gj R [i]) gb' i = true := by kernel_rfl) (hj : Es R (gj R [i]) = some (gq R [i]) := by kernel_rfl) (hf : f (gq R [i]) = .bool gc := by kernel_rfl) : RWP P ro n R Q (i :: rest) f w := by
 simp only [Bool.and_eq_true] at ho
 refine RWP.valG hg ?_ k ho2 hj hf
 have := EQ ho.1
 rw [this]; exact O9 hx hp ho.2
theorem Lxg {gb' gc : Bool} (hg : gc = gb') (j : Nat) {b o kk : Nat} {C : Array Value} {E : TypeId} {fz : Nat × Nat} {cs : List Value} (hp : w.heap[b]? = some (.cells C E fz)) (hcs : Ao C o kk = cs) (k : RWP P ro n R Q rest (AY f (A1 R i) (lxV P (ldT (Ae R i)) cs j)) w)
  (hx : fev f (ldX (Ae R i)) = .pointer (some ⟨b, o + j, none⟩) := by kernel_rfl) (ho : (Oy (Ae R i) && lxK P (ldT (Ae R i)) cs j kk) = true := by kernel_rfl)
  (ho2 : Lv R (gj R [i]) gb' i = true := by kernel_rfl) (hj : Es R (gj R [i]) = some (gq R [i]) := by kernel_rfl) (hf : f (gq R [i]) = .bool gc := by kernel_rfl) : RWP P ro n R Q (i :: rest) f w := by
 simp only [Bool.and_eq_true] at ho
 refine RWP.valG hg ?_ k ho2 hj hf
 have := EQ ho.1
 rw [this]; exact O7 hx hp hcs ho.2
theorem Ixg {gb' gc : Bool} (hg : gc = gb') {m : Nat} {y : Int} (hi : 0 <= y /\ y < (m : Int)) (k : RWP P ro n R Q rest (AY f (A1 R i) (.pointer (some ⟨sB (fev f (ixX (Ae R i))), sO (fev f (ixX (Ae R i))) + y.toNat * elS P (ixT (Ae R i)), none⟩))) w)
  (hx : fev f (ixX (Ae R i)) = .slice (some ⟨sB (fev f (ixX (Ae R i))), sO (fev f (ixX (Ae R i))), none⟩) m (sC (fev f (ixX (Ae R i)))) := by kernel_rfl) (hy : fev f (ixY (Ae R i)) = .int (iK (fev f (ixY (Ae R i)))) y := by kernel_rfl)
  (ho : (Pn (Ae R i) && slQ P (ixT (Ae R i))) = true := by kernel_rfl)
  (ho2 : Lv R (gj R [i]) gb' i = true := by kernel_rfl) (hj : Es R (gj R [i]) = some (gq R [i]) := by kernel_rfl) (hf : f (gq R [i]) = .bool gc := by kernel_rfl) : RWP P ro n R Q (i :: rest) f w := by
 simp only [Bool.and_eq_true] at ho
 refine RWP.valG hg ?_ k ho2 hj hf
 have e := FX ho.1
 have := QS (P := P) (w := w) (ty := ES R i) hi hx hy ho.2
 rw [<- e] at this; exact this
theorem Uo {gb' gc : Bool} (hg : gc = gb') {m : Nat} {y : Int} (hi : 0 <= y /\ y < (m : Int)) (k : RWP P ro n R Q rest (AY f (A1 R i) (.pointer (some ⟨sB (fev f (ixX (Ae R i))), y.toNat * elS P (ixT (Ae R i)), none⟩))) w)
  (hx : fev f (ixX (Ae R i)) = .slice (some ⟨sB (fev f (ixX (Ae R i))), 0, none⟩) m (sC (fev f (ixX (Ae R i)))) := by kernel_rfl) (hy : fev f (ixY (Ae R i)) = .int (iK (fev f (ixY (Ae R i)))) y := by kernel_rfl)
  (ho : (Pn (Ae R i) && slQ P (ixT (Ae R i))) = true := by kernel_rfl)
  (ho2 : Lv R (gj R [i]) gb' i = true := by kernel_rfl) (hj : Es R (gj R [i]) = some (gq R [i]) := by kernel_rfl) (hf : f (gq R [i]) = .bool gc := by kernel_rfl) : RWP P ro n R Q (i :: rest) f w := by
 simp only [Bool.and_eq_true] at ho
 refine RWP.valG hg ?_ k ho2 hj hf
 have e := FX ho.1
 have := Sa (P := P) (w := w) (ty := ES R i) hi hx hy ho.2
 rw [<- e] at this; exact this
theorem Al' (t : TypeId) (C : Array Value) (hs : HS w0 F0 w F L) (k : ∀ b w', HS w0 F0 w' F ((some b, .cells C t (0, 0)) :: L) -> RWP P ro n R Q rest (AY f (A1 R i) (.pointer (some ⟨b, 0, none⟩))) w')
  (hC : (BF P t).map Value.cells = some C := by kernel_rfl) (ho : (ung R i && SJ t (Ae R i)) = true := by kernel_rfl) : RWP P ro n R Q (i :: rest) f w := by
 simp only [Bool.and_eq_true] at ho
 cases hz : BF P t with
 | none => rw [hz] at hC; cases hC
 | some z =>
  rw [hz] at hC; simp only [Option.map_some, Option.some.injEq] at hC
  have e := M5 ho.2
  have := A4 ho.1
  rw [e] at this
  exact RWP.alloc this rfl hz hC hs k
theorem Bx' (t : TypeId) (C : Array Value) (hs : HS w0 F0 w F L) (k : ∀ b w', HS w0 F0 w' F ((some b, .cells C t (0, 0)) :: L) -> RWP P ro n R Q rest (AY f (A1 R i) (.pointer (some ⟨b, 0, none⟩))) w')
  (hC : (fev f (bxX (Ae R i))).cells = C := by kernel_rfl) (ho : (ung R i && SI t (Ae R i)) = true := by kernel_rfl) : RWP P ro n R Q (i :: rest) f w := by
 simp only [Bool.and_eq_true] at ho
 have e := M4 ho.2
 have := A4 ho.1
 rw [e] at this
 exact RWP.box this rfl rfl hC hs k
theorem Bs (E : TypeId) (cs : List Value) (hs : HS w0 F0 w F L) (k : ∀ b w', HS w0 F0 w' F ((some b, .cells cs.toArray E (0, 0)) :: L) -> RWP P ro n R Q rest (AY f (A1 R i) (.slice (some ⟨b, 0, none⟩) (bsL (Ae R i)) (bsL (Ae R i)))) w')
  (hb : bsV P f (Ae R i) = some (E, cs) := by kernel_rfl) (ho : ung R i = true := by kernel_rfl) : RWP P ro n R Q (i :: rest) f w := by
 have := A4 ho
 cases e : Ae R i with
 | buildSlice t len parts =>
  rw [e] at hb this k
  exact RWP.buildSlice this rfl rfl hb hs k
 | _ => rw [e] at hb; simp [bsV] at hb
def CH (P : Program) (t : TypeId) (v : Value) (o : Nat) (C : Array Value) : Bool := match D6 P t with | some (_, s) => Nat.beq v.cells.size s && (decide (o + s <= C.size) && v.cells.toList.all (·.oneCell')) | none => false
theorem Gk {ρ : Operand -> Value} {t ty : TypeId} {x y : Operand} {b o : Nat} {C C' : Array Value} {E : TypeId} (hx : ρ x = .pointer (some ⟨b, o, none⟩)) (hp : w.heap[b]? = some (.cells C E (0, 0))) (hk : CH P t (ρ y) o C = true) (hC : CA C o (ρ y).cells.toList = C') :
  (Ai ρ (.store t x y) ty).run P w = .ok .skip (BT w b (.cells C' E (0, 0))) := by
 unfold CH at hk
 split at hk
 ·rename_i g s ht
  simp only [Bool.and_eq_true] at hk
  exact O2 hx rfl ht hp (Nat.eq_of_beq_eq_true hk.1) hk.2.1 hk.2.2 hC
 ·cases hk
theorem IZ {b : Nat} {C C' : Array Value} {E : TypeId} (hp : w.heap[b]? = some (.cells C E (0, 0))) (k : RWP P ro n R Q rest f (BT w b (.cells C' E (0, 0))))
  (hx : fev f (stX (Ae R i)) = .pointer (some ⟨b, pO (fev f (stX (Ae R i))), none⟩)) (hC : CA C (pO (fev f (stX (Ae R i)))) (fev f (stY (Ae R i))).cells.toList = C')
  (ho : (ung R i && (GW (Ae R i) && (CH P (stT (Ae R i)) (fev f (stY (Ae R i))) (pO (fev f (stX (Ae R i)))) C && (match A1 R i with | none => true | some _ => false)))) = true) : RWP P ro n R Q (i :: rest) f w := by
 simp only [Bool.and_eq_true] at ho
 obtain ⟨h1, h2, h3, h4⟩ := ho
 have e := Dd h2
 have := A4 h1
 cases hd : A1 R i with
 | some d => rw [hd] at h4; cases h4
 | none =>
  rw [hd] at this
  refine RWP.unit this rfl ?_ k
  rw [e]; exact Gk hx hp h3 hC
theorem Cl' {fid : FuncId} {args : List Value} {post : Mem -> Value -> Prop} (hok : Ag P fid) (hs : HS w0 F0 w F L) (hc : Calls P fid args.toArray w (AB w F post))
  (k : ∀ v F1 w1, HS w0 F0 w1 F1 L -> Uw F F1 -> post F1 v -> RWP P ro n R Q rest (AY f (A1 R i) v) w1) (ha : clV f (Ae R i) = some (fid, args) := by kernel_rfl) (ho : ung R i = true := by kernel_rfl) : RWP P ro n R Q (i :: rest) f w := by
 refine Uu (A4 ho) rfl (Jy ha hok) hc ?_
 rintro e w' ⟨r, F', rfl, h1, h2⟩
 exact k r F' w' (hs.call h1) h1.le h2
theorem Cg {fid : FuncId} {args : List Value} {post : Mem -> Value -> Prop} {b c : Bool} (hg : c = b) (hok : Ag P fid) (hs : HS w0 F0 w F L) (hc : Calls P fid args.toArray w (AB w F post))
  (k : ∀ v F1 w1, HS w0 F0 w1 F1 L -> Uw F F1 -> post F1 v -> RWP P ro n R Q rest (AY f (A1 R i) v) w1) (ha : clV f (Ae R i) = some (fid, args) := by kernel_rfl)
  (ho : Lv R (gj R [i]) b i = true := by kernel_rfl) (hj : Es R (gj R [i]) = some (gq R [i]) := by kernel_rfl) (hf : f (gq R [i]) = .bool c := by kernel_rfl) : RWP P ro n R Q (i :: rest) f w := by
 have hE : ∀ e w', AB w F post e w' -> match e with
   | .returned v => RWP P ro n R Q rest (AY f (A1 R i) v) w'
   | .panicked chain => Q (.panic chain) f w'
   | .outgrown => False := by
  rintro e w' ⟨r, F', rfl, h1, h2⟩
  exact k r F' w' (hs.call h1) h1.le h2
 rcases LS ho with e | e
 ·exact Uu e rfl (Jy ha hok) hc hE
 ·exact Uu e (Ho hj hf hg) (Jy ha hok) hc hE
theorem CB {fid : FuncId} {args : List Value} {wb : World} {Fb : Mem} {post : Mem -> Value -> Own -> Prop} (hok : Ag P fid) (hc : Calls P fid args.toArray w (Ed wb Fb F post))
  (k : ∀ v F1 w1 L', HS wb Fb w1 F1 L' -> Uw F F1 -> post F1 v L' -> RWP P ro n R Q rest (AY f (A1 R i) v) w1) (ha : clV f (Ae R i) = some (fid, args) := by kernel_rfl) (ho : ung R i = true := by kernel_rfl) : RWP P ro n R Q (i :: rest) f w := by
 refine Uu (A4 ho) rfl (Jy ha hok) hc ?_
 rintro e w' ⟨F', r, L', rfl, h1, h2, h3⟩
 exact k r F' w' L' h1 h2 h3
def clQ (f : Fr) : Op -> Option (FuncId × List Value)
 | .call c => (match c.callee with
  | .value f0 => (match fev f f0 with
   | .func (.func g) fi ca => some (g, fi.toList ++ (c.args.toList.map (fev f) ++ ca.toList))
   | _ => none)
  | _ => none)
 | _ => none
theorem TF (f : Fr) (op : Op) : clQ f op = clV f op := by
 unfold clQ clV
 split <;> try rfl
 split <;> try rfl
 split <;> try rfl
 simp [List.append_assoc]
theorem Cq {fid : FuncId} {args : List Value} {post : Mem -> Value -> Prop} (hok : Ag P fid) (hs : HS w0 F0 w F L) (hc : Calls P fid args.toArray w (AB w F post))
  (k : ∀ v F1 w1, HS w0 F0 w1 F1 L -> Uw F F1 -> post F1 v -> RWP P ro n R Q rest (AY f (A1 R i) v) w1) (ha : clQ f (Ae R i) = some (fid, args) := by kernel_rfl) (ho : ung R i = true := by kernel_rfl) : RWP P ro n R Q (i :: rest) f w := Cl' hok hs hc k (TF f _ ▸ ha) ho
theorem Go (m : Nat) {fid : FuncId} {fn : Func} {args : List Value} {S : Ending -> World -> Prop} (hf : P.funcs[fid]? = some fn) (h : CWP P none m (Mp fn) (TS P fn.results S) (f0 args) w)
  (hk : (Nat.beq fn.ntmps m && (decide (args.length <= m) && isS fn.body)) = true := by kernel_rfl) : Calls P fid args.toArray w S := by
 simp only [Bool.and_eq_true] at hk
 have h1 := Hk (d := .skip) hk.2.2
 exact Mj hf h1 (Nat.eq_of_beq_eq_true hk.1) hk.2.1 h
theorem Sd {α : Type} {t : Bool} {x y r : α} (h : (bif t then x else y) = r) {PQ : List PanicEntry -> List Deferred -> World -> Prop} {Post : Fr -> World -> Prop} {z : Nat} {Sw : Bool -> World -> Prop} {fuel : Nat} {l : List Bool}
  (ht : t = true -> x = r -> DWP P n R PQ Post z Sw fuel l f w) (hf : t = false -> y = r -> DWP P n R PQ Post z Sw fuel l f w) : DWP P n R PQ Post z Sw fuel l f w :=
 DWP.split t (fun e => ht e (NL h e)) (fun e => hf e (NM h e))
variable {c : Code} {Q' : Exit -> Fr -> World -> Prop}
theorem Cd {α : Type} {t : Bool} {x y r : α} (h : (bif t then x else y) = r) (ht : t = true -> x = r -> CWP P ro n (RH c) Q f w) (hf : t = false -> y = r -> CWP P ro n (RI c) Q f w) (hc : fev f (Pu c) = .bool t := by kernel_rfl) (hk : kin c = 4 := by kernel_rfl) : CWP P ro n c Q f w :=
 CWP.cond hk hc (fun e => ht e (NL h e)) (fun e => hf e (NM h e))
theorem Cp (t : Bool) (ht : t = true -> CWP P ro n (RH c) Q f w) (hf : t = false -> CWP P ro n (RI c) Q f w) (hc : fev f (Pu c) = .bool t := by kernel_rfl) (hk : kin c = 4 := by kernel_rfl) : CWP P ro n c Q f w := CWP.cond hk hc ht hf
theorem C1 {t : Bool} (e : t = true) (h : CWP P ro n (RH c) Q f w) (hc : fev f (Pu c) = .bool t := by kernel_rfl) (hk : kin c = 4 := by kernel_rfl) : CWP P ro n c Q f w := CWP.cond1 hk hc e h
theorem C0 {t : Bool} (e : t = false) (h : CWP P ro n (RI c) Q f w) (hc : fev f (Pu c) = .bool t := by kernel_rfl) (hk : kin c = 4 := by kernel_rfl) : CWP P ro n c Q f w := CWP.cond0 hk hc e h
theorem Sp {α : Type} {t : Bool} {x y r : α} (h : (bif t then x else y) = r) {l : List Nat} (ht : t = true -> x = r -> RWP P ro n R Q l f w) (hf : t = false -> y = r -> RWP P ro n R Q l f w) : RWP P ro n R Q l f w :=
 UB t (fun e => ht e (NL h e)) (fun e => hf e (NM h e))
theorem Rt (h : Q .ret f w) (hk : kin c = 8 := by kernel_rfl) : CWP P ro n c Q f w := CWP.ret hk h
theorem Ex (h : Q (.exit (cid c)) f w) (hk : kin c = 7 := by kernel_rfl) : CWP P ro n c Q f w := CWP.exit hk h
end
def Qd (f : Fr) : List ResultVar -> Option (List Value)
 | [] => some []
 | .tmp t :: rs => (match Qd f rs with | some l => some (f t :: l) | none => none)
 | _ => none
theorem JO {P : Program} {w : World} {f : Fr} : ∀ {rs : List ResultVar} {vs : List Value}, Qd f rs = some vs -> RR P w f rs vs
 | [], _, h => by cases h; trivial
 | .tmp t :: rs, vs, h => by
  unfold Qd at h
  split at h
  ·rename_i l hl; cases h; exact ⟨rfl, JO hl⟩
  ·cases h
 | .cell _ _ :: rs, vs, h => by simp [Qd] at h
theorem Re {P : Program} {rs : Array ResultVar} {w w0 : World} {F0 F : Mem} {f : Fr} {L : List (Option Nat × Obj)} {post : Mem -> Value -> Prop} (vs : List Value) (hs : HS w0 F0 w F L) (hp : post F (IA vs)) (hr : Qd f rs.toList = some vs := by kernel_rfl) (hd : f.d = [] := by kernel_rfl) :
  f.d = [] /\ ∃ v, (CS rs f).run P w = .ok v w /\ AB w0 F0 post (.returned v) w :=
 ⟨hd, IA vs, AR rfl (JO hr), IA vs, F, rfl, hs.clear, hp⟩
theorem ReB {P : Program} {rs : Array ResultVar} {w wb : World} {Fb F0 F : Mem} {f : Fr} {L : Own} {post : Mem -> Value -> Own -> Prop} (vs : List Value) (hs : HS wb Fb w F L) (hl : Uw F0 F) (hp : post F (IA vs) L) (hr : Qd f rs.toList = some vs := by kernel_rfl) (hd : f.d = [] := by kernel_rfl) :
  f.d = [] /\ ∃ v, (CS rs f).run P w = .ok v w /\ Ed wb Fb F0 post (.returned v) w :=
 ⟨hd, IA vs, AR rfl (JO hr), F, IA vs, L, rfl, hs, hl, hp⟩
section
variable {w0 w : World} {F0 F : Mem} {L : List (Option Nat × Obj)} {e : Option Nat × Obj}
theorem HS.dr0 (h : HS w0 F0 w F (e :: L)) : HS w0 F0 w F (L) := h.drop 0
theorem HS.at0 {b : Nat} {o : Obj} (h : HS w0 F0 w F ((some b, o) :: L)) : w.heap[b]? = some o := h.ownAt (k := 0) rfl
theorem HS.fc0 {b : Nat} {o : Obj} (h : HS w0 F0 w F ((some b, o) :: L)) : ∃ F1, HS w0 F0 w F1 (L) /\ Uw F F1 /\ F1 b = some o := h.freezeC (k := 0) rfl
theorem HS.fr0 {α : Type} {T : Ty α} {E : TypeId} {a : UR} {cap : Nat} {l : List α} (h : HS w0 F0 w F (e :: L)) (hr : Ap T E F a cap l e) : ∃ F1, HS w0 F0 w F1 (L) /\ Uw F F1 /\ SlA T F1 a l := h.freezeRow (k := 0) rfl hr
theorem HS.rd0 {α : Type} {T : Ty α} {E : TypeId} {a : UR} {cap : Nat} {l : List α} (h : HS w0 F0 w F (e :: L)) (hr : Ap T E F a cap l e) : Rd T F w a l := Ap.rd h (k := 0) rfl hr
theorem HS.dr1 {e0 : Option Nat × Obj} (h : HS w0 F0 w F (e0 :: e :: L)) : HS w0 F0 w F (e0 :: L) := h.drop 1
theorem HS.pk1 {e0 : Option Nat × Obj} (h : HS w0 F0 w F (e0 :: e :: L)) : HS w0 F0 w F (e :: e0 :: L) := h.pick (k := 1) rfl
theorem HS.at1 {e0 : Option Nat × Obj} {b : Nat} {o : Obj} (h : HS w0 F0 w F (e0 :: (some b, o) :: L)) : w.heap[b]? = some o := h.ownAt (k := 1) rfl
theorem HS.fc1 {e0 : Option Nat × Obj} {b : Nat} {o : Obj} (h : HS w0 F0 w F (e0 :: (some b, o) :: L)) : ∃ F1, HS w0 F0 w F1 (e0 :: L) /\ Uw F F1 /\ F1 b = some o := h.freezeC (k := 1) rfl
theorem HS.fr1 {e0 : Option Nat × Obj} {α : Type} {T : Ty α} {E : TypeId} {a : UR} {cap : Nat} {l : List α} (h : HS w0 F0 w F (e0 :: e :: L)) (hr : Ap T E F a cap l e) : ∃ F1, HS w0 F0 w F1 (e0 :: L) /\ Uw F F1 /\ SlA T F1 a l := h.freezeRow (k := 1) rfl hr
theorem HS.dr2 {e0 e1 : Option Nat × Obj} (h : HS w0 F0 w F (e0 :: e1 :: e :: L)) : HS w0 F0 w F (e0 :: e1 :: L) := h.drop 2
theorem HS.pk2 {e0 e1 : Option Nat × Obj} (h : HS w0 F0 w F (e0 :: e1 :: e :: L)) : HS w0 F0 w F (e :: e0 :: e1 :: L) := h.pick (k := 2) rfl
theorem HS.at2 {e0 e1 : Option Nat × Obj} {b : Nat} {o : Obj} (h : HS w0 F0 w F (e0 :: e1 :: (some b, o) :: L)) : w.heap[b]? = some o := h.ownAt (k := 2) rfl
theorem HS.dr3 {e0 e1 e2 : Option Nat × Obj} (h : HS w0 F0 w F (e0 :: e1 :: e2 :: e :: L)) : HS w0 F0 w F (e0 :: e1 :: e2 :: L) := h.drop 3
theorem HS.pk3 {e0 e1 e2 : Option Nat × Obj} (h : HS w0 F0 w F (e0 :: e1 :: e2 :: e :: L)) : HS w0 F0 w F (e :: e0 :: e1 :: e2 :: L) := h.pick (k := 3) rfl
theorem HS.at3 {e0 e1 e2 : Option Nat × Obj} {b : Nat} {o : Obj} (h : HS w0 F0 w F (e0 :: e1 :: e2 :: (some b, o) :: L)) : w.heap[b]? = some o := h.ownAt (k := 3) rfl
theorem HS.dr4 {e0 e1 e2 e3 : Option Nat × Obj} (h : HS w0 F0 w F (e0 :: e1 :: e2 :: e3 :: e :: L)) : HS w0 F0 w F (e0 :: e1 :: e2 :: e3 :: L) := h.drop 4
theorem HS.pk4 {e0 e1 e2 e3 : Option Nat × Obj} (h : HS w0 F0 w F (e0 :: e1 :: e2 :: e3 :: e :: L)) : HS w0 F0 w F (e :: e0 :: e1 :: e2 :: e3 :: L) := h.pick (k := 4) rfl
theorem HS.at4 {e0 e1 e2 e3 : Option Nat × Obj} {b : Nat} {o : Obj} (h : HS w0 F0 w F (e0 :: e1 :: e2 :: e3 :: (some b, o) :: L)) : w.heap[b]? = some o := h.ownAt (k := 4) rfl
theorem HS.dr5 {e0 e1 e2 e3 e4 : Option Nat × Obj} (h : HS w0 F0 w F (e0 :: e1 :: e2 :: e3 :: e4 :: e :: L)) : HS w0 F0 w F (e0 :: e1 :: e2 :: e3 :: e4 :: L) := h.drop 5
theorem HS.pk5 {e0 e1 e2 e3 e4 : Option Nat × Obj} (h : HS w0 F0 w F (e0 :: e1 :: e2 :: e3 :: e4 :: e :: L)) : HS w0 F0 w F (e :: e0 :: e1 :: e2 :: e3 :: e4 :: L) := h.pick (k := 5) rfl
theorem HS.at5 {e0 e1 e2 e3 e4 : Option Nat × Obj} {b : Nat} {o : Obj} (h : HS w0 F0 w F (e0 :: e1 :: e2 :: e3 :: e4 :: (some b, o) :: L)) : w.heap[b]? = some o := h.ownAt (k := 5) rfl
theorem HS.pk6 {e0 e1 e2 e3 e4 e5 : Option Nat × Obj} (h : HS w0 F0 w F (e0 :: e1 :: e2 :: e3 :: e4 :: e5 :: e :: L)) : HS w0 F0 w F (e :: e0 :: e1 :: e2 :: e3 :: e4 :: e5 :: L) := h.pick (k := 6) rfl
theorem HS.at6 {e0 e1 e2 e3 e4 e5 : Option Nat × Obj} {b : Nat} {o : Obj} (h : HS w0 F0 w F (e0 :: e1 :: e2 :: e3 :: e4 :: e5 :: (some b, o) :: L)) : w.heap[b]? = some o := h.ownAt (k := 6) rfl
theorem HS.pk7 {e0 e1 e2 e3 e4 e5 e6 : Option Nat × Obj} (h : HS w0 F0 w F (e0 :: e1 :: e2 :: e3 :: e4 :: e5 :: e6 :: e :: L)) : HS w0 F0 w F (e :: e0 :: e1 :: e2 :: e3 :: e4 :: e5 :: e6 :: L) := h.pick (k := 7) rfl
variable {P : Program} {ro : Option Nat} {n : Nat} {R : Array Oper} {Q : Exit -> Fr -> World -> Prop} {i : Nat} {rest : List Nat} {f : Fr} {α : Type} {T : Ty α} {E : TypeId} {a : UR} {cap : Nat} {l m : List α}
def apX : Op -> Operand | .call c => c.args[0]?.getD (.tmp 0) | _ => .tmp 0
def apY : Op -> Operand | .call c => c.args[1]?.getD (.tmp 0) | _ => .tmp 0
def apK (P : Program) (E : TypeId) (sz : Nat) : Op -> Bool
 | .call c => (match c.callee with
  | .builtin .append => (match c.args.toList, c.argTypes.toList with
   | [_, _], [t, t2] => (match Bt P t, BF P E with
    | some (E', s, by_), some z => Nat.beq E E' && (Nat.beq s sz && (decide (by_ <= 1024) && (L1 P t2 && Nat.beq z.cells.size sz)))
    | _, _ => false)
   | _, _ => false)
  | _ => false)
 | _ => false
theorem E1 {op : Op} {sz : Nat} (h : apK P E sz op = true) : ∃ t t2 by_ z, op = .call { callee := .builtin .append, args := #[apX op, apY op], argTypes := #[t, t2] } /\ Bt P t = some (E, sz, by_) /\ decide (by_ <= 1024) = true /\ L1 P t2 = true /\ BF P E = some z /\ z.cells.size = sz := by
 unfold apK at h
 split at h
 ·rename_i c
  obtain ⟨callee, aos, ats⟩ := c
  simp only at h
  split at h
  ·split at h
   ·rename_i x y t t2 h1 h2
    split at h
    ·rename_i E' s by_ z he hz
     simp only [Bool.and_eq_true] at h
     obtain ⟨e1, e2, e3, e4, e5⟩ := h
     have e1 := Nat.eq_of_beq_eq_true e1
     have e2 := Nat.eq_of_beq_eq_true e2
     subst e1; subst e2
     have ha : aos = #[x, y] := by cases aos; simpa using h1
     have hb : ats = #[t, t2] := by cases ats; simpa using h2
     subst ha; subst hb
     exact ⟨t, t2, by_, z, rfl, he, e3, e4, hz, Nat.eq_of_beq_eq_true e5⟩
    ·cases h
   ·cases h
  ·cases h
 ·cases h
theorem St0 {b : Nat} {C : Array Value} {E : TypeId} (C' : Array Value) (hs : HS w0 F0 w F ((some b, .cells C E (0, 0)) :: L)) (k : ∀ w', HS w0 F0 w' F ((some b, .cells C' E (0, 0)) :: L) -> RWP P ro n R Q rest f w')
  (hx : fev f (stX (Ae R i)) = .pointer (some ⟨b, pO (fev f (stX (Ae R i))), none⟩) := by kernel_rfl) (hC : CA C (pO (fev f (stX (Ae R i)))) (fev f (stY (Ae R i))).cells.toList = C' := by kernel_rfl)
  (ho : (ung R i && (GW (Ae R i) && (CH P (stT (Ae R i)) (fev f (stY (Ae R i))) (pO (fev f (stX (Ae R i)))) C && (match A1 R i with | none => true | some _ => false)))) = true := by kernel_rfl) : RWP P ro n R Q (i :: rest) f w :=
 IZ (hs.ownAt (k := 0) rfl) (k _ (hs.put (k := 0) rfl _)) hx hC ho
theorem Ap0 {a2 : UR} (h1 : T.One) (hs : HS w0 F0 w F (e :: L)) (hr : Ap T E F a cap l e) (hm : Rd T F w a2 m) {r : List α} (hap : Dr l m = some r)
  (k : ∀ a' cap' e' w', HS w0 F0 w' F (e' :: L) -> Ap T E F a' cap' r e' -> RWP P ro n R Q rest (AY f (A1 R i) (.slice a' r.length cap')) w')
  (hx : fev f (apX (Ae R i)) = .slice a l.length cap := by kernel_rfl) (hy : fev f (apY (Ae R i)) = .slice a2 m.length (sC (fev f (apY (Ae R i)))) := by kernel_rfl) (ho : (ung R i && apK P E T.sz (Ae R i)) = true := by kernel_rfl) : RWP P ro n R Q (i :: rest) f w := by
 simp only [Bool.and_eq_true] at ho
 obtain ⟨t, t2, by_, z, e1, he, hb, hni, hz, hzs⟩ := E1 ho.2
 have := A4 ho.1
 rw [e1] at this
 exact RWP.append this rfl hx hy he hb hni hz hzs h1 hs (k := 0) rfl hr hm hap k
theorem St1 {e0 : Option Nat × Obj} {b : Nat} {C : Array Value} {E : TypeId} (C' : Array Value) (hs : HS w0 F0 w F (e0 :: (some b, .cells C E (0, 0)) :: L)) (k : ∀ w', HS w0 F0 w' F (e0 :: (some b, .cells C' E (0, 0)) :: L) -> RWP P ro n R Q rest f w')
  (hx : fev f (stX (Ae R i)) = .pointer (some ⟨b, pO (fev f (stX (Ae R i))), none⟩) := by kernel_rfl) (hC : CA C (pO (fev f (stX (Ae R i)))) (fev f (stY (Ae R i))).cells.toList = C' := by kernel_rfl)
  (ho : (ung R i && (GW (Ae R i) && (CH P (stT (Ae R i)) (fev f (stY (Ae R i))) (pO (fev f (stX (Ae R i)))) C && (match A1 R i with | none => true | some _ => false)))) = true := by kernel_rfl) : RWP P ro n R Q (i :: rest) f w :=
 IZ (hs.ownAt (k := 1) rfl) (k _ (hs.put (k := 1) rfl _)) hx hC ho
theorem Ap1 {e0 : Option Nat × Obj} {a2 : UR} (h1 : T.One) (hs : HS w0 F0 w F (e0 :: e :: L)) (hr : Ap T E F a cap l e) (hm : Rd T F w a2 m) {r : List α} (hap : Dr l m = some r)
  (k : ∀ a' cap' e' w', HS w0 F0 w' F (e0 :: e' :: L) -> Ap T E F a' cap' r e' -> RWP P ro n R Q rest (AY f (A1 R i) (.slice a' r.length cap')) w')
  (hx : fev f (apX (Ae R i)) = .slice a l.length cap := by kernel_rfl) (hy : fev f (apY (Ae R i)) = .slice a2 m.length (sC (fev f (apY (Ae R i)))) := by kernel_rfl) (ho : (ung R i && apK P E T.sz (Ae R i)) = true := by kernel_rfl) : RWP P ro n R Q (i :: rest) f w := by
 simp only [Bool.and_eq_true] at ho
 obtain ⟨t, t2, by_, z, e1, he, hb, hni, hz, hzs⟩ := E1 ho.2
 have := A4 ho.1
 rw [e1] at this
 exact RWP.append this rfl hx hy he hb hni hz hzs h1 hs (k := 1) rfl hr hm hap k
theorem St2 {e0 e1 : Option Nat × Obj} {b : Nat} {C : Array Value} {E : TypeId} (C' : Array Value) (hs : HS w0 F0 w F (e0 :: e1 :: (some b, .cells C E (0, 0)) :: L)) (k : ∀ w', HS w0 F0 w' F (e0 :: e1 :: (some b, .cells C' E (0, 0)) :: L) -> RWP P ro n R Q rest f w')
  (hx : fev f (stX (Ae R i)) = .pointer (some ⟨b, pO (fev f (stX (Ae R i))), none⟩) := by kernel_rfl) (hC : CA C (pO (fev f (stX (Ae R i)))) (fev f (stY (Ae R i))).cells.toList = C' := by kernel_rfl)
  (ho : (ung R i && (GW (Ae R i) && (CH P (stT (Ae R i)) (fev f (stY (Ae R i))) (pO (fev f (stX (Ae R i)))) C && (match A1 R i with | none => true | some _ => false)))) = true := by kernel_rfl) : RWP P ro n R Q (i :: rest) f w :=
 IZ (hs.ownAt (k := 2) rfl) (k _ (hs.put (k := 2) rfl _)) hx hC ho
theorem Ap2 {e0 e1 : Option Nat × Obj} {a2 : UR} (h1 : T.One) (hs : HS w0 F0 w F (e0 :: e1 :: e :: L)) (hr : Ap T E F a cap l e) (hm : Rd T F w a2 m) {r : List α} (hap : Dr l m = some r)
  (k : ∀ a' cap' e' w', HS w0 F0 w' F (e0 :: e1 :: e' :: L) -> Ap T E F a' cap' r e' -> RWP P ro n R Q rest (AY f (A1 R i) (.slice a' r.length cap')) w')
  (hx : fev f (apX (Ae R i)) = .slice a l.length cap := by kernel_rfl) (hy : fev f (apY (Ae R i)) = .slice a2 m.length (sC (fev f (apY (Ae R i)))) := by kernel_rfl) (ho : (ung R i && apK P E T.sz (Ae R i)) = true := by kernel_rfl) : RWP P ro n R Q (i :: rest) f w := by
 simp only [Bool.and_eq_true] at ho
 obtain ⟨t, t2, by_, z, e1, he, hb, hni, hz, hzs⟩ := E1 ho.2
 have := A4 ho.1
 rw [e1] at this
 exact RWP.append this rfl hx hy he hb hni hz hzs h1 hs (k := 2) rfl hr hm hap k
theorem St3 {e0 e1 e2 : Option Nat × Obj} {b : Nat} {C : Array Value} {E : TypeId} (C' : Array Value) (hs : HS w0 F0 w F (e0 :: e1 :: e2 :: (some b, .cells C E (0, 0)) :: L)) (k : ∀ w', HS w0 F0 w' F (e0 :: e1 :: e2 :: (some b, .cells C' E (0, 0)) :: L) -> RWP P ro n R Q rest f w')
  (hx : fev f (stX (Ae R i)) = .pointer (some ⟨b, pO (fev f (stX (Ae R i))), none⟩) := by kernel_rfl) (hC : CA C (pO (fev f (stX (Ae R i)))) (fev f (stY (Ae R i))).cells.toList = C' := by kernel_rfl)
  (ho : (ung R i && (GW (Ae R i) && (CH P (stT (Ae R i)) (fev f (stY (Ae R i))) (pO (fev f (stX (Ae R i)))) C && (match A1 R i with | none => true | some _ => false)))) = true := by kernel_rfl) : RWP P ro n R Q (i :: rest) f w :=
 IZ (hs.ownAt (k := 3) rfl) (k _ (hs.put (k := 3) rfl _)) hx hC ho
theorem St5 {e0 e1 e2 e3 e4 : Option Nat × Obj} {b : Nat} {C : Array Value} {E : TypeId} (C' : Array Value) (hs : HS w0 F0 w F (e0 :: e1 :: e2 :: e3 :: e4 :: (some b, .cells C E (0, 0)) :: L)) (k : ∀ w', HS w0 F0 w' F (e0 :: e1 :: e2 :: e3 :: e4 :: (some b, .cells C' E (0, 0)) :: L) -> RWP P ro n R Q rest f w')
  (hx : fev f (stX (Ae R i)) = .pointer (some ⟨b, pO (fev f (stX (Ae R i))), none⟩) := by kernel_rfl) (hC : CA C (pO (fev f (stX (Ae R i)))) (fev f (stY (Ae R i))).cells.toList = C' := by kernel_rfl)
  (ho : (ung R i && (GW (Ae R i) && (CH P (stT (Ae R i)) (fev f (stY (Ae R i))) (pO (fev f (stX (Ae R i)))) C && (match A1 R i with | none => true | some _ => false)))) = true := by kernel_rfl) : RWP P ro n R Q (i :: rest) f w :=
 IZ (hs.ownAt (k := 5) rfl) (k _ (hs.put (k := 5) rfl _)) hx hC ho
theorem Ap5 {e0 e1 e2 e3 e4 : Option Nat × Obj} {a2 : UR} (h1 : T.One) (hs : HS w0 F0 w F (e0 :: e1 :: e2 :: e3 :: e4 :: e :: L)) (hr : Ap T E F a cap l e) (hm : Rd T F w a2 m) {r : List α} (hap : Dr l m = some r)
  (k : ∀ a' cap' e' w', HS w0 F0 w' F (e0 :: e1 :: e2 :: e3 :: e4 :: e' :: L) -> Ap T E F a' cap' r e' -> RWP P ro n R Q rest (AY f (A1 R i) (.slice a' r.length cap')) w')
  (hx : fev f (apX (Ae R i)) = .slice a l.length cap := by kernel_rfl) (hy : fev f (apY (Ae R i)) = .slice a2 m.length (sC (fev f (apY (Ae R i)))) := by kernel_rfl) (ho : (ung R i && apK P E T.sz (Ae R i)) = true := by kernel_rfl) : RWP P ro n R Q (i :: rest) f w := by
 simp only [Bool.and_eq_true] at ho
 obtain ⟨t, t2, by_, z, e1, he, hb, hni, hz, hzs⟩ := E1 ho.2
 have := A4 ho.1
 rw [e1] at this
 exact RWP.append this rfl hx hy he hb hni hz hzs h1 hs (k := 5) rfl hr hm hap k
theorem St6 {e0 e1 e2 e3 e4 e5 : Option Nat × Obj} {b : Nat} {C : Array Value} {E : TypeId} (C' : Array Value) (hs : HS w0 F0 w F (e0 :: e1 :: e2 :: e3 :: e4 :: e5 :: (some b, .cells C E (0, 0)) :: L)) (k : ∀ w', HS w0 F0 w' F (e0 :: e1 :: e2 :: e3 :: e4 :: e5 :: (some b, .cells C' E (0, 0)) :: L) -> RWP P ro n R Q rest f w')
  (hx : fev f (stX (Ae R i)) = .pointer (some ⟨b, pO (fev f (stX (Ae R i))), none⟩) := by kernel_rfl) (hC : CA C (pO (fev f (stX (Ae R i)))) (fev f (stY (Ae R i))).cells.toList = C' := by kernel_rfl)
  (ho : (ung R i && (GW (Ae R i) && (CH P (stT (Ae R i)) (fev f (stY (Ae R i))) (pO (fev f (stX (Ae R i)))) C && (match A1 R i with | none => true | some _ => false)))) = true := by kernel_rfl) : RWP P ro n R Q (i :: rest) f w :=
 IZ (hs.ownAt (k := 6) rfl) (k _ (hs.put (k := 6) rfl _)) hx hC ho
theorem Ap6 {e0 e1 e2 e3 e4 e5 : Option Nat × Obj} {a2 : UR} (h1 : T.One) (hs : HS w0 F0 w F (e0 :: e1 :: e2 :: e3 :: e4 :: e5 :: e :: L)) (hr : Ap T E F a cap l e) (hm : Rd T F w a2 m) {r : List α} (hap : Dr l m = some r)
  (k : ∀ a' cap' e' w', HS w0 F0 w' F (e0 :: e1 :: e2 :: e3 :: e4 :: e5 :: e' :: L) -> Ap T E F a' cap' r e' -> RWP P ro n R Q rest (AY f (A1 R i) (.slice a' r.length cap')) w')
  (hx : fev f (apX (Ae R i)) = .slice a l.length cap := by kernel_rfl) (hy : fev f (apY (Ae R i)) = .slice a2 m.length (sC (fev f (apY (Ae R i)))) := by kernel_rfl) (ho : (ung R i && apK P E T.sz (Ae R i)) = true := by kernel_rfl) : RWP P ro n R Q (i :: rest) f w := by
 simp only [Bool.and_eq_true] at ho
 obtain ⟨t, t2, by_, z, e1, he, hb, hni, hz, hzs⟩ := E1 ho.2
 have := A4 ho.1
 rw [e1] at this
 exact RWP.append this rfl hx hy he hb hni hz hzs h1 hs (k := 6) rfl hr hm hap k
theorem St7 {e0 e1 e2 e3 e4 e5 e6 : Option Nat × Obj} {b : Nat} {C : Array Value} {E : TypeId} (C' : Array Value) (hs : HS w0 F0 w F (e0 :: e1 :: e2 :: e3 :: e4 :: e5 :: e6 :: (some b, .cells C E (0, 0)) :: L)) (k : ∀ w', HS w0 F0 w' F (e0 :: e1 :: e2 :: e3 :: e4 :: e5 :: e6 :: (some b, .cells C' E (0, 0)) :: L) -> RWP P ro n R Q rest f w')
  (hx : fev f (stX (Ae R i)) = .pointer (some ⟨b, pO (fev f (stX (Ae R i))), none⟩) := by kernel_rfl) (hC : CA C (pO (fev f (stX (Ae R i)))) (fev f (stY (Ae R i))).cells.toList = C' := by kernel_rfl)
  (ho : (ung R i && (GW (Ae R i) && (CH P (stT (Ae R i)) (fev f (stY (Ae R i))) (pO (fev f (stX (Ae R i)))) C && (match A1 R i with | none => true | some _ => false)))) = true := by kernel_rfl) : RWP P ro n R Q (i :: rest) f w :=
 IZ (hs.ownAt (k := 7) rfl) (k _ (hs.put (k := 7) rfl _)) hx hC ho
end
section
variable {P : Program} {n : Nat} {R : Array Oper} {Q : Exit -> Fr -> World -> Prop} {PQ : List PanicEntry -> List Deferred -> World -> Prop} {Post : Fr -> World -> Prop} {z fuel : Nat} {Sw : Bool -> World -> Prop} {i : Nat} {f : Fr} {w w' w0 : World} {F0 F Fs : Mem} {l : List Bool} {L Lc Lz : List (Option Nat × Obj)} {e : Option Nat × Obj}
def rdy (R : Array Oper) (z i : Nat) (l : List Bool) : Bool := Region.free .any R l.toArray i && ((Region.ready .any R l.toArray).contains i && Ig R z i)
def dvf (P : Program) (R : Array Oper) : List Nat -> Fr -> Fr
 | [], f => f
 | i :: is, f => dvf P R is (AY f (A1 R i) ((pv P (fev f) (Ae R i)).getD undef))
def dvl : List Nat -> List Bool -> List Bool
 | [], l => l
 | i :: is, l => dvl is (l.set i true)
def RG (P : Program) (R : Array Oper) (z : Nat) : List Nat -> List Bool -> Fr -> Bool
 | [], _, _ => true
 | i :: is, l, f => ung R i && (isS (pv P (fev f) (Ae R i)) && (rdy R z i l && RG P R z is (l.set i true) (AY f (A1 R i) ((pv P (fev f) (Ae R i)).getD undef))))
theorem RV : ∀ (is : List Nat) {l : List Bool} {f : Fr} {fuel : Nat}, DWP P n R PQ Post z Sw fuel (dvl is l) (dvf P R is f) w -> RG P R z is l f = true -> DWP P n R PQ Post z Sw (fuel + is.length) l f w
 | [], _, _, _, k, _ => k
 | i :: is, l, f, fuel, k, h => by
  simp only [RG, rdy, Bool.and_eq_true] at h
  obtain ⟨h1, h2, ⟨h3, h4, h5⟩, h6⟩ := h
  exact DWP.take (A4 h1) h3 h4 h5 rfl rfl (fun _ _ => Nv (Hk h2)) rfl (RV is k h6)
theorem Dv (is : List Nat) {fu : Nat} (k : DWP P n R PQ Post z Sw (fu - is.length) (dvl is l) (dvf P R is f) w) (h : RG P R z is l f = true := by kernel_rfl) (hfu : Nat.beq fu ((fu - is.length) + is.length) = true := by kernel_rfl) : DWP P n R PQ Post z Sw fu l f w := by
 have := Nat.eq_of_beq_eq_true hfu; rw [this]
 exact RV is k h
theorem Dvl (is : List Nat) (l' : List Bool) {fu : Nat} (k : DWP P n R PQ Post z Sw (fu - is.length) l' (dvf P R is f) w) (h : RG P R z is l f = true := by kernel_rfl) (hl : dvl is l = l' := by kernel_rfl) (hfu : Nat.beq fu ((fu - is.length) + is.length) = true := by kernel_rfl) : DWP P n R PQ Post z Sw fu l f w := by
 subst hl; exact Dv is k h hfu
theorem DWP.tk {v : Value} (i : Nat) {fu : Nat} (hy : ∀ w', Sw (l.toArray.getD z true) w' -> (Ai (fev f) (Ae R i) (ES R i)).run P w' = .ok (.value v) w') (k : DWP P n R PQ Post z Sw (fu - 1) (l.set i true) (AY f (A1 R i) v) w) (ho : ung R i = true) (hr : rdy R z i l = true)
  (hfu : Nat.beq fu ((fu - 1) + 1) = true) : DWP P n R PQ Post z Sw fu l f w := by
 simp only [rdy, Bool.and_eq_true] at hr
 have := Nat.eq_of_beq_eq_true hfu; rw [this]
 exact DWP.take (A4 ho) hr.1 hr.2.1 hr.2.2 rfl rfl hy rfl k
theorem Dl (i : Nat) {fu : Nat} {b : Nat} {C : Array Value} {E : TypeId} {fz : Nat × Nat} (hp : ∀ w', Sw (l.toArray.getD z true) w' -> w'.heap[b]? = some (.cells C E fz)) (k : DWP P n R PQ Post z Sw (fu - 1) (l.set i true) (AY f (A1 R i) (ldV P (ldT (Ae R i)) C (pO (fev f (ldX (Ae R i)))))) w)
  (hx : fev f (ldX (Ae R i)) = .pointer (some ⟨b, pO (fev f (ldX (Ae R i))), none⟩) := by kernel_rfl) (ho : (ung R i && (Oy (Ae R i) && ldK P (ldT (Ae R i)) C (pO (fev f (ldX (Ae R i)))))) = true := by kernel_rfl) (hr : rdy R z i l = true := by kernel_rfl)
  (hfu : Nat.beq fu ((fu - 1) + 1) = true := by kernel_rfl) : DWP P n R PQ Post z Sw fu l f w := by
 simp only [Bool.and_eq_true] at ho
 refine DWP.tk i (fun w' hw => ?_) k ho.1 hr hfu
 have := EQ ho.2.1
 rw [this]; exact O9 hx (hp w' hw) ho.2.2
theorem Dx (i j : Nat) {fu : Nat} {b o kk : Nat} {C : Array Value} {E : TypeId} {fz : Nat × Nat} {cs : List Value} (hp : ∀ w', Sw (l.toArray.getD z true) w' -> w'.heap[b]? = some (.cells C E fz)) (hc : Ao C o kk = cs) (k : DWP P n R PQ Post z Sw (fu - 1) (l.set i true) (AY f (A1 R i) (lxV P (ldT (Ae R i)) cs j)) w)
  (hx : fev f (ldX (Ae R i)) = .pointer (some ⟨b, o + j, none⟩) := by kernel_rfl) (ho : (ung R i && (Oy (Ae R i) && lxK P (ldT (Ae R i)) cs j kk)) = true := by kernel_rfl) (hr : rdy R z i l = true := by kernel_rfl)
  (hfu : Nat.beq fu ((fu - 1) + 1) = true := by kernel_rfl) : DWP P n R PQ Post z Sw fu l f w := by
 simp only [Bool.and_eq_true] at ho
 refine DWP.tk i (fun w' hw => ?_) k ho.1 hr hfu
 have := EQ ho.2.1
 rw [this]; exact O7 hx (hp w' hw) hc ho.2.2
theorem Di (i : Nat) {fu m : Nat} {q : Int} (hi : 0 <= q /\ q < (m : Int)) (k : DWP P n R PQ Post z Sw (fu - 1) (l.set i true) (AY f (A1 R i) (.pointer (some ⟨sB (fev f (ixX (Ae R i))), sO (fev f (ixX (Ae R i))) + q.toNat * elS P (ixT (Ae R i)), none⟩))) w)
  (hx : fev f (ixX (Ae R i)) = .slice (some ⟨sB (fev f (ixX (Ae R i))), sO (fev f (ixX (Ae R i))), none⟩) m (sC (fev f (ixX (Ae R i)))) := by kernel_rfl) (hy : fev f (ixY (Ae R i)) = .int (iK (fev f (ixY (Ae R i)))) q := by kernel_rfl)
  (ho : (ung R i && (Pn (Ae R i) && slQ P (ixT (Ae R i)))) = true := by kernel_rfl) (hr : rdy R z i l = true := by kernel_rfl) (hfu : Nat.beq fu ((fu - 1) + 1) = true := by kernel_rfl) : DWP P n R PQ Post z Sw fu l f w := by
 simp only [Bool.and_eq_true] at ho
 refine DWP.tk i (fun w' hw => ?_) k ho.1 hr hfu
 have e := FX ho.2.1
 have := QS (P := P) (w := w') (ty := ES R i) hi hx hy ho.2.2
 rw [<- e] at this; exact this
theorem D1 (i : Nat) {fu : Nat} (h : Aw P n R PQ Post z Sw (fu - 1) l i f w) (hr : Region.ready .any R l.toArray = [i] := by kernel_rfl) (hfu : Nat.beq fu ((fu - 1) + 1) = true := by kernel_rfl) : DWP P n R PQ Post z Sw fu l f w := by
 have := Nat.eq_of_beq_eq_true hfu; rw [this]
 exact DWP.one hr h
theorem zdT {zd : Bool} {A : Prop} (h : zd = true) : zd = false -> A := fun e => by rw [h] at e; cases e
theorem DCl {fid : FuncId} {args : List Value} {post : Mem -> Value -> Prop} (hok : Ag P fid) (hs : HS w0 F0 w F L) (hc : Calls P fid args.toArray w (AB w F post))
  (k : ∀ v F1 w1, HS w0 F0 w1 F1 L -> Uw F F1 -> post F1 v -> DWP P n R PQ Post z (DZ Fs Lc Lz) fuel (l.set i true) (AY f (A1 R i) v) w1) (ha : clV f (Ae R i) = some (fid, args) := by kernel_rfl) (ho : ung R i = true := by kernel_rfl)
  (hz : ((l.set i true).toArray.getD z true == l.toArray.getD z true) = true := by kernel_rfl) : Aw P n R PQ Post z (DZ Fs Lc Lz) fuel l i f w := by
 cases e : Ae R i with
 | call c =>
  obtain ⟨callee, aos, ats⟩ := c
  have ho' := A4 ho
  rw [e] at ha ho'
  unfold clV at ha
  simp only at ha
  split at ha
  ·split at ha
   ·rename_i hf
    simp only [Option.some.injEq, Prod.mk.injEq] at ha
    obtain ⟨rfl, rfl⟩ := ha
    exact UI rfl (by simpa using hz) rfl ho' rfl hf hok rfl hs hc k
   ·cases ha
  ·cases ha
 | _ => rw [e] at ha; simp [clV] at ha
theorem DBs (E : TypeId) (cs : List Value) (hs : HS w0 F0 w F L) (hle : Uw Fs F) (k : ∀ b w', HS w0 F0 w' F ((some b, .cells cs.toArray E (0, 0)) :: L) -> DWP P n R PQ Post z (DZ Fs Lc Lz) fuel (l.set i true) (AY f (A1 R i) (.slice (some ⟨b, 0, none⟩) (bsL (Ae R i)) (bsL (Ae R i)))) w')
  (hb : bsV P f (Ae R i) = some (E, cs) := by kernel_rfl) (ho : ung R i = true := by kernel_rfl) (hL : ∀ p, p ∈ Lc -> p ∈ L := by simp) (hLz : (l.set i true).toArray.getD z true = false -> ∀ p, p ∈ Lz -> p ∈ L := by first | (intro _; simp; done) | exact zdT (by kernel_rfl)) : Aw P n R PQ Post z (DZ Fs Lc Lz) fuel l i f w := by
 have := A4 ho
 cases e : Ae R i with
 | buildSlice t len parts =>
  rw [e] at hb this k
  exact Aw.buildSlice rfl rfl this rfl rfl hb hs hle hL hLz k
 | _ => rw [e] at hb; simp [bsV] at hb
theorem DAl (t : TypeId) (C : Array Value) (hs : HS w0 F0 w F L) (hle : Uw Fs F) (k : ∀ b w', HS w0 F0 w' F ((some b, .cells C t (0, 0)) :: L) -> DWP P n R PQ Post z (DZ Fs Lc Lz) fuel (l.set i true) (AY f (A1 R i) (.pointer (some ⟨b, 0, none⟩))) w')
  (hC : (BF P t).map Value.cells = some C := by kernel_rfl) (ho : (ung R i && SJ t (Ae R i)) = true := by kernel_rfl) (hL : ∀ p, p ∈ Lc -> p ∈ L := by simp) (hLz : (l.set i true).toArray.getD z true = false -> ∀ p, p ∈ Lz -> p ∈ L := by first | (intro _; simp; done) | exact zdT (by kernel_rfl)) : Aw P n R PQ Post z (DZ Fs Lc Lz) fuel l i f w := by
 simp only [Bool.and_eq_true] at ho
 cases hz : BF P t with
 | none => rw [hz] at hC; cases hC
 | some z =>
  rw [hz] at hC; simp only [Option.map_some, Option.some.injEq] at hC
  have e := M5 ho.2
  have := A4 ho.1
  rw [e] at this
  exact Aw.alloc rfl rfl this rfl hz hC hs hle hL hLz k
theorem DBx (t : TypeId) (C : Array Value) (hs : HS w0 F0 w F L) (hle : Uw Fs F) (k : ∀ b w', HS w0 F0 w' F ((some b, .cells C t (0, 0)) :: L) -> DWP P n R PQ Post z (DZ Fs Lc Lz) fuel (l.set i true) (AY f (A1 R i) (.pointer (some ⟨b, 0, none⟩))) w')
  (hC : (fev f (bxX (Ae R i))).cells = C := by kernel_rfl) (ho : (ung R i && SI t (Ae R i)) = true := by kernel_rfl) (hL : ∀ p, p ∈ Lc -> p ∈ L := by simp) (hLz : (l.set i true).toArray.getD z true = false -> ∀ p, p ∈ Lz -> p ∈ L := by first | (intro _; simp; done) | exact zdT (by kernel_rfl)) : Aw P n R PQ Post z (DZ Fs Lc Lz) fuel l i f w := by
 simp only [Bool.and_eq_true] at ho
 have e := M4 ho.2
 have := A4 ho.1
 rw [e] at this
 exact Aw.box rfl rfl this rfl rfl hC hs hle hL hLz k
theorem DCB {fid : FuncId} {args : List Value} {wb : World} {Fb : Mem} {post : Mem -> Value -> Own -> Prop} (hok : Ag P fid) (hc : Calls P fid args.toArray w (Ed wb Fb F post))
  (k : ∀ v F1 w1 L', HS wb Fb w1 F1 L' -> Uw F F1 -> post F1 v L' -> DZ Fs Lc Lz ((l.set i true).toArray.getD z true) w1 /\ DWP P n R PQ Post z (DZ Fs Lc Lz) fuel (l.set i true) (AY f (A1 R i) v) w1) (ha : clV f (Ae R i) = some (fid, args) := by kernel_rfl) (ho : ung R i = true := by kernel_rfl) : Aw P n R PQ Post z (DZ Fs Lc Lz) fuel l i f w := by
 cases e : Ae R i with
 | call c =>
  obtain ⟨callee, aos, ats⟩ := c
  have ho' := A4 ho
  rw [e] at ha ho'
  unfold clV at ha
  simp only at ha
  split at ha
  ·split at ha
   ·rename_i hf
    simp only [Option.some.injEq, Prod.mk.injEq] at ha
    obtain ⟨rfl, rfl⟩ := ha
    exact Aw.callB rfl rfl ho' rfl hf hok rfl hc k
   ·cases ha
  ·cases ha
 | _ => rw [e] at ha; simp [clV] at ha
def fls : Nat -> List Bool
 | 0 => []
 | n + 1 => false :: fls n
variable {c : Code}
def Su (R : Array Oper) : Bool := R.all fun o => !Ll o.op
def S9 (P : Program) (n m : Nat) (c : Code) : Bool := Nat.beq (kin c) 2 && (okR n (Kg c) && (Region.noSelect (Kg c) && (Su (Kg c) && Nat.beq (Kg c).size m)))
theorem Tx : ∀ n, Array.replicate n false = (fls n).toArray := fun n => by
 have : List.replicate n false = fls n := by induction n with
  | zero => rfl
  | succ n ih => rw [List.replicate_succ, ih]; rfl
 rw [<- this]; simp
theorem Sn {R : Array Oper} (hd : Su R = true) (ro : Option Nat) {Q : Exit -> Act -> World -> Prop} {i : Nat} {K K' : Act -> World -> Prop} (hK : ∀ a w, K a w -> K' a w) {a : Act} {w : World} (h : wpOpIn (FW none) 0 P R Q i K a w) : wpOpIn (FW ro) 0 P R Q i K' a w := by
 have h := wpOpIn_mono hK h
 unfold wpOpIn at h ⊢
 cases ho : R[i]? with
 | none => simp only [ho] at h ⊢; exact h
 | some o =>
  simp only [ho] at h ⊢
  split
  ·rename_i hw
   simp only [hw, if_true] at h
   have hi : i < R.size := by
    rcases Nat.lt_or_ge i R.size with h' | h'
    ·exact h'
    ·simp [Array.getElem?_eq_none h'] at ho
   have hnd : Ll o.op = false := by
    unfold Su at hd
    rw [Array.all_eq_true] at hd
    have := hd i hi
    have e : R[i] = o := by simpa [Array.getElem?_eq_getElem hi] using ho
    rw [e] at this; simpa using this
   unfold Oper.wpIn at h ⊢
   refine ⟨fun _ _ => trivial, ?_⟩
   have e : ∀ r, Oper.semAt r a.eval o = execOp a.eval o := fun r => G5 hnd r a.eval o rfl
   have h2 := h.2
   rw [e] at h2 ⊢
   exact h2
  ·rename_i hw
   simp only [hw, if_false] at h
   exact ⟨fun _ _ => trivial, h.2⟩
theorem RM {R : Array Oper} (hd : Su R = true) (ro : Option Nat) {Q : Exit -> Act -> World -> Prop} : ∀ (fuel : Nat) (l : Array Bool) (a : Act) (w : World), wpAnyIn (FW none) 0 P .any R Q fuel l a w -> wpAnyIn (FW ro) 0 P .any R Q fuel l a w
 | 0, _, _, _, h => h
 | fuel + 1, _, _, _, h => ⟨h.1, fun i hi => Sn hd ro (fun a w => RM hd ro fuel _ a w) (h.2 i hi)⟩
variable {ro : Option Nat}
theorem RDP (z m : Nat) (Lc Lz : List (Option Nat × Obj)) (hs : HS w0 F0 w F L) (PQ : List PanicEntry -> List Deferred -> World -> Prop) (Post : Fr -> World -> Prop)
  (h : ∀ w', HS w0 F0 w' F L -> DWP P n (Kg c) PQ Post z (DZ F Lc Lz) m (fls m) f w') (k : ∀ f w, Post f w -> Q .normal f w) (kp : ∀ c f w, PQ c f.d w -> Q (.panic c) f w) (hm : P.follows .mixedOrders = true := by kernel_rfl) (ho : S9 P n m c = true := by kernel_rfl) (hc : ∀ p, p ∈ Lc -> p ∈ L := by simp) (hz : ∀ p, p ∈ Lz -> p ∈ L := by simp) : CWP P ro n c Q f w := by
 simp only [S9, Bool.and_eq_true] at ho
 obtain ⟨hk, hok, hns, hnd, hfu⟩ := ho
 replace hk := Nat.eq_of_beq_eq_true hk
 replace hfu := Nat.eq_of_beq_eq_true hfu
 subst hfu
 cases c <;> simp [kin] at hk
 rename_i id ops d
 cases d <;> simp [kin] at hk
 intro a ha
 have hs' : HS w0 F0 { w with drawn := w.drawn + 1 } F L := hs.heap rfl
 refine wpIn_mono (wpIn_region_any hm (RM hnd ro _ _ _ _ (Lr (z := z) (S := DZ F Lc Lz) _ _ _ _ ?_))) (Q := lq n (nq PQ Post)) ?_
 ·simp only [Kg] at *
  rw [Tx]
  exact h _ hs' hok hns (Ba hs' (Ux F) hc fun _ => hz) a ha
 ·rintro e a w ⟨f, hf, hP⟩
  cases e with
  | normal => exact ⟨f, hf, k _ _ hP⟩
  | panic c => exact ⟨f, hf, kp _ _ _ hP⟩
  | _ => exact hP.elim
theorem RD (z m : Nat) (Lc Lz : List (Option Nat × Obj)) (hs : HS w0 F0 w F L) (Post : Fr -> World -> Prop)
  (h : ∀ w', HS w0 F0 w' F L -> DWP P n (Kg c) (fun _ _ _ => False) Post z (DZ F Lc Lz) m (fls m) f w') (k : ∀ f w, Post f w -> Q .normal f w) (hm : P.follows .mixedOrders = true := by kernel_rfl) (ho : S9 P n m c = true := by kernel_rfl) (hc : ∀ p, p ∈ Lc -> p ∈ L := by simp) (hz : ∀ p, p ∈ Lz -> p ∈ L := by simp) : CWP P ro n c Q f w :=
 RDP z m Lc Lz hs (fun _ _ _ => False) Post h k (fun _ _ _ h => h.elim) hm ho hc hz
variable {α : Type} {T : Ty α} {E : TypeId} {a : UR} {cap : Nat} {ls m : List α}
theorem FG {b : Nat} {C : Array Value} {E : TypeId} (C' : Array Value) (hs : HS w0 F0 w F ((some b, .cells C E (0, 0)) :: L)) (hle : Uw Fs F) (k : ∀ w', HS w0 F0 w' F ((some b, .cells C' E (0, 0)) :: L) -> DWP P n R PQ Post z (DZ Fs Lc Lz) fuel (l.set i true) f w')
  (hx : fev f (stX (Ae R i)) = .pointer (some ⟨b, pO (fev f (stX (Ae R i))), none⟩) := by kernel_rfl) (hC : CA C (pO (fev f (stX (Ae R i)))) (fev f (stY (Ae R i))).cells.toList = C' := by kernel_rfl)
  (ho : (ung R i && (GW (Ae R i) && (CH P (stT (Ae R i)) (fev f (stY (Ae R i))) (pO (fev f (stX (Ae R i)))) C && (match A1 R i with | none => true | some _ => false)))) = true := by kernel_rfl)
  (hL : ∀ p, p ∈ Lc -> p ∈ (some b, .cells C' E (0, 0)) :: L := by simp) (hLz : (l.set i true).toArray.getD z true = false -> ∀ p, p ∈ Lz -> p ∈ (some b, .cells C' E (0, 0)) :: L := by first | (intro _; simp; done) | exact zdT (by kernel_rfl)) : Aw P n R PQ Post z (DZ Fs Lc Lz) fuel l i f w := by
 simp only [Bool.and_eq_true] at ho
 obtain ⟨h1, h2, h3, h4⟩ := ho
 have e := Dd h2
 have := A4 h1
 cases hd : A1 R i with
 | some d => rw [hd] at h4; cases h4
 | none =>
  rw [hd] at this
  have hp := hs.put (k := 0) rfl (.cells C' E (0, 0))
  refine UH rfl rfl this rfl ?_ (Ba hp hle hL hLz) (k _ hp)
  have hr := Gk (P := P) (ty := ES R i) (w := w) hx (hs.ownAt (k := 0) rfl) h3 hC
  rw [<- e] at hr; exact hr
theorem K9 {e0 : Option Nat × Obj} {b : Nat} {C : Array Value} {E : TypeId} (C' : Array Value) (hs : HS w0 F0 w F (e0 :: (some b, .cells C E (0, 0)) :: L)) (hle : Uw Fs F) (k : ∀ w', HS w0 F0 w' F (e0 :: (some b, .cells C' E (0, 0)) :: L) -> DWP P n R PQ Post z (DZ Fs Lc Lz) fuel (l.set i true) f w')
  (hx : fev f (stX (Ae R i)) = .pointer (some ⟨b, pO (fev f (stX (Ae R i))), none⟩) := by kernel_rfl) (hC : CA C (pO (fev f (stX (Ae R i)))) (fev f (stY (Ae R i))).cells.toList = C' := by kernel_rfl)
  (ho : (ung R i && (GW (Ae R i) && (CH P (stT (Ae R i)) (fev f (stY (Ae R i))) (pO (fev f (stX (Ae R i)))) C && (match A1 R i with | none => true | some _ => false)))) = true := by kernel_rfl)
  (hL : ∀ p, p ∈ Lc -> p ∈ e0 :: (some b, .cells C' E (0, 0)) :: L := by simp) (hLz : (l.set i true).toArray.getD z true = false -> ∀ p, p ∈ Lz -> p ∈ e0 :: (some b, .cells C' E (0, 0)) :: L := by first | (intro _; simp; done) | exact zdT (by kernel_rfl)) : Aw P n R PQ Post z (DZ Fs Lc Lz) fuel l i f w := by
 simp only [Bool.and_eq_true] at ho
 obtain ⟨h1, h2, h3, h4⟩ := ho
 have e := Dd h2
 have := A4 h1
 cases hd : A1 R i with
 | some d => rw [hd] at h4; cases h4
 | none =>
  rw [hd] at this
  have hp := hs.put (k := 1) rfl (.cells C' E (0, 0))
  refine UH rfl rfl this rfl ?_ (Ba hp hle hL hLz) (k _ hp)
  have hr := Gk (P := P) (ty := ES R i) (w := w) hx (hs.ownAt (k := 1) rfl) h3 hC
  rw [<- e] at hr; exact hr
theorem Ur {e0 : Option Nat × Obj} {a2 : UR} (h1 : T.One) (hs : HS w0 F0 w F (e0 :: e :: L)) (hr : Ap T E F a cap ls e) (hm : Rd T F w a2 m) {r : List α} (hap : Dr ls m = some r) (hle : Uw Fs F)
  (k : ∀ a' cap' e' w', HS w0 F0 w' F (e0 :: e' :: L) -> Ap T E F a' cap' r e' -> DWP P n R PQ Post z (DZ Fs Lc Lz) fuel (l.set i true) (AY f (A1 R i) (.slice a' r.length cap')) w')
  (hx : fev f (apX (Ae R i)) = .slice a ls.length cap := by kernel_rfl) (hy : fev f (apY (Ae R i)) = .slice a2 m.length (sC (fev f (apY (Ae R i)))) := by kernel_rfl) (ho : (ung R i && apK P E T.sz (Ae R i)) = true := by kernel_rfl)
  (hL : ∀ e' p, p ∈ Lc -> p ∈ e0 :: e' :: L := by (intro _; simp)) (hLz : (l.set i true).toArray.getD z true = false -> ∀ e' p, p ∈ Lz -> p ∈ e0 :: e' :: L := by first | (intro _ _; simp; done) | exact zdT (by kernel_rfl)) : Aw P n R PQ Post z (DZ Fs Lc Lz) fuel l i f w := by
 simp only [Bool.and_eq_true] at ho
 obtain ⟨t, t2, by_, zz, e1, he, hb, hni, hz, hzs⟩ := E1 ho.2
 have := A4 ho.1
 rw [e1] at this
 exact Aw.append rfl rfl this rfl hx hy he hb hni hz hzs h1 hs (k := 1) rfl hr hm hap hle hL hLz k
theorem MR {e0 e1 : Option Nat × Obj} {b : Nat} {C : Array Value} {E : TypeId} (C' : Array Value) (hs : HS w0 F0 w F (e0 :: e1 :: (some b, .cells C E (0, 0)) :: L)) (hle : Uw Fs F) (k : ∀ w', HS w0 F0 w' F (e0 :: e1 :: (some b, .cells C' E (0, 0)) :: L) -> DWP P n R PQ Post z (DZ Fs Lc Lz) fuel (l.set i true) f w')
  (hx : fev f (stX (Ae R i)) = .pointer (some ⟨b, pO (fev f (stX (Ae R i))), none⟩) := by kernel_rfl) (hC : CA C (pO (fev f (stX (Ae R i)))) (fev f (stY (Ae R i))).cells.toList = C' := by kernel_rfl)
  (ho : (ung R i && (GW (Ae R i) && (CH P (stT (Ae R i)) (fev f (stY (Ae R i))) (pO (fev f (stX (Ae R i)))) C && (match A1 R i with | none => true | some _ => false)))) = true := by kernel_rfl)
  (hL : ∀ p, p ∈ Lc -> p ∈ e0 :: e1 :: (some b, .cells C' E (0, 0)) :: L := by simp) (hLz : (l.set i true).toArray.getD z true = false -> ∀ p, p ∈ Lz -> p ∈ e0 :: e1 :: (some b, .cells C' E (0, 0)) :: L := by first | (intro _; simp; done) | exact zdT (by kernel_rfl)) : Aw P n R PQ Post z (DZ Fs Lc Lz) fuel l i f w := by
 simp only [Bool.and_eq_true] at ho
 obtain ⟨h1, h2, h3, h4⟩ := ho
 have e := Dd h2
 have := A4 h1
 cases hd : A1 R i with
 | some d => rw [hd] at h4; cases h4
 | none =>
  rw [hd] at this
  have hp := hs.put (k := 2) rfl (.cells C' E (0, 0))
  refine UH rfl rfl this rfl ?_ (Ba hp hle hL hLz) (k _ hp)
  have hr := Gk (P := P) (ty := ES R i) (w := w) hx (hs.ownAt (k := 2) rfl) h3 hC
  rw [<- e] at hr; exact hr
theorem SS {e0 e1 e2 : Option Nat × Obj} {b : Nat} {C : Array Value} {E : TypeId} (C' : Array Value) (hs : HS w0 F0 w F (e0 :: e1 :: e2 :: (some b, .cells C E (0, 0)) :: L)) (hle : Uw Fs F) (k : ∀ w', HS w0 F0 w' F (e0 :: e1 :: e2 :: (some b, .cells C' E (0, 0)) :: L) -> DWP P n R PQ Post z (DZ Fs Lc Lz) fuel (l.set i true) f w')
  (hx : fev f (stX (Ae R i)) = .pointer (some ⟨b, pO (fev f (stX (Ae R i))), none⟩) := by kernel_rfl) (hC : CA C (pO (fev f (stX (Ae R i)))) (fev f (stY (Ae R i))).cells.toList = C' := by kernel_rfl)
  (ho : (ung R i && (GW (Ae R i) && (CH P (stT (Ae R i)) (fev f (stY (Ae R i))) (pO (fev f (stX (Ae R i)))) C && (match A1 R i with | none => true | some _ => false)))) = true := by kernel_rfl)
  (hL : ∀ p, p ∈ Lc -> p ∈ e0 :: e1 :: e2 :: (some b, .cells C' E (0, 0)) :: L := by simp) (hLz : (l.set i true).toArray.getD z true = false -> ∀ p, p ∈ Lz -> p ∈ e0 :: e1 :: e2 :: (some b, .cells C' E (0, 0)) :: L := by first | (intro _; simp; done) | exact zdT (by kernel_rfl)) : Aw P n R PQ Post z (DZ Fs Lc Lz) fuel l i f w := by
 simp only [Bool.and_eq_true] at ho
 obtain ⟨h1, h2, h3, h4⟩ := ho
 have e := Dd h2
 have := A4 h1
 cases hd : A1 R i with
 | some d => rw [hd] at h4; cases h4
 | none =>
  rw [hd] at this
  have hp := hs.put (k := 3) rfl (.cells C' E (0, 0))
  refine UH rfl rfl this rfl ?_ (Ba hp hle hL hLz) (k _ hp)
  have hr := Gk (P := P) (ty := ES R i) (w := w) hx (hs.ownAt (k := 3) rfl) h3 hC
  rw [<- e] at hr; exact hr
theorem Uq {e0 e1 e2 : Option Nat × Obj} {a2 : UR} (h1 : T.One) (hs : HS w0 F0 w F (e0 :: e1 :: e2 :: e :: L)) (hr : Ap T E F a cap ls e) (hm : Rd T F w a2 m) {r : List α} (hap : Dr ls m = some r) (hle : Uw Fs F)
  (k : ∀ a' cap' e' w', HS w0 F0 w' F (e0 :: e1 :: e2 :: e' :: L) -> Ap T E F a' cap' r e' -> DWP P n R PQ Post z (DZ Fs Lc Lz) fuel (l.set i true) (AY f (A1 R i) (.slice a' r.length cap')) w')
  (hx : fev f (apX (Ae R i)) = .slice a ls.length cap := by kernel_rfl) (hy : fev f (apY (Ae R i)) = .slice a2 m.length (sC (fev f (apY (Ae R i)))) := by kernel_rfl) (ho : (ung R i && apK P E T.sz (Ae R i)) = true := by kernel_rfl)
  (hL : ∀ e' p, p ∈ Lc -> p ∈ e0 :: e1 :: e2 :: e' :: L := by (intro _; simp)) (hLz : (l.set i true).toArray.getD z true = false -> ∀ e' p, p ∈ Lz -> p ∈ e0 :: e1 :: e2 :: e' :: L := by first | (intro _ _; simp; done) | exact zdT (by kernel_rfl)) : Aw P n R PQ Post z (DZ Fs Lc Lz) fuel l i f w := by
 simp only [Bool.and_eq_true] at ho
 obtain ⟨t, t2, by_, zz, e1, he, hb, hni, hz, hzs⟩ := E1 ho.2
 have := A4 ho.1
 rw [e1] at this
 exact Aw.append rfl rfl this rfl hx hy he hb hni hz hzs h1 hs (k := 3) rfl hr hm hap hle hL hLz k
theorem Ud {e0 e1 e2 e3 : Option Nat × Obj} {b : Nat} {C : Array Value} {E : TypeId} (C' : Array Value) (hs : HS w0 F0 w F (e0 :: e1 :: e2 :: e3 :: (some b, .cells C E (0, 0)) :: L)) (hle : Uw Fs F) (k : ∀ w', HS w0 F0 w' F (e0 :: e1 :: e2 :: e3 :: (some b, .cells C' E (0, 0)) :: L) -> DWP P n R PQ Post z (DZ Fs Lc Lz) fuel (l.set i true) f w')
  (hx : fev f (stX (Ae R i)) = .pointer (some ⟨b, pO (fev f (stX (Ae R i))), none⟩) := by kernel_rfl) (hC : CA C (pO (fev f (stX (Ae R i)))) (fev f (stY (Ae R i))).cells.toList = C' := by kernel_rfl)
  (ho : (ung R i && (GW (Ae R i) && (CH P (stT (Ae R i)) (fev f (stY (Ae R i))) (pO (fev f (stX (Ae R i)))) C && (match A1 R i with | none => true | some _ => false)))) = true := by kernel_rfl)
  (hL : ∀ p, p ∈ Lc -> p ∈ e0 :: e1 :: e2 :: e3 :: (some b, .cells C' E (0, 0)) :: L := by simp) (hLz : (l.set i true).toArray.getD z true = false -> ∀ p, p ∈ Lz -> p ∈ e0 :: e1 :: e2 :: e3 :: (some b, .cells C' E (0, 0)) :: L := by first | (intro _; simp; done) | exact zdT (by kernel_rfl)) : Aw P n R PQ Post z (DZ Fs Lc Lz) fuel l i f w := by
 simp only [Bool.and_eq_true] at ho
 obtain ⟨h1, h2, h3, h4⟩ := ho
 have e := Dd h2
 have := A4 h1
 cases hd : A1 R i with
 | some d => rw [hd] at h4; cases h4
 | none =>
  rw [hd] at this
  have hp := hs.put (k := 4) rfl (.cells C' E (0, 0))
  refine UH rfl rfl this rfl ?_ (Ba hp hle hL hLz) (k _ hp)
  have hr := Gk (P := P) (ty := ES R i) (w := w) hx (hs.ownAt (k := 4) rfl) h3 hC
  rw [<- e] at hr; exact hr
theorem QH {e0 e1 e2 e3 e4 : Option Nat × Obj} {b : Nat} {C : Array Value} {E : TypeId} (C' : Array Value) (hs : HS w0 F0 w F (e0 :: e1 :: e2 :: e3 :: e4 :: (some b, .cells C E (0, 0)) :: L)) (hle : Uw Fs F) (k : ∀ w', HS w0 F0 w' F (e0 :: e1 :: e2 :: e3 :: e4 :: (some b, .cells C' E (0, 0)) :: L) -> DWP P n R PQ Post z (DZ Fs Lc Lz) fuel (l.set i true) f w')
  (hx : fev f (stX (Ae R i)) = .pointer (some ⟨b, pO (fev f (stX (Ae R i))), none⟩) := by kernel_rfl) (hC : CA C (pO (fev f (stX (Ae R i)))) (fev f (stY (Ae R i))).cells.toList = C' := by kernel_rfl)
  (ho : (ung R i && (GW (Ae R i) && (CH P (stT (Ae R i)) (fev f (stY (Ae R i))) (pO (fev f (stX (Ae R i)))) C && (match A1 R i with | none => true | some _ => false)))) = true := by kernel_rfl)
  (hL : ∀ p, p ∈ Lc -> p ∈ e0 :: e1 :: e2 :: e3 :: e4 :: (some b, .cells C' E (0, 0)) :: L := by simp) (hLz : (l.set i true).toArray.getD z true = false -> ∀ p, p ∈ Lz -> p ∈ e0 :: e1 :: e2 :: e3 :: e4 :: (some b, .cells C' E (0, 0)) :: L := by first | (intro _; simp; done) | exact zdT (by kernel_rfl)) : Aw P n R PQ Post z (DZ Fs Lc Lz) fuel l i f w := by
 simp only [Bool.and_eq_true] at ho
 obtain ⟨h1, h2, h3, h4⟩ := ho
 have e := Dd h2
 have := A4 h1
 cases hd : A1 R i with
 | some d => rw [hd] at h4; cases h4
 | none =>
  rw [hd] at this
  have hp := hs.put (k := 5) rfl (.cells C' E (0, 0))
  refine UH rfl rfl this rfl ?_ (Ba hp hle hL hLz) (k _ hp)
  have hr := Gk (P := P) (ty := ES R i) (w := w) hx (hs.ownAt (k := 5) rfl) h3 hC
  rw [<- e] at hr; exact hr
theorem SR {e0 e1 e2 e3 e4 e5 : Option Nat × Obj} {b : Nat} {C : Array Value} {E : TypeId} (C' : Array Value) (hs : HS w0 F0 w F (e0 :: e1 :: e2 :: e3 :: e4 :: e5 :: (some b, .cells C E (0, 0)) :: L)) (hle : Uw Fs F) (k : ∀ w', HS w0 F0 w' F (e0 :: e1 :: e2 :: e3 :: e4 :: e5 :: (some b, .cells C' E (0, 0)) :: L) -> DWP P n R PQ Post z (DZ Fs Lc Lz) fuel (l.set i true) f w')
  (hx : fev f (stX (Ae R i)) = .pointer (some ⟨b, pO (fev f (stX (Ae R i))), none⟩) := by kernel_rfl) (hC : CA C (pO (fev f (stX (Ae R i)))) (fev f (stY (Ae R i))).cells.toList = C' := by kernel_rfl)
  (ho : (ung R i && (GW (Ae R i) && (CH P (stT (Ae R i)) (fev f (stY (Ae R i))) (pO (fev f (stX (Ae R i)))) C && (match A1 R i with | none => true | some _ => false)))) = true := by kernel_rfl)
  (hL : ∀ p, p ∈ Lc -> p ∈ e0 :: e1 :: e2 :: e3 :: e4 :: e5 :: (some b, .cells C' E (0, 0)) :: L := by simp) (hLz : (l.set i true).toArray.getD z true = false -> ∀ p, p ∈ Lz -> p ∈ e0 :: e1 :: e2 :: e3 :: e4 :: e5 :: (some b, .cells C' E (0, 0)) :: L := by first | (intro _; simp; done) | exact zdT (by kernel_rfl)) : Aw P n R PQ Post z (DZ Fs Lc Lz) fuel l i f w := by
 simp only [Bool.and_eq_true] at ho
 obtain ⟨h1, h2, h3, h4⟩ := ho
 have e := Dd h2
 have := A4 h1
 cases hd : A1 R i with
 | some d => rw [hd] at h4; cases h4
 | none =>
  rw [hd] at this
  have hp := hs.put (k := 6) rfl (.cells C' E (0, 0))
  refine UH rfl rfl this rfl ?_ (Ba hp hle hL hLz) (k _ hp)
  have hr := Gk (P := P) (ty := ES R i) (w := w) hx (hs.ownAt (k := 6) rfl) h3 hC
  rw [<- e] at hr; exact hr
theorem Up {e0 e1 e2 e3 e4 e5 e6 : Option Nat × Obj} {b : Nat} {C : Array Value} {E : TypeId} (C' : Array Value) (hs : HS w0 F0 w F (e0 :: e1 :: e2 :: e3 :: e4 :: e5 :: e6 :: (some b, .cells C E (0, 0)) :: L)) (hle : Uw Fs F) (k : ∀ w', HS w0 F0 w' F (e0 :: e1 :: e2 :: e3 :: e4 :: e5 :: e6 :: (some b, .cells C' E (0, 0)) :: L) -> DWP P n R PQ Post z (DZ Fs Lc Lz) fuel (l.set i true) f w')
  (hx : fev f (stX (Ae R i)) = .pointer (some ⟨b, pO (fev f (stX (Ae R i))), none⟩) := by kernel_rfl) (hC : CA C (pO (fev f (stX (Ae R i)))) (fev f (stY (Ae R i))).cells.toList = C' := by kernel_rfl)
  (ho : (ung R i && (GW (Ae R i) && (CH P (stT (Ae R i)) (fev f (stY (Ae R i))) (pO (fev f (stX (Ae R i)))) C && (match A1 R i with | none => true | some _ => false)))) = true := by kernel_rfl)
  (hL : ∀ p, p ∈ Lc -> p ∈ e0 :: e1 :: e2 :: e3 :: e4 :: e5 :: e6 :: (some b, .cells C' E (0, 0)) :: L := by simp) (hLz : (l.set i true).toArray.getD z true = false -> ∀ p, p ∈ Lz -> p ∈ e0 :: e1 :: e2 :: e3 :: e4 :: e5 :: e6 :: (some b, .cells C' E (0, 0)) :: L := by first | (intro _; simp; done) | exact zdT (by kernel_rfl)) : Aw P n R PQ Post z (DZ Fs Lc Lz) fuel l i f w := by
 simp only [Bool.and_eq_true] at ho
 obtain ⟨h1, h2, h3, h4⟩ := ho
 have e := Dd h2
 have := A4 h1
 cases hd : A1 R i with
 | some d => rw [hd] at h4; cases h4
 | none =>
  rw [hd] at this
  have hp := hs.put (k := 7) rfl (.cells C' E (0, 0))
  refine UH rfl rfl this rfl ?_ (Ba hp hle hL hLz) (k _ hp)
  have hr := Gk (P := P) (ty := ES R i) (w := w) hx (hs.ownAt (k := 7) rfl) h3 hC
  rw [<- e] at hr; exact hr
end
theorem YP.mono {P : Program} {l : Nat} {args : List Value} {w : World} {S S' : Ending -> World -> Prop} (h : YP P l args w S) (hi : ∀ e w', S e w' -> S' e w') : YP P l args w S' :=
 let ⟨fn, t, a, b, h1, h2⟩ := h; ⟨fn, t, a, b, h1, h2.mono hi⟩
section
variable {P : Program} {w : World} {ρ : Operand -> Value} {ty : TypeId}
def RJ (P : Program) (t : TypeId) (parts : List (Nat × Value)) : Option (List Value) :=
 match P.underlying t, BF P t with
 | some (.array _ e), some z => match P.info? e with
  | some i => match Instr.fill (fun k => some (k * i.size, i.size)) z.cells parts with
   | some cs => some cs.toList
   | none => none
  | none => none
 | _, _ => none
theorem IC {t : TypeId} {parts : Array (Nat × Operand)} {vs : List (Nat × Value)} {cs : List Value} (hv : parts.toList.map (fun p => (p.1, ρ p.2)) = vs) (hb : RJ P t vs = some cs) :
  (Ai ρ (.build t parts) ty).run P w = .ok (.value (.agg cs.toArray)) w := by
 subst hv
 unfold RJ at hb
 split at hb
 ·rename_i n e z hu hz
  split at hb
  ·rename_i i hi
   split at hb
   ·rename_i cs' hfill
    simp only [Option.some.injEq] at hb
    subst hb
    have e1 : Ai ρ (.build t parts) ty = (do pure (Next.value (<- Instr.build t (parts.map fun (i, x) => (i, ρ x))))) := rfl
    have hzv : (zeroValue t).run P w = .ok z w := by
     unfold BF at hz
     split at hz
     ·rename_i i hi; simp [zeroValue, typeInfo, hi, hz]
     ·cases hz
    rw [e1]
    simp only [Instr.build, Sem.run_bind, hzv, Result.andThen_ok, run_underlying hu, Dw hi]
    have hl : (parts.map fun (i, x) => (i, ρ x)).toList = parts.toList.map (fun p => (p.1, ρ p.2)) := by simp
    rw [hl, hfill]
    simp
   ·cases hb
  ·cases hb
 ·cases hb
theorem PH {t E : TypeId} {len : Nat} {x y : Operand} {k : IntKind} {i : Int} {cs : List Value} {v : Value} (hx : ρ x = .agg cs.toArray) (hy : ρ y = .int k i) (hu : P.underlying t = some (.array len E)) (ht : D6 P E = some (false, 1)) (hlen : cs.length = len) (hv : idx cs i = some v) :
  (Ai ρ (.index t x y) ty).run P w = .ok (.value v) w := by
 obtain ⟨⟨h0, h1⟩, h2⟩ := As hv
 have hc : Ao cs.toArray (i.toNat * 1) 1 = [v] := by
  rw [Nat.mul_one]
  exact HD.2 (by simpa using h2)
 have hp := FJ (P := P) (t := E) (C := cs.toArray) (o := i.toNat * 1) ht (by rw [hc]; rfl) (.inr rfl) w
 rw [hc] at hp
 simp only [Ai, execOp, hx, hy, Instr.index, asIntOf, Sem.run_bind, Sem.run_pure, Result.andThen_ok, run_underlying hu, Co ht]
 rw [if_pos (show 0 <= i /\ i < (len : Int) by omega)]
 simp only [Sem.run_bind, Co ht, Result.andThen_ok]
 rw [hp]
 rfl
theorem Oz {α : Type} {f : α -> Value} {l : List α} {i : Int} {x : α} (h : idx l i = some x) : idx (l.map f) i = some (f x) := by
 obtain ⟨⟨h0, h1⟩, h2⟩ := As h
 unfold idx
 rw [if_pos h0, List.getElem?_map, h2]; rfl
def toB (l : List Int) : UQ := l.map fun n => UInt8.ofNat n.toNat
theorem L4 : ∀ (ns : List Int) (A : Array UInt8), ns.foldl (fun r n => ByteArray.push r (UInt8.ofNat n.toNat)) ⟨A⟩ = ⟨A ++ (toB ns).toArray⟩
 | [], A => by simp [toB]
 | n :: ns, A => by
  rw [List.foldl_cons]
  have : ByteArray.push ⟨A⟩ (UInt8.ofNat n.toNat) = ⟨A.push (UInt8.ofNat n.toNat)⟩ := rfl
  rw [this, L4 ns]
  simp [toB]
theorem Se {w0 : World} {F0 F : Mem} {L : Own} {s d E : TypeId} {x : Operand} {a : UR} {cap q : Nat} {l : List Int} {e : Option Nat × Obj} (hx : ρ x = .slice a l.length cap) (hs : P.underlying s = some (.slice E)) (hE : P.underlying E = some (.int .u8)) (hd : P.underlying d = some .string)
  (hh : HS w0 F0 w F L) (hq : L[q]? = some e) (hr : Ap tU8 E F a cap l e) : (Ai ρ (.convert s d x) ty).run P w = .ok (.value (.string ⟨(toB l).toArray⟩)) w := by
 have e1 : Ai ρ (.convert s d x) ty = (do pure (Next.value (<- convert s d (ρ x)))) := rfl
 rw [e1, hx, Sem.run_bind, run_convert_bytes_string w s d E a l.length cap hs hE hd]
 rcases hr.2 with ⟨rfl, rfl, rfl, _⟩ | ⟨b, C, rfl, rfl, hc, hsz, hR⟩
 ·rfl
 ·have hb := hh.ownAt hq
  have hl := run_loadCells_list (P := P) (w := w) ⟨b, 0, none⟩ (l.map (Value.int .u8)) (fun j v hj => by
   rw [List.getElem?_map] at hj
   cases hlj : l[j]? with
   | none => rw [hlj] at hj; cases hj
   | some n =>
    rw [hlj] at hj
    cases hj
    have h1 : Ao C (j * 1) 1 = [.int .u8 n] := hR j n hlj
    rw [Nat.mul_one] at h1
    have h2 := HD.1 h1
    rw [Addr.add_lit]
    simp [World.cell?, hb, h2])
  rw [List.length_map] at hl
  have h2 := run_bytesToString (P := P) w ⟨b, 0, none⟩ l.length cap l (by rw [hl])
  rw [h2, show ByteArray.empty = ⟨#[]⟩ from rfl, L4]
  simp [Result.andThen]
end
section
variable {P : Program} {n : Nat} {R : Array Oper} {f : Fr} {w : World} {PQ : List PanicEntry -> List Deferred -> World -> Prop} {Post : Fr -> World -> Prop} {z : Nat} {fuel : Nat} {l l' : List Bool} {zd : Bool} {i : Nat} {dst : Option Nat} {ty : TypeId} {g : Option (Nat × Bool)}
theorem Aw.callO {w0 : World} {F0 F Fs : Mem} {L Lc Lz : List (Option Nat × Obj)} {f0 : Operand} {aos : Array Operand} {ats : Array TypeId} {fid : FuncId} {first cap : Array Value} {args : List Value} {post : Mem -> Value -> Own -> Prop}
  (hl : l.set i true = l') (hzd : l'.toArray.getD z true = zd) (hzd0 : l.toArray.getD z true = zd)
  (ho : opq R i = some (dst, .call { callee := .value f0, args := aos, argTypes := ats }, ty, g)) (hg : gd R f g = true) (hf : fev f f0 = .func (.func fid) first cap) (hok : Ag P fid)
  (ha : first.toList ++ aos.toList.map (fev f) ++ cap.toList = args) (hs : HS w0 F0 w F L) (hc : Calls P fid args.toArray w (Ms w F post))
  (k : ∀ v F1 w1 L', HS w0 F0 w1 F1 (L' ++ L) -> Uw F F1 -> post F1 v L' -> DWP P n R PQ Post z (DZ Fs Lc Lz) fuel l' (AY f dst v) w1) : Aw P n R PQ Post z (DZ Fs Lc Lz) fuel l i f w := by
 intro hokR hns hS a haf
 obtain ⟨o, hR, hd, hop, hty, hgd⟩ := B3 ho
 unfold Fc wpOpIn
 simp only [hR]
 rw [haf.wanted R o, hgd, hg]
 simp only [if_true]
 refine ⟨Bi, ?_⟩
 show o.uponIn (FW none) 0 P a _ _ ((execOp a.eval o).run P w)
 rw [BX, haf.evalF, hop, hty, Dy hf hok ha]
 simp only [Oper.uponIn]
 refine ⟨(fun h => by cases h), (DI hc).mono ?_⟩
 rintro e w' ⟨r, F', L', rfl, h1, h2⟩
 simp only
 rw [hzd0] at hS
 have hS' : DZ Fs Lc Lz zd w' := hS.keep h1.keep
 rw [hl, hd, hzd]
 exact ⟨hS', k r F' w' L' (hs.callO h1) h1.le h2 hokR hns (by rw [hzd]; exact hS') _ (haf.put (by rw [<- hd]; exact DC hokR hR) r)⟩
theorem Aw.callS {Fs : Mem} {Lc Lz : Own} {f0 : Operand} {aos : Array Operand} {ats : Array TypeId} {fid : FuncId} {first cap : Array Value} {args : List Value} {S : Ending -> World -> Prop}
  (hl : l.set i true = l') (hzd : l'.toArray.getD z true = zd)
  (ho : opq R i = some (dst, .call { callee := .value f0, args := aos, argTypes := ats }, ty, g)) (hg : gd R f g = true) (hf : fev f f0 = .func (.func fid) first cap) (hok : Ag P fid)
  (ha : first.toList ++ aos.toList.map (fev f) ++ cap.toList = args) (hc : Calls P fid args.toArray w S)
  (k : ∀ e w', S e w' -> ∃ v, e = .returned v /\ DZ Fs Lc Lz zd w' /\ DWP P n R PQ Post z (DZ Fs Lc Lz) fuel l' (AY f dst v) w') : Aw P n R PQ Post z (DZ Fs Lc Lz) fuel l i f w := by
 intro hokR hns hS a haf
 obtain ⟨o, hR, hd, hop, hty, hgd⟩ := B3 ho
 unfold Fc wpOpIn
 simp only [hR]
 rw [haf.wanted R o, hgd, hg]
 simp only [if_true]
 refine ⟨Bi, ?_⟩
 show o.uponIn (FW none) 0 P a _ _ ((execOp a.eval o).run P w)
 rw [BX, haf.evalF, hop, hty, Dy hf hok ha]
 simp only [Oper.uponIn]
 refine ⟨(fun h => by cases h), (DI hc).mono ?_⟩
 intro e w' he
 obtain ⟨v, rfl, hS', hk⟩ := k e w' he
 simp only
 rw [hl, hd, hzd]
 exact ⟨hS', hk hokR hns (by rw [hzd]; exact hS') _ (haf.put (by rw [<- hd]; exact DC hokR hR) v)⟩
theorem Aw.callLentP {w0 : World} {F0 F Fs : Mem} {L Lc Lz : List (Option Nat × Obj)} {f0 : Operand} {aos : Array Operand} {ats : Array TypeId} {fid : FuncId} {first cap : Array Value} {args : List Value} {q : Nat} {e : Option Nat × Obj} {v0 : Value}
  (hl : l.set i true = l') (hzd : l'.toArray.getD z true = zd) (hzd0 : l.toArray.getD z true = zd)
  (ho : opq R i = some (dst, .call { callee := .value f0, args := aos, argTypes := ats }, ty, g)) (hg : gd R f g = true) (hf : fev f f0 = .func (.func fid) first cap) (hok : Ag P fid)
  (ha : first.toList ++ aos.toList.map (fev f) ++ cap.toList = args) (hs : HS w0 F0 w F L) (hk : L[q]? = some e) (hc : Calls P fid args.toArray w (AB w (GJ F e) fun _ v => v = v0))
  (k : ∀ F1 w1, HS w0 F0 w1 F1 L -> Uw F F1 -> DWP P n R PQ Post z (DZ Fs Lc Lz) fuel l' (AY f dst v0) w1) : Aw P n R PQ Post z (DZ Fs Lc Lz) fuel l i f w := by
 intro hokR hns hS a haf
 obtain ⟨o, hR, hd, hop, hty, hgd⟩ := B3 ho
 unfold Fc wpOpIn
 simp only [hR]
 rw [haf.wanted R o, hgd, hg]
 simp only [if_true]
 refine ⟨Bi, ?_⟩
 show o.uponIn (FW none) 0 P a _ _ ((execOp a.eval o).run P w)
 rw [BX, haf.evalF, hop, hty, Dy hf hok ha]
 simp only [Oper.uponIn]
 refine ⟨(fun h => by cases h), (DI hc).mono ?_⟩
 rintro e' w' ⟨_, F', rfl, h1, rfl⟩
 simp only
 rw [hzd0] at hS
 have hS' : DZ Fs Lc Lz zd w' := hS.keep h1.keep
 obtain ⟨h6, h7⟩ := hs.lentCall hk h1
 rw [hl, hd, hzd]
 exact ⟨hS', k _ w' h6 h7 hokR hns (by rw [hzd]; exact hS') _ (haf.put (by rw [<- hd]; exact DC hokR hR) _)⟩
end
section
variable {P : Program} {n : Nat} {R : Array Oper} {Q : Exit -> Fr -> World -> Prop} {w w0 : World} {F0 F : Mem} {L : Own} {f : Fr} {i : Nat} {rest : List Nat} {dst : Option Nat} {ty : TypeId} {g : Option (Nat × Bool)} {ro : Option Nat}
theorem RWP.callLentP {f0 : Operand} {aos : Array Operand} {ats : Array TypeId} {fid : FuncId} {first cap : Array Value} {args : List Value} {q : Nat} {e : Option Nat × Obj} {v0 : Value}
  (ho : opq R i = some (dst, .call { callee := .value f0, args := aos, argTypes := ats }, ty, g)) (hg : gd R f g = true) (hf : fev f f0 = .func (.func fid) first cap) (hok : Ag P fid)
  (ha : first.toList ++ aos.toList.map (fev f) ++ cap.toList = args) (hs : HS w0 F0 w F L) (hk : L[q]? = some e)
  (hc : Calls P fid args.toArray w (AB w (GJ F e) fun _ v => v = v0))
  (k : ∀ F1 w1, HS w0 F0 w1 F1 L -> Uw F F1 -> RWP P ro n R Q rest (AY f dst v0) w1) : RWP P ro n R Q (i :: rest) f w := by
 refine Uu ho hg (Dy hf hok ha) hc ?_
 rintro e w' ⟨_, F', rfl, h1, rfl⟩
 obtain ⟨h6, h7⟩ := hs.lentCall hk h1
 exact k _ w' h6 h7
end
section
variable {P : Program} {w : World} {ρ : Operand -> Value} {ty : TypeId}
theorem Np {mt k vt : TypeId} {d : TypeDesc} {m x : Operand} {b clk : Nat} {es : Array MapEntry} {kv v : Value} {j : Nat} (hm : ρ m = .map (some b)) (hx : ρ x = kv) (hu : P.underlying mt = some (.map k vt)) (hk : P.underlying k = some d) (hkey : MapKept.IsKey d kv)
  (hb : w.heap[b]? = some (.map es clk)) (hf : Instr.findNow d kv es.toList 0 = some (some (j, v))) : (Ai ρ (.lookup mt m x true) ty).run P w = .ok (.value (.tuple #[v, .bool true])) w := by
 have e : Ai ρ (.lookup mt m x true) ty = (do pure (Next.value (<- Instr.lookup mt (ρ m) (ρ x) true))) := rfl
 rw [e, hm, hx]
 simp [Instr.lookup, run_underlying hu, MapKept.run_getObj_map hb, MapKept.run_checkKey hk hkey, MapKept.run_findKey hk hf, Result.andThen]
theorem Tw {x c : Int} {v : Value} {clk i : Nat} {es : List MapEntry} (h : (x == c) = true) : Instr.findNow (.int .i64) (.int .i64 x) (⟨.int .i64 c, v, clk⟩ :: es) i = some (some (i, v)) := by
 simp [Instr.findNow, Instr.sameNow, h]
end
section
variable {P : Program} {w0 w : World} {F0 F : Mem} {L : List (Option Nat × Obj)} {α : Type} {T : Ty α} {E : TypeId} {l m : List α} {b cap : Nat} {C : Array Value}
theorem Pz {t t2 ty : TypeId} {by_ c2 : Nat} {a2 : UR} (he : Bt P t = some (E, T.sz, by_)) (hni : L1 P t2 = true)
  (h1 : T.One) (hs : HS w0 F0 w F L) {k : Nat} (hk : L[k]? = some (some b, .cells C E (0, 0))) (hr : Ap T E F (some ⟨b, 0, none⟩) cap l (some b, .cells C E (0, 0))) (hm : Rd T F w a2 m) (hfit : l.length + m.length <= cap) (hlen : l.length + m.length < 4398046511104) :
  ∃ C', C'.size = C.size /\ (Builtin.append_ #[t, t2] ty #[.slice (some ⟨b, 0, none⟩) l.length cap, .slice a2 m.length c2]).run P w = .ok (.slice (some ⟨b, 0, none⟩) (l ++ m).length cap) (BT w b (.cells C' E (0, 0))) /\ Ap T E F (some ⟨b, 0, none⟩) cap (l ++ m) (some b, .cells C' E (0, 0)) := by
 obtain ⟨i, hu, hi, his, hib⟩ := Fp he
 obtain ⟨new, hnew, hload⟩ := hm.load (P := P) c2
 have hnl := hnew.len
 obtain ⟨E2, hd⟩ : ∃ E2, P.underlying t2 = some (.slice E2) := by
  unfold L1 at hni
  split at hni
  ·rename_i E2 h; exact ⟨E2, h⟩
  ·cases hni
 unfold Builtin.append_
 simp only [List.getElem?_toArray, List.getElem?_cons_zero, List.getElem?_cons_succ, Sem.run_bind, run_underlying hu, Result.andThen_ok, Dw hi, his]
 simp only [run_underlying hd, Result.andThen_ok, Sem.run_pure, Bool.false_eq_true, if_false, Builtin.lenOf]
 simp only [pure_bind]
 rw [if_pos hfit]
 simp only [Bool.not_false, if_true, Sem.run_bind, hload, Result.andThen_ok]
 rcases hr.2 with ⟨h, _⟩ | ⟨b', C0, hb', hc', hlc, hC, hx⟩
 ·cases h
 ·cases hb'
  cases hc'
  have hC1 : l.length * T.sz + new.length <= C.size := by rw [hC, hnl, <- Nat.add_mul]; exact Nat.mul_le_mul_right _ hfit
  have hst := CR (P := P) E new w b (l.length * T.sz) 0 C (hs.ownAt hk) (by simpa using hC1) (hnew.one h1)
  refine ⟨CA C (l.length * T.sz) new, ER _ _ _, ?_, ?_⟩
  ·simp only [Addr.add_lit, Nat.zero_add]
   simp only [Nat.add_zero] at hst
   rw [hst]
   simp
  ·have hrow : Ds T F l (Ao C 0 (l.length * T.sz)) := by
    by_cases hl : l = []
    ·subst hl; simp [Ds, Ao]
    ·exact GD hl (fun i x hi => by rw [Nat.zero_add]; exact hx i x hi)
   have hlr := hrow.len
   refine ⟨by simpa using hlen, .inr ⟨b, _, rfl, rfl, by simpa using hfit, by rw [ER, hC], fun i x hix => ?_⟩⟩
   have := (Ds.append hrow hnew).get i x hix
   have hii : i < (l ++ m).length := by
    rcases Nat.lt_or_ge i (l ++ m).length with h' | h'
    ·exact h'
    ·rw [List.getElem?_eq_none h'] at hix; cases hix
   have hle : i * T.sz + T.sz <= (Ao C 0 (l.length * T.sz) ++ new).length := by
    rw [List.length_append, hlr, hnl, <- Nat.add_mul, <- Nat.succ_mul]
    exact Nat.mul_le_mul_right _ (Nat.succ_le_of_lt (by simpa using hii))
   have e1 : Ao C 0 (l.length * T.sz) = C.toList.take (l.length * T.sz) := by simp [Ao]
   unfold Ao
   rw [HW hC1]
   rw [e1] at this hle
   rw [List.drop_append_of_le_length (by omega), List.take_append_of_le_length (by simp only [List.length_drop]; omega)]
   exact this
theorem LM {t t2 : TypeId} {by_ c2 : Nat} {a2 : UR} (he : Bt P t = some (E, T.sz, by_)) (hni : L1 P t2 = true)
  (h1 : T.One) (hs : HS w0 F0 w F L) {k : Nat} (hk : L[k]? = some (some b, .cells C E (0, 0))) (hr : Ap T E F (some ⟨b, 0, none⟩) cap l (some b, .cells C E (0, 0))) (hm : Rd T F w a2 m) (hfit : l.length + m.length <= cap) (hlen : l.length + m.length < 4398046511104) :
  ∃ C', C'.size = C.size /\ Ap T E F (some ⟨b, 0, none⟩) cap (l ++ m) (some b, .cells C' E (0, 0)) /\ ∀ {ρ : Operand -> Value} {x y : Operand} {ty : TypeId}, ρ x = .slice (some ⟨b, 0, none⟩) l.length cap -> ρ y = .slice a2 m.length c2 ->
   (Ai ρ (.call { callee := .builtin .append, args := #[x, y], argTypes := #[t, t2] }) ty).run P w = .ok (.value (.slice (some ⟨b, 0, none⟩) (l ++ m).length cap)) (BT w b (.cells C' E (0, 0))) := by
 have key := fun ty => Pz (ty := ty) (c2 := c2) he hni h1 hs hk hr hm hfit hlen
 obtain ⟨C', h2, h3, h4⟩ := key 0
 refine ⟨C', h2, h4, fun {ρ x y ty} hx hy => ?_⟩
 have h5 : (Builtin.append_ #[t, t2] ty #[.slice (some ⟨b, 0, none⟩) l.length cap, .slice a2 m.length c2]).run P w = .ok (.slice (some ⟨b, 0, none⟩) (l ++ m).length cap) (BT w b (.cells C' E (0, 0))) := h3
 have e1 : Ai ρ (.call { callee := .builtin .append, args := #[x, y], argTypes := #[t, t2] }) ty = (do pure (Next.value (<- Builtin.append_ #[t, t2] ty (Array.map ρ #[x, y])))) := rfl
 rw [e1, map_toArray]
 simp only [List.map_cons, List.map_nil, hx, hy]
 rw [Sem.run_bind, h5]
 rfl
theorem NQ {o i : Nat} {vs : List Value} (ho : o + vs.length <= C.size) (hi : i * T.sz + T.sz <= o) : Ao (CA C o vs) (i * T.sz) T.sz = Ao C (i * T.sz) T.sz := by
 unfold Ao
 rw [HW ho, List.append_assoc, List.drop_append_of_le_length (by simp; omega), List.take_append_of_le_length (by simp; omega), List.drop_take, List.take_take, Nat.min_eq_left (by omega)]
theorem Ns {t : TypeId} {by_ j k c : Nat} {z : Value} (he : Bt P t = some (E, T.sz, by_)) (hz : BF P E = some z) (hzs : z.cells.size = T.sz) (hz1 : z.cells.toList.all (·.oneCell') = true)
  (hb : w.heap[b]? = some (.cells C E (0, 0))) (hk : 0 < k) (hfit : j * T.sz + k * T.sz <= C.size) :
  ∃ vs, vs.length = k * T.sz /\ ∀ {ρ : Operand -> Value} {x : Operand} {ty : TypeId}, ρ x = .slice (some ⟨b, j * T.sz, none⟩) k c -> (Ai ρ (.call { callee := .builtin .clear, args := #[x], argTypes := #[t] }) ty).run P w = .ok (.value (.tuple #[])) (BT w b (.cells (CA C (j * T.sz) vs) E (0, 0))) := by
 obtain ⟨i, hu, hi, his, hib⟩ := Fp he
 have hzv : (zeroValue E).run P w = .ok z w := by
  unfold BF at hz; rw [hi] at hz
  simp [zeroValue, typeInfo, hi, hz]
 have hsz : (Builtin.zeroCells z.cells k).toList.length = k * T.sz := by simp [Builtin.zeroCells, hzs]
 have hone : (Builtin.zeroCells z.cells k).toList.all (·.oneCell') = true := by
  rw [List.all_eq_true] at hz1 ⊢
  intro v hv
  simp only [Builtin.zeroCells, Array.toList_map, List.mem_map] at hv
  obtain ⟨q, hq, rfl⟩ := hv
  have hq' : q < k * z.cells.size := by simpa using hq
  have hpos : 0 < z.cells.size := by
   rcases Nat.eq_zero_or_pos z.cells.size with h | h
   ·rw [h] at hq'; simp at hq'
   ·exact h
  have hlt := Nat.mod_lt q hpos
  rw [getElem!_pos z.cells _ hlt]
  exact hz1 _ (by simp)
 have hst := CR (P := P) E (Builtin.zeroCells z.cells k).toList w b (j * T.sz) 0 C hb (by rw [hsz]; simpa using hfit) hone
 refine ⟨(Builtin.zeroCells z.cells k).toList, hsz, fun {ρ x ty} hx => ?_⟩
 have e : Ai ρ (.call { callee := .builtin .clear, args := #[x], argTypes := #[t] }) ty = (do pure (Next.value (<- Builtin.clear_ #[t] ty (Array.map ρ #[x])))) := rfl
 rw [e, map_toArray]
 simp only [List.map_cons, List.map_nil, hx]
 obtain ⟨k', rfl⟩ : ∃ k', k = k' + 1 := ⟨k - 1, by omega⟩
 simp only [Nat.add_zero] at hst
 simp [Builtin.clear_, run_underlying hu, hzv, hst, Result.andThen]
end
abbrev Ps (x : (UQ × Bool)) : List Value := [(.string ⟨(x.1).toArray⟩), (.bool x.2)]
abbrev Q3 (_ : Mem) (_ : (UQ × Bool)) : Prop := True
abbrev QT (x : (UQ × Bool)) : (UQ × Bool) := x
theorem kl9 : KL Tryz.prog 9 AF := KL.ofString (by kernel_rfl)
def SX (x : An) : Value := .agg #[(.int .i64 x.at_), (.int .i64 x.stage_), (.int .i64 x.num_), (.int .i64 x.minute_)]
def RF (x y : An) : Bool := ((x.at_ == y.at_) && ((x.stage_ == y.stage_) && ((x.num_ == y.num_) && ((x.minute_ == y.minute_) && true))))
theorem TE (x y : An) : RF x y = decide (x = y) := by
 rw [Bool.eq_iff_iff]; unfold RF
 simp only [Bool.and_eq_true, beq_iff_eq, decide_eq_true_eq, and_true]
 constructor
 ·intro h
  obtain ⟨_, _, _, _⟩ := x; obtain ⟨_, _, _, _⟩ := y
  simp_all [An.mk.injEq]
 ·rintro rfl
  simp
set_option maxRecDepth 100000 in
theorem SY : KL Tryz.prog 143 Ax := KL.ofStruct (d := 8) (by decide) SX (fun h => by obtain ⟨_, rfl, rfl⟩ := h; rfl) (by kernel_rfl) (fun x => by kernel_rfl) RF (fun x y => by kernel_rfl) TE (fun x => by simp [SX, Instr.sameBits, beq_toListBytes])
def AG (N : Nat) (x0 : (List AH)) (x1 : (AH -> Option Bool)) : Int -> Option (BD Int Int) := fun s24 =>
 (bif (decide (s24 < (x0.length : Int))) then ((idx x0 s24).bind fun x47 => ((x1 x47).bind fun r61 => (bif r61 then some (.ret s24) else some (.next (W64 (s24 + 1)))))) else some (.done s24))
def Bo (N : Nat) (x0 : (List AH)) (x1 : (AH -> Option Bool)) : Option Int :=
 ((A0 (AG N x0 x1) N 0).bind fun o => o.k (fun r => some r) (fun s33 => some (-1)))
theorem De : Ag Tryz.prog 183 := fun _ _ => by kernel_rfl
theorem Dn (N : Nat) (w0 : World) (F0 : Mem) (hF : US w0 F0) (x0 : (List AH)) (a0_0 : UR) (n0_0 : Nat) (hb0_0 : LC x0.length n0_0) (hs0_0 : SlA HN F0 a0_0 x0) (gx1 : FuncId) (fx1 kx1 : List Value) (x1 : AH -> Option Bool) (hox1 : Ag Tryz.prog gx1) (hpx1 : OR F0 gx1 fx1 kx1 x1) (r : Int) (h : Bo N x0 x1 = some r) :
  Calls Tryz.prog 183 ([(.slice a0_0 x0.length n0_0), (.func (.func gx1) fx1.toArray kx1.toArray)] : List Value).toArray w0 (AB w0 F0 fun F' v => v = (vi r)) := by
 have hs0 := Uy hF
 refine Go 19 Tryz.func183 <| Sq (Rg [0] ?_)
 refine Vs 1 <| Nss <| Sq (Rg [0, 1, 2] ?_)
 refine Vs 3 <| Nt ?_
 obtain ⟨o21, ho22, h23⟩ := bind_some h
 refine UD (fun f w => ∃ (s33 : Int) (F2 : Mem), o21 = .done s33 /\ HS w0 F0 w F2 [] /\ Uw F0 F2 /\ FI f [] []) ?_ ?_
 ·refine Bk ?_
  refine Uv (by kernel_rfl) (fun m f w => ∃ (s24 : Int) (F1 : Mem), A0 (AG N x0 x1) m s24 = some o21 /\ HS w0 F0 w F1 [] /\ Uw F0 F1 /\ FI f [] [(0, (.slice a0_0 x0.length n0_0)), (1, (.func (.func gx1) fx1.toArray kx1.toArray)), (7, (vi (x0.length : Int))), (8, (vi s24))]) N ⟨0, F0, ho22, hs0, (Ux _), fI⟩ ?_
  rintro m38 f w25 ⟨s24, F1, hit39, hs26, le27, ⟨_, rfl⟩⟩
  obtain ⟨m40, fl41, rfl, hb42, hnx43⟩ := AU hit39
  refine Sq (Rg [0] ?_)
  refine Vs 1 <| Nss <| Cd hb42 (fun hb44 h45 => ?_) (fun hb44 h46 => ?_)
  ·refine Sc ?_
   refine Ab <| Sq <| Bk <| Sq (Rg [0, 1] ?_)
   refine Vs 2 <| Nss (Rg (rG 6) ?_)
   refine Vs 3 ?_
   obtain ⟨x47, hx48, h50⟩ := bind_some h45
   obtain ⟨hi49, hx48'⟩ := As hx48
   obtain ⟨b51, o52, C53, E54, fz55, rfl, hF57, hE58⟩ := UE (Uz hs0_0 le27) hx48'
   have hc60 := hE58 _ _ hx48'
   refine Ix hi49 <| Lx 0 (hs26.pers _ _ hF57) hc60 ?_
   obtain ⟨r61, hr62, h63⟩ := bind_some h50
   refine Cq hox1 hs26 (hpx1 w25 F1 x47 _ le27 hs26.pers hr62) ?_
   rintro _ F3 w65 hs66 le67 rfl
   refine Nt <| Cd h63 (fun hb69 h70 => ?_) (fun hb69 h71 => ?_)
   ·refine Sq (Rg [0, 1] ?_)
    refine Vs 2 <| Nt <| Rt <| Az <| Aj <| Aj <| Az ?_
    have hret := DV h70 hnx43
    subst hret
    refine .inr <| Aj ?_
    obtain rfl := Aa h23
    exact Re [(vi s24)] hs66 rfl
   ·refine Sc ?_
    refine Av <| Ab <| Rg [0, 1] <| Vs 2 <| Us ?_
    have hn72 := AV h71 hnx43
    exact ⟨m40, Nat.lt_succ_self _, (W64 (s24 + 1)), F3, hn72, hs66, (le27.t le67), fI⟩
  ·refine Ex ?_
   refine Au <| Au <| AA rfl ?_
   have ho73 := AW h46 hnx43
   exact .inl ⟨rfl, s24, F1, ho73, hs26, le27, fI⟩
 ·rintro f w34 ⟨s33, F2, rfl, hs35, le36, ⟨_, rfl⟩⟩
  have h74 := BL h23
  refine Ab <| Sq (Rg [0] ?_)
  refine Vs 1 <| Nt <| Rt ?_
  obtain rfl := Aa h74
  exact Re [(vi (-1))] hs35 rfl
def AX (N : Nat) (x0 : (List AH)) (x1 : (AH -> Option Bool)) : Option Bool :=
 ((Bo N x0 x1).bind fun r21 => some (decide (r21 >= 0)))
theorem CJ : Ag Tryz.prog 137 := fun _ _ => by kernel_rfl
theorem CP (N : Nat) (w0 : World) (F0 : Mem) (hF : US w0 F0) (x0 : (List AH)) (a0_0 : UR) (n0_0 : Nat) (hb0_0 : LC x0.length n0_0) (hs0_0 : SlA HN F0 a0_0 x0) (gx1 : FuncId) (fx1 kx1 : List Value) (x1 : AH -> Option Bool) (hox1 : Ag Tryz.prog gx1) (hpx1 : OR F0 gx1 fx1 kx1 x1) (r : Bool) (h : AX N x0 x1 = some r) :
  Calls Tryz.prog 137 ([(.slice a0_0 x0.length n0_0), (.func (.func gx1) fx1.toArray kx1.toArray)] : List Value).toArray w0 (AB w0 F0 fun F' v => v = (.bool r)) := by
 have hs0 := Uy hF
 refine Go 9 Tryz.func137 <| Sq (Rg [0] ?_)
 refine Vs 1 <| Nss (Rg (rG 5) ?_)
 refine Vs 2 ?_
 obtain ⟨r21, hr22, h23⟩ := bind_some h
 refine Cl' De hs0 (Dn N w0 F0 hs0.pers x0 a0_0 n0_0 hb0_0 hs0_0 gx1 fx1 kx1 x1 hox1 (fun w1 F1 y0 r le1 pe1 hr1 => hpx1 w1 F1 y0 r le1 pe1 hr1) _ hr22) ?_
 rintro _ F1 w25 hs26 le27 rfl
 refine Vs 2 <| Nt <| Rt ?_
 obtain rfl := Aa h23
 exact Re [(.bool (decide (r21 >= 0)))] hs26 rfl
def Cm (N : Nat) (x0 : Ac) (x1 : Ad) : Option (List AH) :=
 some [({ has_ := x0.Report, n_ := x1.Report, most_ := 599, digits_ := 1 } : AH), ({ has_ := x0.Serial, n_ := x1.Serial, most_ := 99999, digits_ := 3 } : AH), ({ has_ := x0.Zone, n_ := x1.Zone, most_ := 99, digits_ := 2 } : AH)]
theorem DX : Ag Tryz.prog 138 := fun _ _ => by kernel_rfl
theorem Eu (N : Nat) (w0 : World) (F0 : Mem) (hF : US w0 F0) (x0 : Ac) (x1 : Ad) (r : (List AH)) (h : Cm N x0 x1 = some r) :
  Calls Tryz.prog 138 ([(.agg (Ak x0)), (.agg (BP x1))] : List Value).toArray w0 (AB w0 F0 fun F' v => ∃ (aq0_0 : UR) (nq0_0 : Nat), v = (.slice aq0_0 r.length nq0_0) /\ LC r.length nq0_0 /\ SlA HN F' aq0_0 r) := by
 have hs0 := Uy hF
 refine Go 21 Tryz.func138 <| Sq (Rg [0, 1, 2] ?_)
 refine Bx' 23 (Ak x0) hs0 (fun b21 w22 hs23 => ?_)
 refine Bx' 32 (BP x1) hs23 (fun b24 w25 hs26 => ?_)
 refine Vs 1 <| Nss (Rg (rG 17) ?_)
 refine Vs 1 <| Ld hs26.at1 <| Vs 1 <| Ld hs26.at0 <| Vs 2 <| Ld hs26.at1 <| Vs 1 <| Ld hs26.at0 <| Vs 2 <| Ld hs26.at1 <| Vs 1 <| Ld hs26.at0 <| Vs 1 <| Bs 180 [(.bool x0.Report), (vi x1.Report), (vi 599), (vi 1), (.bool x0.Serial), (vi x1.Serial), (vi 99999), (vi 3), (.bool x0.Zone), (vi x1.Zone), (vi 99), (vi 2)] hs26 (fun b27 w28 hs29 => ?_)
 have hr31 : Ap HN 180 F0 (some ⟨b27, 0, none⟩) 3 [({ has_ := x0.Report, n_ := x1.Report, most_ := 599, digits_ := 1 } : AH), ({ has_ := x0.Serial, n_ := x1.Serial, most_ := 99999, digits_ := 3 } : AH), ({ has_ := x0.Zone, n_ := x1.Zone, most_ := 99, digits_ := 2 } : AH)] (some b27, .cells ([(.bool x0.Report), (vi x1.Report), (vi 599), (vi 1), (.bool x0.Serial), (vi x1.Serial), (vi 99999), (vi 3), (.bool x0.Zone), (vi x1.Zone), (vi 99), (vi 2)] : List Value).toArray 180 (0, 0)) := UM ⟨rfl, ⟨rfl, ⟨rfl, rfl⟩⟩⟩ (by simp)
 refine Vs 1 <| Nt <| Rt ?_
 have hb35 := UK hr31
 obtain ⟨F1, hs32, le33, hs34⟩ := hs29.fr0 hr31
 obtain rfl := Aa h
 exact Re [(.slice (some ⟨b27, 0, none⟩) [({ has_ := x0.Report, n_ := x1.Report, most_ := 599, digits_ := 1 } : AH), ({ has_ := x0.Serial, n_ := x1.Serial, most_ := 99999, digits_ := 3 } : AH), ({ has_ := x0.Zone, n_ := x1.Zone, most_ := 99, digits_ := 2 } : AH)].length 3)] hs32 ⟨(some ⟨b27, 0, none⟩), 3, rfl, hb35, hs34⟩
def E3 (N : Nat) (x0 : Int) (x1 : Int) (x2 : Int) : Option Bool :=
 some ((decide (x0 >= x1)) && (decide (x0 <= x2)))
theorem FD : Ag Tryz.prog 140 := fun _ _ => by kernel_rfl
theorem GG (N : Nat) (w0 : World) (F0 : Mem) (hF : US w0 F0) (x0 : Int) (x1 : Int) (x2 : Int) (r : Bool) (h : E3 N x0 x1 x2 = some r) :
  Calls Tryz.prog 140 ([(vi x0), (vi x1), (vi x2)] : List Value).toArray w0 (AB w0 F0 fun F' v => v = (.bool r)) := by
 have hs0 := Uy hF
 refine Go 15 Tryz.func140 <| Sq (Rg [0] ?_)
 refine Vs 1 <| Nss (Rg (rG 9) ?_)
 refine UC (fun f w => ∃ (F1 : Mem), HS w0 F0 w F1 [] /\ Uw F0 F1 /\ FI f [] [(6, (.bool ((decide (x0 >= x1)) && (decide (x0 <= x2)))))]) ?_ ?_
 ·refine Vs 4 ?_
  refine UB (decide (x0 >= x1)) (fun hb26 => ?_) (fun hb26 => ?_)
  ·refine Vgs hb26 3 ?_
   refine Pk1 hb26 <| Vs 1 ?_
   exact Us ⟨rfl, F0, hs0, (Ux _), (fJ ⟨(congrArg Value.bool (JH hb26 rfl)), trivial⟩)⟩
  ·refine Ss hb26 3 ?_
   refine Pk0 hb26 <| Vs 1 ?_
   exact Us ⟨rfl, F0, hs0, (Ux _), (fJ ⟨(congrArg Value.bool (KP hb26 rfl)), trivial⟩)⟩
 ·rintro f w21 ⟨F1, hs22, le23, ⟨_, rfl⟩⟩
  refine Ab <| Rt ?_
  obtain rfl := Aa h
  exact Re [(.bool ((decide (x0 >= x1)) && (decide (x0 <= x2))))] hs22 rfl
def BM (N : Nat) (x0 : AH) : Option Bool :=
 (((E3 N x0.n_ 1 x0.most_).bind fun r34 => (bif (!(x0.has_ == r34)) then some true else (bif (!x0.has_) then some (x0.n_ != 0) else some false))).bind fun j29 => some j29)
theorem GB : Ag Tryz.prog 139 := fun _ _ => by kernel_rfl
theorem G2 (N : Nat) (w0 : World) (F0 : Mem) (hF : US w0 F0) (x0 : AH) (r : Bool) (h : BM N x0 = some r) :
  Calls Tryz.prog 139 ([(.agg (HQ x0))] : List Value).toArray w0 (AB w0 F0 fun F' v => v = (.bool r)) := by
 have hs0 := Uy hF
 refine Go 21 Tryz.func139 <| Sq (Rg [0, 1] ?_)
 refine Bx' 180 (HQ x0) hs0 (fun b21 w22 hs23 => ?_)
 refine Vs 1 <| Nss ?_
 obtain ⟨j29, hj32, h33⟩ := bind_some h
 refine RD 19 19 [(sb b21 (HQ x0) 180)] [] hs23 (fun f w => ∃ (F1 : Mem), HS w0 F0 w F1 [] /\ Uw F0 F1 /\ FI f [] [(2, (.bool j29))]) (fun wd24 hw25 => ?_) ?_
 ·refine Dvl [0] (tf 1 18) ?_
  refine Dl 1 (fun _ hq => (hq.1.2 0 _ _ rfl)) <| Dvl [2] (tf 3 16) <| Dl 3 (fun _ hq => (hq.1.2 0 _ _ rfl)) <| Dvl [4] (tf 5 14) <| Dl 5 (fun _ hq => (hq.1.2 0 _ _ rfl)) <| D1 6 ?_
  obtain ⟨r34, hr35, h36⟩ := bind_some hj32
  refine DCl FD hw25 (GG N wd24 F0 hw25.pers x0.n_ 1 x0.most_ _ hr35) ?_
  rintro _ F2 w38 hs39 le40 rfl
  refine Dvl [7, 8] (tf 9 10) <| Sd h36 (fun hb42 h43 => ?_) (fun hb42 h44 => ?_)
  ·refine Dkl [(9, 12), (10, 13), (11, 14), (12, 15)] 8 false 11 hb42 (tf 13 6) ?_
   refine Dul [(13, 16), (14, 17), (15, 18)] 12 true 15 (tf 16 3) <| Dkl [(16, 19)] 8 false 11 hb42 (tf 17 2) <| Dtl 17 20 4 _ (tf 18 1) (fun _ hq => p1 11 (.const (.bool true)) (.tmp 19) (.bool true) hb42) <| Dvl [18] (tf 19 0) ?_
   obtain rfl := Aa h43
   exact UJ (by kernel_rfl) ⟨F2, hs39.dr0, le40, fI⟩
  ·refine Dgl 9 12 0 (pt b21 0) (tf 10 9) 8 false 11 hb42 (fun _ hq => fa 180 1 0 0 1 b21 0 0) ?_
   refine Dgl 10 13 4 _ (tf 11 8) 8 false 11 hb42 (fun _ hq => ld 4 12 b21 0 false 1 (.bool x0.has_) (hq.1.2 0 _ _ rfl)) <| Dgl 11 14 4 (.bool (!x0.has_)) (tf 12 7) 8 false 11 hb42 (fun _ hq => Nl (t := 4) (x := (.tmp 13)) (a := x0.has_) rfl) <| Dgl 12 15 4 _ (tf 13 6) 8 false 11 hb42 (fun _ hq => mv 14 (.bool (!x0.has_))) <| Sd h44 (fun hb45 h46 => ?_) (fun hb45 h47 => ?_)
   ·refine Dgl 13 16 0 (pt b21 1) (tf 14 5) 12 true 15 hb45 (fun _ hq => fa 180 1 1 1 1 b21 0 1) ?_
    refine Dgl 14 17 3 _ (tf 15 4) 12 true 15 hb45 (fun _ hq => ld 3 16 b21 1 false 1 (vi x0.n_) (hq.1.2 0 _ _ rfl)) <| Dgl 15 18 4 (.bool (x0.n_ != 0)) (tf 16 3) 12 true 15 hb45 (fun _ hq => La (t := 3) (t' := 3) (x := (.tmp 17)) (y := (.const (vi 0))) (k := .i64) (a := x0.n_) (b := 0) rfl rfl) <| Dgl 16 19 4 _ (tf 17 2) 8 false 11 hb42 (fun _ hq => p1 15 (.tmp 18) (.const (.bool false)) (.bool (x0.n_ != 0)) hb45) <| Dtl 17 20 4 _ (tf 18 1) (fun _ hq => p0 11 (.const (.bool true)) (.tmp 19) (.bool (x0.n_ != 0)) hb42) <| Dvl [18] (tf 19 0) ?_
    obtain rfl := Aa h46
    exact UJ (by kernel_rfl) ⟨F2, hs39.dr0, le40, fI⟩
   ·refine Dkl [(13, 16), (14, 17), (15, 18)] 12 true 15 hb45 (tf 16 3) ?_
    refine Dgl 16 19 4 _ (tf 17 2) 8 false 11 hb42 (fun _ hq => p0 15 (.tmp 18) (.const (.bool false)) (.bool false) hb45) <| Dtl 17 20 4 _ (tf 18 1) (fun _ hq => p0 11 (.const (.bool true)) (.tmp 19) (.bool false) hb42) <| Dvl [18] (tf 19 0) ?_
    obtain rfl := Aa h47
    exact UJ (by kernel_rfl) ⟨F2, hs39.dr0, le40, fI⟩
 ·rintro f w26 ⟨F1, hs27, le28, ⟨_, rfl⟩⟩
  refine Ab <| Rt ?_
  obtain rfl := Aa h33
  exact Re [(.bool j29)] hs27 rfl
def BK (N : Nat) (x0 : Ac) (x1 : Ad) : Option Bool :=
 ((Cm N ({ Report := x0.Report, Serial := x0.Serial, Zone := x0.Zone } : Ac) ({ Report := x1.Report, Serial := x1.Serial, Zone := x1.Zone } : Ad)).bind fun r27 => ((AX N r27 (fun y0 => BM N y0)).bind fun r35 => some (!r35)))
theorem CY : Ag Tryz.prog 75 := fun _ _ => by kernel_rfl
theorem Dp (N : Nat) (w0 : World) (F0 : Mem) (hF : US w0 F0) (x0 : Ac) (x1 : Ad) (r : Bool) (h : BK N x0 x1 = some r) :
  Calls Tryz.prog 75 ([(.agg (Ak x0)), (.agg (BP x1))] : List Value).toArray w0 (AB w0 F0 fun F' v => v = (.bool r)) := by
 have hs0 := Uy hF
 refine Go 10 Tryz.func75 <| Sq (Rg [0, 1, 2] ?_)
 refine Bx' 23 (Ak x0) hs0 (fun b21 w22 hs23 => ?_)
 refine Bx' 32 (BP x1) hs23 (fun b24 w25 hs26 => ?_)
 refine Vs 1 <| Nss (Rg (rG 6) ?_)
 refine Ld hs26.at1 <| Ld hs26.at0 ?_
 obtain ⟨r27, hr28, h29⟩ := bind_some h
 refine Cl' DX hs26 (Eu N w25 F0 hs26.pers (({ Report := x0.Report, Serial := x0.Serial, Zone := x0.Zone } : Ac)) (({ Report := x1.Report, Serial := x1.Serial, Zone := x1.Zone } : Ad)) _ hr28) ?_
 rintro _ F1 w31 hs32 le33 ⟨ar27_0_0, nr27_0_0, rfl, hbr27_0_0, hsr27_0_0⟩
 obtain ⟨r35, hr36, h37⟩ := bind_some h29
 refine Cl' CJ hs32 (CP N w31 F1 hs32.pers r27 ar27_0_0 nr27_0_0 hbr27_0_0 hsr27_0_0 139 [] [] (fun y0 => BM N y0) GB (fun w1 F1 y0 r le1 pe1 hr1 => G2 N w1 F1 pe1  y0  r hr1) _ hr36) ?_
 rintro _ F2 w39 hs40 le41 rfl
 refine Vs 2 <| Nt <| Rt ?_
 obtain rfl := Aa h37
 exact Re [(.bool (!r35))] hs40 rfl



def Ev (N : Nat) (x0 : UQ) (x1 : Int) (x2 : (Int -> Option Bool)) : Nat -> Option (BD Bool Nat) := fun s27 =>
 (bif (decide (s27 < (x0).length)) then ((x2 ((IB x0 s27).1 : Int)).bind fun r54 => (bif (!r54) then some (.ret false) else some (.next (s27 + (IB x0 s27).2)))) else some (.done s27))
def Ew (N : Nat) (x0 : UQ) (x1 : Int) (x2 : (Int -> Option Bool)) : Option Bool :=
 ((A0 (Ev N x0 x1 x2) N 0).bind fun o => o.k (fun r => some r) (fun s36 => ((E3 N (x0.length : Int) 1 x1).bind fun r68 => some r68)))
theorem Et : Ag Tryz.prog 198 := fun _ _ => by kernel_rfl
theorem E0 (N : Nat) (w0 : World) (F0 : Mem) (hF : US w0 F0) (x0 : UQ) (x1 : Int) (gx2 : FuncId) (fx2 kx2 : List Value) (x2 : Int -> Option Bool) (hox2 : Ag Tryz.prog gx2) (hpx2 : KQ F0 gx2 fx2 kx2 x2) (r : Bool) (h : Ew N x0 x1 x2 = some r) :
  Calls Tryz.prog 198 ([(sv x0), (vi x1), (.func (.func gx2) fx2.toArray kx2.toArray)] : List Value).toArray w0 (AB w0 F0 fun F' v => v = (.bool r)) := by
 have hs0 := Uy hF
 refine Go 22 Tryz.func198 <| Sq (Rg [0] ?_)
 refine Vs 1 <| Nss <| Sq (Rg [0, 1] ?_)
 refine Vs 1 <| RWP.srange (dst := (some 10)) (ty := 0) (g := none) (by kernel_rfl) rfl (t := 9) (x := (.tmp 9)) (a := x0) rfl (by kernel_rfl) hs0 (fun b21 w22 (hs23 : HS w0 F0 w22 F0 [(some b21, (.stringIter ⟨(x0).toArray⟩ 0))]) => ?_)
 refine Nt ?_
 obtain ⟨o24, ho25, h26⟩ := bind_some h
 refine UD (fun f w => ∃ (s36 : Nat) (F2 : Mem), o24 = .done s36 /\ HS w0 F0 w F2 [] /\ Uw F0 F2 /\ FI f [] [(0, (sv x0)), (1, (vi x1))]) ?_ ?_
 ·refine Bk ?_
  refine Uv (by kernel_rfl) (fun m f w => ∃ (s27 : Nat) (F1 : Mem), A0 (Ev N x0 x1 x2) m s27 = some o24 /\ HS w0 F0 w F1 [(some b21, (.stringIter ⟨(x0).toArray⟩ s27))] /\ Uw F0 F1 /\ FI f [] [(0, (sv x0)), (1, (vi x1)), (2, (.func (.func gx2) fx2.toArray kx2.toArray)), (10, (pt b21 0))]) N ⟨0, F0, ho25, hs23, (Ux _), fI⟩ ?_
  rintro m43 f w28 ⟨s27, F1, hit44, hs29, le30, ⟨_, rfl⟩⟩
  obtain ⟨m45, fl46, rfl, hb47, hnx48⟩ := AU hit44
  refine Sq (Rg [0, 1] ?_)
  refine Sp hb47 (fun hb49 h50 => ?_) (fun hb49 h51 => ?_)
  ·refine RWP.snext1 (dst := (some 11)) (ty := 0) (g := none) (by kernel_rfl) rfl (x := (.tmp 10)) (b := b21) (a := x0) (pos := s27) (k := 0) rfl hs29 rfl hb49 (fun w52 (hs53 : HS w0 F0 w52 F1 [(some b21, (.stringIter ⟨(x0).toArray⟩ (s27 + (IB x0 s27).2)))]) => ?_)
   refine Vs 1 <| Nss <| C1 (rfl : true = true) <| Sc <| Ab <| Bk <| Sq (Rg [0, 1] ?_)
   refine Vs 2 <| Nss (Rg (rG 4) ?_)
   refine Vs 2 ?_
   obtain ⟨r54, hr55, h56⟩ := bind_some h50
   refine Cq hox2 hs53 (hpx2 w52 F1 (((IB x0 s27).1 : Int)) _ le30 hs53.pers hr55) ?_
   rintro _ F3 w58 hs59 le60 rfl
   refine Vs 1 <| Nt <| Cd h56 (fun hb62 h63 => ?_) (fun hb62 h64 => ?_)
   ·refine Sq (Rg [0] ?_)
    refine Vs 1 <| Nt <| Rt <| Az <| Aj <| Az ?_
    have hret := DV h63 hnx48
    subst hret
    refine .inr <| Aj ?_
    obtain rfl := Aa h26
    exact Re [(.bool false)] hs59 rfl
   ·refine Sc ?_
    refine Av ?_
    have hn65 := AV h64 hnx48
    exact ⟨m45, Nat.lt_succ_self _, (s27 + (IB x0 s27).2), F3, hn65, hs59, (le30.t le60), fI⟩
  ·refine RWP.snext0 (dst := (some 11)) (ty := 0) (g := none) (by kernel_rfl) rfl (x := (.tmp 10)) (b := b21) (a := x0) (pos := s27) (k := 0) rfl hs29 rfl hb49 ?_
   refine Vs 1 <| Nss <| C0 (rfl : false = false) <| Ex <| Au <| Au <| AA rfl ?_
   have ho66 := AW h51 hnx48
   exact .inl ⟨rfl, s27, F1, ho66, hs29.dr0, le30, fI⟩
 ·rintro f w37 ⟨s36, F2, rfl, hs38, le39, ⟨_, rfl⟩⟩
  have h67 := BL h26
  refine Ab <| Sq (Rg (rG 5) ?_)
  refine Vs 3 ?_
  obtain ⟨r68, hr69, h70⟩ := bind_some h67
  refine Cl' FD hs38 (GG N w37 F2 hs38.pers ((x0.length : Int)) 1 x1 _ hr69) ?_
  rintro _ F4 w72 hs73 le74 rfl
  refine Vs 1 <| Nt <| Rt ?_
  obtain rfl := Aa h70
  exact Re [(.bool r68)] hs73 rfl
def Bf (N : Nat) (x0 : Int) : Option Bool :=
 some ((decide (x0 >= 48)) && (decide (x0 <= 57)))
theorem EM : Ag Tryz.prog 199 := fun _ _ => by kernel_rfl
theorem Fw (N : Nat) (w0 : World) (F0 : Mem) (hF : US w0 F0) (x0 : Int) (r : Bool) (h : Bf N x0 = some r) :
  Calls Tryz.prog 199 ([(.int .i32 x0)] : List Value).toArray w0 (AB w0 F0 fun F' v => v = (.bool r)) := by
 have hs0 := Uy hF
 refine Go 9 Tryz.func199 <| Sq (Rg [0] ?_)
 refine Vs 1 <| Nss (Rg (rG 7) ?_)
 refine UC (fun f w => ∃ (F1 : Mem), HS w0 F0 w F1 [] /\ Uw F0 F1 /\ FI f [] [(2, (.bool ((decide (x0 >= 48)) && (decide (x0 <= 57)))))]) ?_ ?_
 ·refine Vs 3 ?_
  refine UB (decide (x0 >= 48)) (fun hb26 => ?_) (fun hb26 => ?_)
  ·refine Vgs hb26 2 ?_
   refine Pk1 hb26 <| Vs 1 ?_
   exact Us ⟨rfl, F0, hs0, (Ux _), (fJ ⟨(congrArg Value.bool (JH hb26 rfl)), trivial⟩)⟩
  ·refine Ss hb26 2 ?_
   refine Pk0 hb26 <| Vs 1 ?_
   exact Us ⟨rfl, F0, hs0, (Ux _), (fJ ⟨(congrArg Value.bool (KP hb26 rfl)), trivial⟩)⟩
 ·rintro f w21 ⟨F1, hs22, le23, ⟨_, rfl⟩⟩
  refine Ab <| Rt ?_
  obtain rfl := Aa h
  exact Re [(.bool ((decide (x0 >= 48)) && (decide (x0 <= 57))))] hs22 rfl
def BH (N : Nat) (x0 : Int) : Option Bool :=
 some ((decide (x0 >= 65)) && (decide (x0 <= 90)))
theorem Ei : Ag Tryz.prog 264 := fun _ _ => by kernel_rfl
theorem EO (N : Nat) (w0 : World) (F0 : Mem) (hF : US w0 F0) (x0 : Int) (r : Bool) (h : BH N x0 = some r) :
  Calls Tryz.prog 264 ([(.int .i32 x0)] : List Value).toArray w0 (AB w0 F0 fun F' v => v = (.bool r)) := by
 have hs0 := Uy hF
 refine Go 9 Tryz.func264 <| Sq (Rg [0] ?_)
 refine Vs 1 <| Nss (Rg (rG 7) ?_)
 refine UC (fun f w => ∃ (F1 : Mem), HS w0 F0 w F1 [] /\ Uw F0 F1 /\ FI f [] [(2, (.bool ((decide (x0 >= 65)) && (decide (x0 <= 90)))))]) ?_ ?_
 ·refine Vs 3 ?_
  refine UB (decide (x0 >= 65)) (fun hb26 => ?_) (fun hb26 => ?_)
  ·refine Vgs hb26 2 ?_
   refine Pk1 hb26 <| Vs 1 ?_
   exact Us ⟨rfl, F0, hs0, (Ux _), (fJ ⟨(congrArg Value.bool (JH hb26 rfl)), trivial⟩)⟩
  ·refine Ss hb26 2 ?_
   refine Pk0 hb26 <| Vs 1 ?_
   exact Us ⟨rfl, F0, hs0, (Ux _), (fJ ⟨(congrArg Value.bool (KP hb26 rfl)), trivial⟩)⟩
 ·rintro f w21 ⟨F1, hs22, le23, ⟨_, rfl⟩⟩
  refine Ab <| Rt ?_
  obtain rfl := Aa h
  exact Re [(.bool ((decide (x0 >= 65)) && (decide (x0 <= 90))))] hs22 rfl
def C7 (N : Nat) (x0 : Int) : Option Bool :=
 (((BH N x0).bind fun r29 => (bif r29 then some true else ((Bf N x0).bind fun r40 => some r40))).bind fun j24 => some j24)
theorem MG : Ag Tryz.prog 265 := fun _ _ => by kernel_rfl
theorem NU (N : Nat) (w0 : World) (F0 : Mem) (hF : US w0 F0) (x0 : Int) (r : Bool) (h : C7 N x0 = some r) :
  Calls Tryz.prog 265 ([(.int .i32 x0)] : List Value).toArray w0 (AB w0 F0 fun F' v => v = (.bool r)) := by
 have hs0 := Uy hF
 refine Go 9 Tryz.func265 <| Sq (Rg [0] ?_)
 refine Vs 1 <| Nss (Rg (rG 7) ?_)
 obtain ⟨j24, hj27, h28⟩ := bind_some h
 refine UC (fun f w => ∃ (F1 : Mem), HS w0 F0 w F1 [] /\ Uw F0 F1 /\ FI f [] [(2, (.bool j24))]) ?_ ?_
 ·refine Vs 1 ?_
  obtain ⟨r29, hr30, h31⟩ := bind_some hj27
  refine Cl' Ei hs0 (EO N w0 F0 hs0.pers x0 _ hr30) ?_
  rintro _ F2 w33 hs34 le35 rfl
  refine Vs 1 <| Sp h31 (fun hb37 h38 => ?_) (fun hb37 h39 => ?_)
  ·refine Ss hb37 2 ?_
   refine Pk1 hb37 <| Vs 1 ?_
   obtain rfl := Aa h38
   exact Us ⟨rfl, F2, hs34, le35, fI⟩
  ·refine Vgs hb37 1 ?_
   obtain ⟨r40, hr41, h42⟩ := bind_some h39
   refine Cg hb37 EM hs34 (Fw N w33 F2 hs34.pers x0 _ hr41) ?_
   rintro _ F3 w44 hs45 le46 rfl
   refine Pk0 hb37 <| Vs 1 ?_
   obtain rfl := Aa h42
   exact Us ⟨rfl, F3, hs45, (le35.t le46), fI⟩
 ·rintro f w21 ⟨F1, hs22, le23, ⟨_, rfl⟩⟩
  refine Ab <| Rt ?_
  obtain rfl := Aa h28
  exact Re [(.bool j24)] hs22 rfl
section
open Go.Proofs Go.RowKit Go.Sort Go.Lib
def Ez (p : Int -> Option Bool) (x : Nat) : Bool := (p (x : Int)).getD false
def N0 (p : Int -> Option Bool) : Prop := ∀ x : Nat, x <= 1114111 -> (p (x : Int)).isSome = true
def I9 (p : Int -> Option Bool) : Bool := (List.range 1114112).all fun x => (p (x : Int)).isSome
theorem G9 {p : Int -> Option Bool} : I9 p = true ↔ N0 p := by
 unfold I9 N0
 rw [List.all_eq_true]
 exact ⟨fun h x hx => h x (by rw [List.mem_range]; omega), fun h x hx => h x (by rw [List.mem_range] at hx; omega)⟩
theorem M0 {w : World} {F : Mem} (hF : ∀ b o, F b = some o -> w.heap[b]? = some o) {gq : FuncId} {k : List Value} {p : Int -> Option Bool} (h : KQ F gq [] k p) (ha : N0 p) : PredGrows Tryz.prog gq k.toArray (Ez p) w := by
 intro W x hx hb
 have hr := ha x hx
 obtain ⟨r, hr'⟩ := Option.isSome_iff_exists.1 hr
 have := h W F (x : Int) r (Ux F) (Below.pers hF hb) hr'
 have e : Ez p x = r := by unfold Ez; rw [hr']; rfl
 rw [e]
 have he : (#[encR x] ++ k.toArray : Array Value) = (([] : List Value) ++ (([.int .i32 (x : Int)] : List Value) ++ k)).toArray := by
  apply Array.ext'; simp [encR]
 rw [he]
 refine this.mono ?_
 rintro e w' ⟨v, F', rfl, hs, rfl⟩
 exact ⟨rfl, hs.fix.1, hs.fix.2.2, hs.fix.2.1, hs.size, hs.keep⟩
def B2 (_N : Nat) (x0 : UQ) (x1 : Int -> Option Bool) : Option Int :=
 if I9 x1 = true then some (Go.Lib.idxFunc (Ez x1) true ⟨x0.toArray⟩) else none
theorem Hw : Ag Tryz.prog 266 := fun _ _ => by kernel_rfl
theorem H8 (N : Nat) (w0 : World) (F0 : Mem) (hF : US w0 F0) (x0 : UQ) (gx1 : FuncId) (kx1 : List Value) (x1 : Int -> Option Bool) (hox1 : Ag Tryz.prog gx1) (hpx1 : KQ F0 gx1 [] kx1 x1) (r : Int) (h : B2 N x0 x1 = some r) :
  Calls Tryz.prog 266 ([(.string ⟨(x0).toArray⟩), (.func (.func gx1) ([] : List Value).toArray kx1.toArray)] : List Value).toArray w0 (AB w0 F0 fun _ v => v = (.int .i64 r)) := by
 unfold B2 at h
 split at h
 ·rename_i ha
  cases h
  exact UN hF (Tryz.strings_IndexFunc_grows gx1 kx1.toArray hox1 _ _ w0 (M0 hF hpx1 (G9.1 ha))) rfl
 ·cases h
def BS (_N : Nat) (x0 : UQ) (x1 : Int -> Option Bool) (x2 : Bool) : Option Int :=
 if I9 x1 = true /\ x0.length <= 9223372036854775807 then some (Go.Lib.lastIdxFunc (Ez x1) x2 ⟨x0.toArray⟩) else none
theorem Fy : Ag Tryz.prog 284 := fun _ _ => by kernel_rfl
theorem Gc (N : Nat) (w0 : World) (F0 : Mem) (hF : US w0 F0) (hG : Br F0) (x0 : UQ) (gx1 : FuncId) (kx1 : List Value) (x1 : Int -> Option Bool) (hox1 : Ag Tryz.prog gx1) (hpx1 : KQ F0 gx1 [] kx1 x1) (x2 : Bool) (r : Int) (h : BS N x0 x1 x2 = some r) :
  Calls Tryz.prog 284 ([(.string ⟨(x0).toArray⟩), (.func (.func gx1) ([] : List Value).toArray kx1.toArray), (.bool x2)] : List Value).toArray w0 (AB w0 F0 fun _ v => v = (.int .i64 r)) := by
 unfold BS at h
 split at h
 ·rename_i ha
  cases h
  exact UN hF (Tryz.strings_lastIndexFunc_grows gx1 kx1.toArray hox1 _ _ _ w0 (by simpa [ByteArray.size] using ha.2) (hG w0 hF).2.1 (M0 hF hpx1 (G9.1 ha.1))) rfl
 ·cases h
def Nh (s sep : UQ) : List UQ := (Go.Lib.splitB ⟨sep.toArray⟩ 0 (Go.Lib.countB ⟨s.toArray⟩ ⟨sep.toArray⟩) ⟨s.toArray⟩).map (·.data.toList)
def strings_Split (_N : Nat) (s sep : UQ) : Option (List UQ) := if s.length < 4294967281 /\ 1 <= sep.length then some (Nh s sep) else none
theorem Ch : Ag Tryz.prog 93 := fun _ _ => by kernel_rfl
theorem Cy (N : Nat) (w0 : World) (F0 : Mem) (hF : US w0 F0) (hG : Br F0) (x0 : UQ) (x1 : UQ) (r : List UQ) (h : strings_Split N x0 x1 = some r) :
  Calls Tryz.prog 93 ([(.string ⟨(x0).toArray⟩), (.string ⟨(x1).toArray⟩)] : List Value).toArray w0 (AB w0 F0 fun F' v => ∃ (aq0_0 : UR) (nq0_0 : Nat), v = (.slice aq0_0 r.length nq0_0) /\ LC r.length nq0_0 /\ SlA AF F' aq0_0 r) := by
 unfold strings_Split at h
 split at h
 ·rename_i ha
  cases h
  obtain ⟨m, hm⟩ := (hG w0 hF).2.2.1
  have hs : (⟨x0.toArray⟩ : ByteArray).size < 4294967281 := by simpa [ByteArray.size] using ha.1
  have h1 : 1 <= (⟨x1.toArray⟩ : ByteArray).size := by simpa [ByteArray.size] using ha.2
  have hle := Go.Lib.countB_le ⟨x1.toArray⟩ h1 _ ⟨x0.toArray⟩ (Nat.le_refl _)
  exact AB.strs hF (Tryz.strings_Split _ _ m w0 hs hm h1) (Go.Lib.splitB_all ⟨x1.toArray⟩ h1 0 _ _ rfl) (by omega)
 ·cases h
def strings_Cut (_N : Nat) (s sep : UQ) : Option (UQ × UQ × Bool) := if s.length < 4294967281 then some (Go.Lib.cut s sep) else none
theorem Hx : Ag Tryz.prog 164 := fun _ _ => by kernel_rfl
theorem Iw (N : Nat) (w0 : World) (F0 : Mem) (hF : US w0 F0) (hG : Br F0) (x0 : UQ) (x1 : UQ) (r : UQ × UQ × Bool) (h : strings_Cut N x0 x1 = some r) :
  Calls Tryz.prog 164 ([(.string ⟨(x0).toArray⟩), (.string ⟨(x1).toArray⟩)] : List Value).toArray w0 (AB w0 F0 fun _ v => v = (.tuple #[(.string ⟨(r.1).toArray⟩), (.string ⟨(r.2.1).toArray⟩), (.bool r.2.2)])) := by
 unfold strings_Cut at h
 split at h
 ·rename_i ha
  cases h
  obtain ⟨m, hm⟩ := (hG w0 hF).2.2.1
  refine UN hF ((Tryz.strings_Cut ⟨x0.toArray⟩ ⟨x1.toArray⟩ m w0 (by simpa [ByteArray.size] using ha) hm).mono ?_) rfl
  rintro e w' ⟨rfl, n, rfl⟩
  exact ⟨rfl, OM _ _⟩
 ·cases h
def strings_Repeat (_N : Nat) (s : UQ) (n : Int) : Option UQ := if 0 <= n /\ n <= 9223372036854775807 /\ s.length * n.toNat <= 140737488355328 then some (Go.Lib.repeatL s n.toNat) else none
theorem Jp : Ag Tryz.prog 186 := fun _ _ => by kernel_rfl
theorem Ko (N : Nat) (w0 : World) (F0 : Mem) (hF : US w0 F0) (x0 : UQ) (x1 : Int) (r : UQ) (h : strings_Repeat N x0 x1 = some r) :
  Calls Tryz.prog 186 ([(.string ⟨(x0).toArray⟩), (.int .i64 x1)] : List Value).toArray w0 (AB w0 F0 fun _ v => v = (.string ⟨(r).toArray⟩)) := by
 unfold strings_Repeat at h
 split at h
 ·rename_i ha
  cases h
  have e : (x1.toNat : Int) = x1 := by omega
  have := Tryz.strings_Repeat ⟨x0.toArray⟩ x1.toNat w0 (by omega) (by simpa [ByteArray.size] using ha.2.2)
  rw [e] at this
  exact UN hF this rfl
 ·cases h
def strings_Join (_N : Nat) (l : List UQ) (sep : UQ) : Option UQ := if l.length <= 140737488355328 /\ (Go.Lib.join l sep).length <= 140737488355328 then some (Go.Lib.join l sep) else none
theorem BZ : Ag Tryz.prog 84 := fun _ _ => by kernel_rfl
theorem Ck (N : Nat) (w0 : World) (F0 : Mem) (hF : US w0 F0) (x0 : (List UQ)) (a0_0 : UR) (n0_0 : Nat) (hb0_0 : LC x0.length n0_0) (hs0_0 : SlA AF F0 a0_0 x0) (x1 : UQ) (r : UQ) (h : strings_Join N x0 x1 = some r) :
  Calls Tryz.prog 84 ([(.slice a0_0 x0.length n0_0), (.string ⟨(x1).toArray⟩)] : List Value).toArray w0 (AB w0 F0 fun _ v => v = (.string ⟨(r).toArray⟩)) := by
 unfold strings_Join at h
 split at h
 ·rename_i ha
  cases h
  rcases hs0_0 with rfl | ⟨b, o, C, E, fz, rfl, hC, hx⟩
  ·refine UN hF ((Tryz.strings_Join_none a0_0 n0_0 ⟨x1.toArray⟩ w0).mono ?_) rfl
   rintro e w' ⟨rfl, rfl⟩
   exact ⟨rfl, Below.refl _ _⟩
  ·have hb := hF _ _ hC
   have hmap : (x0.map fun l => (⟨l.toArray⟩ : ByteArray)).map (·.data.toList) = x0 := by
    rw [List.map_map]; conv => rhs; rw [<- List.map_id x0]
    exact List.map_congr_left fun l _ => by simp
   have := Tryz.strings_Join b o n0_0 (x0.map fun l => ⟨l.toArray⟩) ⟨x1.toArray⟩ w0 (fun j x hj => by
    rw [List.getElem?_map] at hj
    cases hl : x0[j]? with
    | none => rw [hl] at hj; cases hj
    | some l =>
     rw [hl] at hj
     cases hj
     have hc : Ao C (o + j * 1) 1 = [.string ⟨l.toArray⟩] := hx j l hl
     rw [Nat.mul_one] at hc
     have := HD.1 hc
     simp [World.cell?, hb, this]) (A6 hb) (by simpa using ha.1) (by simpa using hb0_0.1) (by rw [hmap]; exact ha.2)
   rw [hmap, List.length_map] at this
   exact UN hF this rfl
 ·cases h
def strconv_Itoa (_N : Nat) (n : Int) : Option UQ := if -9223372036854775808 <= n /\ n <= 9223372036854775807 then some (Go.Lib.itoa n) else none
theorem Bm : Ag Tryz.prog 85 := fun _ _ => by kernel_rfl
theorem Bv (N : Nat) (w0 : World) (F0 : Mem) (hF : US w0 F0) (hG : Br F0) (x0 : Int) (r : UQ) (h : strconv_Itoa N x0 = some r) :
  Calls Tryz.prog 85 ([(.int .i64 x0)] : List Value).toArray w0 (AB w0 F0 fun _ v => v = (.string ⟨(r).toArray⟩)) := by
 unfold strconv_Itoa at h
 split at h
 ·rename_i ha
  cases h
  refine UN hF ((Tryz.strconv_Itoa x0 ha.1 ha.2 w0 (hG w0 hF).1).mono ?_) rfl
  rintro e w' ⟨rfl, k, os, rfl⟩
  exact ⟨rfl, rfl, rfl, rfl, by simp [grow, World.drewN], fun j hj => by
   show ((w0.drewN k).heap ++ os)[j]? = _
   rw [Array.getElem?_append_left (show j < (w0.drewN k).heap.size from hj)]; rfl⟩
 ·cases h
def BN (_N : Nat) (s : UQ) : Option (Int × Bool) := if s.length <= 281474976710656 then (match Go.Lib.atoiAll s with
 | .ok v => some (v, false)
 | .range => some (Go.Lib.atoiSat s, true)
 | _ => some (0, true)) else none
theorem GO : Ag Tryz.prog 163 := fun _ _ => by kernel_rfl
theorem HG (N : Nat) (w0 : World) (F0 : Mem) (hF : US w0 F0) (hG : Br F0) (x0 : UQ) (r : Int × Bool) (h : BN N x0 = some r) :
  Calls Tryz.prog 163 ([(.string ⟨(x0).toArray⟩)] : List Value).toArray w0 (AB w0 F0 fun _ v => ∃ (vq1_0 : Value), v = (.tuple #[(.int .i64 r.1), vq1_0]) /\ Uc r.2 vq1_0) := by
 unfold BN at h
 split at h
 ·rename_i ha
  have hsz : (⟨x0.toArray⟩ : ByteArray).size <= 281474976710656 := by simpa [ByteArray.size] using ha
  cases hv : Go.Lib.atoiAll x0 with
  | ok v =>
   rw [hv] at h
   cases h
   refine UN hF ((Tryz.strconv_Atoi_ok ⟨x0.toArray⟩ (by omega) v (by simpa using hv) w0).mono ?_) ⟨.nilIface, rfl, rfl⟩
   rintro e w' ⟨rfl, (rfl | ⟨t, rfl⟩)⟩
   ·exact ⟨rfl, Below.refl _ _⟩
   ·exact ⟨rfl, rfl, rfl, rfl, by rw [Go.Lib.bytesWorld_size]; omega, fun j hj => Go.Lib.bytesWorld_at_old w0 _ _ j hj⟩
  | range =>
   rw [hv] at h
   cases h
   obtain ⟨tp, p, hvar⟩ := (hG w0 hF).2.2.2.1
   refine (Tryz.strconv_Atoi_range_var ⟨x0.toArray⟩ hsz (by simpa using hv) tp p w0 hvar).mono ?_
   rintro e w' ⟨n, rfl, _, _, hb⟩
   exact ⟨_, F0, rfl, HS.below hF hb, _, rfl, _, _, rfl⟩
  | _ =>
   rw [hv] at h
   cases h
   obtain ⟨tp, p, hvar⟩ := (hG w0 hF).2.2.2.2
   refine (Tryz.strconv_Atoi_syntax_var ⟨x0.toArray⟩ hsz (by simpa using hv) tp p w0 hvar).mono ?_
   rintro e w' ⟨n, rfl, _, _, hb⟩
   exact ⟨_, F0, rfl, HS.below hF hb, _, rfl, _, _, rfl⟩
 ·cases h
def strings_Index (_N : Nat) (s sub : UQ) : Option Int := if s.length < 4294967281 then some (Go.Lib.index s sub) else none
theorem FZ : Ag Tryz.prog 98 := fun _ _ => by kernel_rfl
theorem GS (N : Nat) (w0 : World) (F0 : Mem) (hF : US w0 F0) (hG : Br F0) (x0 : UQ) (x1 : UQ) (r : Int) (h : strings_Index N x0 x1 = some r) :
  Calls Tryz.prog 98 ([(.string ⟨(x0).toArray⟩), (.string ⟨(x1).toArray⟩)] : List Value).toArray w0 (AB w0 F0 fun _ v => v = (.int .i64 r)) := by
 unfold strings_Index at h
 split at h
 ·rename_i ha
  cases h
  obtain ⟨m, hm⟩ := (hG w0 hF).2.2.1
  exact UN hF ((Tryz.strings_Index ⟨x0.toArray⟩ ⟨x1.toArray⟩ m w0 (by simpa [ByteArray.size] using ha) hm).mono fun e w' ⟨he, hw⟩ => ⟨he, hw ▸ Below.refl _ _⟩) rfl
 ·cases h
def strings_CutPrefix (_N : Nat) (s p : UQ) : Option (UQ × Bool) := some (Go.Lib.trimPrefix s p, Go.Lib.hasPrefix s p)
theorem AZ : Ag Tryz.prog 189 := fun _ _ => by kernel_rfl
theorem A5 (N : Nat) (w0 : World) (F0 : Mem) (hF : US w0 F0) (x0 : UQ) (x1 : UQ) (r : UQ × Bool) (h : strings_CutPrefix N x0 x1 = some r) :
  Calls Tryz.prog 189 ([(.string ⟨(x0).toArray⟩), (.string ⟨(x1).toArray⟩)] : List Value).toArray w0 (AB w0 F0 fun _ v => v = (.tuple #[(.string ⟨(r.1).toArray⟩), (.bool r.2)])) := by
 cases h
 exact UN hF ((Tryz.strings_CutPrefix ⟨x0.toArray⟩ ⟨x1.toArray⟩ w0).mono fun e w' ⟨he, hw⟩ => ⟨he, hw ▸ Below.refl _ _⟩) rfl
def strings_TrimSuffix (_N : Nat) (s p : UQ) : Option UQ := if s.length <= 9223372036854775807 then some (Go.Lib.trimSuffix s p) else none
theorem GX : Ag Tryz.prog 117 := fun _ _ => by kernel_rfl
theorem HF (N : Nat) (w0 : World) (F0 : Mem) (hF : US w0 F0) (x0 : UQ) (x1 : UQ) (r : UQ) (h : strings_TrimSuffix N x0 x1 = some r) :
  Calls Tryz.prog 117 ([(.string ⟨(x0).toArray⟩), (.string ⟨(x1).toArray⟩)] : List Value).toArray w0 (AB w0 F0 fun _ v => v = (.string ⟨(r).toArray⟩)) := by
 unfold strings_TrimSuffix at h
 split at h
 ·rename_i ha
  cases h
  exact UN hF ((Tryz.strings_TrimSuffix ⟨x0.toArray⟩ ⟨x1.toArray⟩ w0 (by simpa [ByteArray.size] using ha)).mono fun e w' ⟨he, hw⟩ => ⟨he, hw ▸ Below.refl _ _⟩) rfl
 ·cases h
end
def Ey (N : Nat) (x0 : UQ) : Option Bool :=
 (((Ew N x0 4 (fun y0 => C7 N y0)).bind fun r29 => (bif r29 then ((B2 N x0 (fun y0 => BH N y0)).bind fun r40 => some (decide (r40 >= 0))) else some false)).bind fun j24 => some j24)
theorem HC : Ag Tryz.prog 225 := fun _ _ => by kernel_rfl
theorem IX (N : Nat) (w0 : World) (F0 : Mem) (hF : US w0 F0) (x0 : UQ) (r : Bool) (h : Ey N x0 = some r) :
  Calls Tryz.prog 225 ([(sv x0)] : List Value).toArray w0 (AB w0 F0 fun F' v => v = (.bool r)) := by
 have hs0 := Uy hF
 refine Go 10 Tryz.func225 <| Sq (Rg [0] ?_)
 refine Vs 1 <| Nss (Rg (rG 8) ?_)
 obtain ⟨j24, hj27, h28⟩ := bind_some h
 refine UC (fun f w => ∃ (F1 : Mem), HS w0 F0 w F1 [] /\ Uw F0 F1 /\ FI f [] [(2, (.bool j24))]) ?_ ?_
 ·refine Vs 1 ?_
  obtain ⟨r29, hr30, h31⟩ := bind_some hj27
  refine Cl' Et hs0 (E0 N w0 F0 hs0.pers x0 4 265 [] [] (fun y0 => C7 N y0) MG (fun w1 F1 y0 r le1 pe1 hr1 => NU N w1 F1 pe1  y0  r hr1) _ hr30) ?_
  rintro _ F2 w33 hs34 le35 rfl
  refine Vs 1 <| Sp h31 (fun hb37 h38 => ?_) (fun hb37 h39 => ?_)
  ·refine Vgs hb37 1 ?_
   obtain ⟨r40, hr41, h42⟩ := bind_some h38
   refine Cg hb37 Hw hs34 (H8 N w33 F2 hs34.pers x0 264 [] (fun y0 => BH N y0) Ei (fun w1 F1 y0 r le1 pe1 hr1 => EO N w1 F1 pe1  y0  r hr1) _ hr41) ?_
   rintro _ F3 w44 hs45 le46 rfl
   refine Vgs hb37 1 <| Pk1 hb37 <| Vs 1 ?_
   obtain rfl := Aa h42
   exact Us ⟨rfl, F3, hs45, (le35.t le46), fI⟩
  ·refine Ss hb37 3 ?_
   refine Pk0 hb37 <| Vs 1 ?_
   obtain rfl := Aa h39
   exact Us ⟨rfl, F2, hs34, le35, fI⟩
 ·rintro f w21 ⟨F1, hs22, le23, ⟨_, rfl⟩⟩
  refine Ab <| Rt ?_
  obtain rfl := Aa h28
  exact Re [(.bool j24)] hs22 rfl
def BE (N : Nat) (x0 : UQ) (x1 : (Int -> Option Bool)) : Option Int :=
 ((BS N x0 x1 true).bind fun r21 => some r21)
theorem Fz : Ag Tryz.prog 263 := fun _ _ => by kernel_rfl
theorem Gd (N : Nat) (w0 : World) (F0 : Mem) (hF : US w0 F0) (hG : Br F0) (x0 : UQ) (gx1 : FuncId) (kx1 : List Value) (x1 : Int -> Option Bool) (hox1 : Ag Tryz.prog gx1) (hpx1 : KQ F0 gx1 [] kx1 x1) (r : Int) (h : BE N x0 x1 = some r) :
  Calls Tryz.prog 263 ([(sv x0), (.func (.func gx1) ([] : List Value).toArray kx1.toArray)] : List Value).toArray w0 (AB w0 F0 fun F' v => v = (vi r)) := by
 have hs0 := Uy hF
 refine Go 8 Tryz.func263 <| Sq (Rg [0] ?_)
 refine Vs 1 <| Nss (Rg (rG 4) ?_)
 refine Vs 2 ?_
 obtain ⟨r21, hr22, h23⟩ := bind_some h
 refine Cl' Fy hs0 (Gc N w0 F0 hs0.pers hG x0 gx1 kx1 x1 hox1 (fun w1 F1 y0 r le1 pe1 hr1 => hpx1 w1 F1 y0 r le1 pe1 hr1) true _ hr22) ?_
 rintro _ F1 w25 hs26 le27 rfl
 refine Vs 1 <| Nt <| Rt ?_
 obtain rfl := Aa h23
 exact Re [(vi r21)] hs26 rfl
def JJ (N : Nat) (x0 : UQ) : Option (UQ × UQ × Bool) :=
 ((BE N x0 (fun y0 => Bf N y0)).bind fun r21 => (((JK x0 0 (W64 (r21 + 1))).bind fun r41 => ((JK x0 (W64 (r21 + 1)) (x0.length : Int)).bind fun r44 => some (r41, r44))).bind fun j34 => ((bif (decide ((W64 (r21 + 1)) > 0)) then ((Ey N j34.1).bind fun r60 => (bif r60 then ((Ew N j34.2 4 (fun y0 => BH N y0)).bind fun r71 => some r71) else some false)) else some false).bind fun j50 => some (j34.1, j34.2, j50))))
theorem OI : Ag Tryz.prog 222 := fun _ _ => by kernel_rfl
theorem Pw (N : Nat) (w0 : World) (F0 : Mem) (hF : US w0 F0) (hG : Br F0) (x0 : UQ) (r : (UQ × UQ × Bool)) (h : JJ N x0 = some r) :
  Calls Tryz.prog 222 ([(sv x0)] : List Value).toArray w0 (AB w0 F0 fun F' v => v = (.tuple #[(sv r.1), (sv r.2.1), (.bool r.2.2)])) := by
 have hs0 := Uy hF
 refine Go 27 Tryz.func222 <| Sq (Rg [0, 1, 2] ?_)
 refine Vs 3 <| Nss (Rg (rG 4) ?_)
 refine Vs 1 ?_
 obtain ⟨r21, hr22, h23⟩ := bind_some h
 refine Cl' Fz hs0 (Gd N w0 F0 hs0.pers hG x0 199 [] (fun y0 => Bf N y0) EM (fun w1 F1 y0 r le1 pe1 hr1 => Fw N w1 F1 pe1  y0  r hr1) _ hr22) ?_
 rintro _ F1 w25 hs26 le27 rfl
 refine Vs 2 <| Nss ?_
 obtain ⟨j34, hj39, h40⟩ := bind_some h23
 refine RD 8 8 [] [] hs26 (fun f w => ∃ (F2 : Mem), HS w0 F0 w F2 [] /\ Uw F1 F2 /\ FI f [] [(2, (sv j34.1)), (3, (sv j34.2)), (5, (vi (W64 (r21 + 1))))]) (fun wd29 hw30 => ?_) ?_
 ·refine Dv [0, 1] ?_
  obtain ⟨r41, hr42, h43⟩ := bind_some hj39
  refine Dt 2 11 9 (sv r41) (fun _ hq => FH (t := 9) (x := (.tmp 9)) (lo := none) (hi := (some (.tmp 10))) (a := x0) (il := 0) (ih := (W64 (r21 + 1))) (v := r41) rfl (by kernel_rfl) rfl rfl hr42) <| Dv [3, 4] ?_
  obtain ⟨r44, hr45, h46⟩ := bind_some h43
  refine Dt 5 14 9 (sv r44) (fun _ hq => FH (t := 9) (x := (.tmp 12)) (lo := (some (.tmp 13))) (hi := none) (a := x0) (il := (W64 (r21 + 1))) (ih := (x0.length : Int)) (v := r44) rfl (by kernel_rfl) rfl rfl hr45) <| Dv [6, 7] ?_
  obtain rfl := Aa h46
  exact UJ (by kernel_rfl) ⟨F1, hw30, (Ux _), fI⟩
 ·rintro f w31 ⟨F2, hs32, le33, ⟨_, rfl⟩⟩
  refine Ab <| Sq (Rg (rG 15) ?_)
  obtain ⟨j50, hj55, h56⟩ := bind_some h40
  refine UC (fun f w => ∃ (F3 : Mem), HS w0 F0 w F3 [] /\ Uw F2 F3 /\ FI f [] [(2, (sv j34.1)), (3, (sv j34.2)), (4, (.bool j50))]) ?_ ?_
  ·refine Vs 5 ?_
   refine Sp hj55 (fun hb57 h58 => ?_) (fun hb57 h59 => ?_)
   ·refine Vgs hb57 1 ?_
    obtain ⟨r60, hr61, h62⟩ := bind_some h58
    refine Cg hb57 HC hs32 (IX N w31 F2 hs32.pers j34.1 _ hr61) ?_
    rintro _ F4 w64 hs65 le66 rfl
    refine Pk1 hb57 <| Vs 1 <| Sp h62 (fun hb68 h69 => ?_) (fun hb68 h70 => ?_)
    ·refine Vgs hb68 1 ?_
     obtain ⟨r71, hr72, h73⟩ := bind_some h69
     refine Cg hb68 Et hs65 (E0 N w64 F4 hs65.pers j34.2 4 264 [] [] (fun y0 => BH N y0) Ei (fun w1 F1 y0 r le1 pe1 hr1 => EO N w1 F1 pe1  y0  r hr1) _ hr72) ?_
     rintro _ F5 w75 hs76 le77 rfl
     refine Pk1 hb68 <| Vs 3 ?_
     obtain rfl := Aa h73
     exact Us ⟨rfl, F5, hs76, (le66.t le77), fI⟩
    ·refine Ss hb68 2 ?_
     refine Pk0 hb68 <| Vs 3 ?_
     obtain rfl := Aa h70
     exact Us ⟨rfl, F4, hs65, le66, fI⟩
   ·refine Ss hb57 2 ?_
    refine Pk0 hb57 <| Vs 1 <| Ss (rfl : false = false) 2 <| Pk0 (rfl : false = false) <| Vs 3 ?_
    obtain rfl := Aa h59
    exact Us ⟨rfl, F2, hs32, (Ux _), fI⟩
  ·rintro f w47 ⟨F3, hs48, le49, ⟨_, rfl⟩⟩
   refine Ab <| Rt ?_
   obtain rfl := Aa h56
   exact Re [(sv j34.1), (sv j34.2), (.bool j50)] hs48 rfl
def Ay (N : Nat) (x0 : UQ) : Option (Bd × Bool) :=
 ((JJ N x0).bind fun r24 => some (({ Area := ([] : UQ), Prefix := r24.1, Suffix := r24.2.1, Stroke := ([] : UQ) } : Bd), r24.2.2))
theorem DY : Ag Tryz.prog 221 := fun _ _ => by kernel_rfl
theorem Ek (N : Nat) (w0 : World) (F0 : Mem) (hF : US w0 F0) (hG : Br F0) (x0 : UQ) (r : (Bd × Bool)) (h : Ay N x0 = some r) :
  Calls Tryz.prog 221 ([(sv x0)] : List Value).toArray w0 (AB w0 F0 fun F' v => v = (.tuple #[(.agg (Cv r.1)), (.bool r.2)])) := by
 have hs0 := Uy hF
 refine Go 17 Tryz.func221 <| Sq (Rg [0, 1] ?_)
 refine Al' 186 #[(sv (([] : UQ))), (sv (([] : UQ))), (sv (([] : UQ))), (sv (([] : UQ)))] hs0 (fun b21 w22 hs23 => ?_)
 refine Vs 1 <| Nss (Rg (rG 9) ?_)
 refine Vs 1 ?_
 obtain ⟨r24, hr25, h26⟩ := bind_some h
 refine Cl' OI hs23 (Pw N w22 F0 hs23.pers hG x0 _ hr25) ?_
 rintro _ F1 w28 hs29 le30 rfl
 refine Vs 7 <| Nss (Rg (rG 6) ?_)
 refine Vs 4 <| St0 #[(sv (([] : UQ))), (sv r24.1), (sv r24.2.1), (sv (([] : UQ)))] hs29 (fun w32 hs33 => ?_)
 refine Vs 1 <| Nt <| Rt ?_
 obtain rfl := Aa h26
 exact ⟨rfl, (.tuple #[(.agg #[(sv (([] : UQ))), (sv r24.1), (sv r24.2.1), (sv (([] : UQ)))]), (.bool r24.2.2)]), AR (l := [.cell 2 186, .tmp 3]) (by kernel_rfl) (vs := [(.agg #[(sv (([] : UQ))), (sv r24.1), (sv r24.2.1), (sv (([] : UQ)))]), (.bool r24.2.2)]) ⟨b21, 0, rfl, Am (t := 186) (g := true) (s := 4) (by kernel_rfl) hs33.at0 rfl (by decide), ⟨rfl, trivial⟩⟩, (.tuple #[(.agg #[(sv (([] : UQ))), (sv r24.1), (sv r24.2.1), (sv (([] : UQ)))]), (.bool r24.2.2)]), F1, rfl, hs33.clear, rfl⟩
def C6 (N : Nat) (x0 : (List UQ)) (z0 : (UQ -> Option (Bd × Bool))) : Option (Bd × Bool) :=
 (((idx x0 0).bind fun x35 => ((z0 x35).bind fun r49 => some (r49.2, r49.1.Area, r49.1.Prefix, r49.1.Suffix, r49.1.Stroke))).bind fun j29 => some (({ Area := j29.2.1, Prefix := j29.2.2.1, Suffix := j29.2.2.2.1, Stroke := j29.2.2.2.2 } : Bd), j29.1))
theorem Mh : Ag Tryz.prog 223 := fun _ _ => by kernel_rfl
theorem MP (N : Nat) (w0 : World) (F0 : Mem) (hF : US w0 F0) (x0 : (List UQ)) (a0_0 : UR) (n0_0 : Nat) (hb0_0 : LC x0.length n0_0) (hs0_0 : SlA AF F0 a0_0 x0) (bz0 : Nat) (z0 : (UQ -> Option (Bd × Bool))) (gz0_0 : FuncId) (fz0_0 : List Value) (kz0_0 : List Value) (hoz0_0 : Ag Tryz.prog gz0_0) (hpz0_0 : HM F0 gz0_0 fz0_0 kz0_0 z0) (hz0 : F0 bz0 = some (oc #[(.func (.func gz0_0) fz0_0.toArray kz0_0.toArray)] 188)) (r : (Bd × Bool)) (h : C6 N x0 z0 = some r) :
  Calls Tryz.prog 223 ([(.slice a0_0 x0.length n0_0), (pt bz0 0)] : List Value).toArray w0 (AB w0 F0 fun F' v => v = (.tuple #[(.agg (Cv r.1)), (.bool r.2)])) := by
 have hs0 := Uy hF
 refine Go 12 Tryz.func223 <| Sq (Rg [0, 1] ?_)
 refine Al' 186 #[(sv (([] : UQ))), (sv (([] : UQ))), (sv (([] : UQ))), (sv (([] : UQ)))] hs0 (fun b21 w22 hs23 => ?_)
 refine Vs 1 <| Nss ?_
 obtain ⟨j29, hj33, h34⟩ := bind_some h
 refine RD 9 9 [] [] hs23 (fun f w => ∃ (F1 : Mem), HS w0 F0 w F1 [(sb b21 #[(sv j29.2.1), (sv j29.2.2.1), (sv j29.2.2.2.1), (sv j29.2.2.2.2)] 186)] /\ Uw F0 F1 /\ FI f [] [(3, (pt b21 0)), (4, (.bool j29.1))]) (fun wd24 hw25 => ?_) ?_
 ·refine Dl 0 (fun _ hq => (hq.1.1 _ _ hz0)) ?_
  refine Dv [1] ?_
  obtain ⟨x35, hx36, h38⟩ := bind_some hj33
  obtain ⟨hi37, hx36'⟩ := As hx36
  obtain ⟨b39, o40, C41, E42, fz43, rfl, hF45, hE46⟩ := UE hs0_0 hx36'
  have hc48 := hE46 _ _ hx36'
  refine Di 2 hi37 <| Dx 3 0 (fun _ hq => hq.1.1 _ _ hF45) hc48 <| D1 4 ?_
  obtain ⟨r49, hr50, h51⟩ := bind_some h38
  refine UI (l' := [true, true, true, true, true, false, false, false, false]) (zd := true) (by kernel_rfl) (by kernel_rfl) (by kernel_rfl) (dst := (some 9)) (ty := 187) (g := none) (by kernel_rfl) rfl (f0 := (.tmp 5)) (aos := #[(.tmp 8)]) (ats := #[9]) (fid := gz0_0) (first := fz0_0.toArray) (cap := kz0_0.toArray) (args := (fz0_0 ++ (([(sv x35)] : List Value) ++ kz0_0))) rfl hoz0_0 (DL (l := [(sv x35)]) (fi := fz0_0) (k := kz0_0) rfl) hw25 (hpz0_0 wd24 F0 x35 _ (Ux _) hw25.pers hr50) ?_
  rintro _ F2 w53 hs54 le55 rfl
  refine Dv [5, 6] <| D1 7 <| FG (Cv r49.1) hs54 le55 (fun w57 hs58 => ?_)
  refine Dv [8] ?_
  obtain rfl := Aa h51
  exact UJ (by kernel_rfl) ⟨F2, hs58, le55, fI⟩
 ·rintro f w26 ⟨F1, hs27, le28, ⟨_, rfl⟩⟩
  refine Ab <| Rt ?_
  obtain rfl := Aa h34
  exact ⟨rfl, (.tuple #[(.agg #[(sv j29.2.1), (sv j29.2.2.1), (sv j29.2.2.2.1), (sv j29.2.2.2.2)]), (.bool j29.1)]), AR (l := [.cell 3 186, .tmp 4]) (by kernel_rfl) (vs := [(.agg #[(sv j29.2.1), (sv j29.2.2.1), (sv j29.2.2.2.1), (sv j29.2.2.2.2)]), (.bool j29.1)]) ⟨b21, 0, rfl, Am (t := 186) (g := true) (s := 4) (by kernel_rfl) hs27.at0 rfl (by decide), ⟨rfl, trivial⟩⟩, (.tuple #[(.agg #[(sv j29.2.1), (sv j29.2.2.1), (sv j29.2.2.2.1), (sv j29.2.2.2.2)]), (.bool j29.1)]), F1, rfl, hs27.clear, rfl⟩
def C5 (N : Nat) (x0 : (List UQ)) (z0 : (UQ -> Option (Bd × Bool))) : Option (Bd × Bool) :=
 (((idx x0 1).bind fun x38 => ((z0 x38).bind fun r52 => some (r52.2, r52.1.Area, r52.1.Prefix, r52.1.Suffix, r52.1.Stroke))).bind fun j30 => ((idx x0 0).bind fun x78 => ((bif j30.1 then ((idx x0 0).bind fun x108 => ((Ey N x108).bind fun r114 => (bif r114 then ((idx x0 0).bind fun x125 => ((idx x0 1).bind fun x131 => some ((decide ((x125.length : Int) < (x131.length : Int))), x78, j30.2.2.1, j30.2.2.2.1, j30.2.2.2.2))) else some (false, x78, j30.2.2.1, j30.2.2.2.1, j30.2.2.2.2)))) else some (false, x78, j30.2.2.1, j30.2.2.2.1, j30.2.2.2.2)).bind fun j99 => some (({ Area := j99.2.1, Prefix := j99.2.2.1, Suffix := j99.2.2.2.1, Stroke := j99.2.2.2.2 } : Bd), j99.1))))
theorem Mg : Ag Tryz.prog 224 := fun _ _ => by kernel_rfl
theorem MO (N : Nat) (w0 : World) (F0 : Mem) (hF : US w0 F0) (x0 : (List UQ)) (a0_0 : UR) (n0_0 : Nat) (hb0_0 : LC x0.length n0_0) (hs0_0 : SlA AF F0 a0_0 x0) (bz0 : Nat) (z0 : (UQ -> Option (Bd × Bool))) (gz0_0 : FuncId) (fz0_0 : List Value) (kz0_0 : List Value) (hoz0_0 : Ag Tryz.prog gz0_0) (hpz0_0 : HM F0 gz0_0 fz0_0 kz0_0 z0) (hz0 : F0 bz0 = some (oc #[(.func (.func gz0_0) fz0_0.toArray kz0_0.toArray)] 188)) (r : (Bd × Bool)) (h : C5 N x0 z0 = some r) :
  Calls Tryz.prog 224 ([(.slice a0_0 x0.length n0_0), (pt bz0 0)] : List Value).toArray w0 (AB w0 F0 fun F' v => v = (.tuple #[(.agg (Cv r.1)), (.bool r.2)])) := by
 have hs0 := Uy hF
 refine Go 38 Tryz.func224 <| Sq (Rg [0, 1] ?_)
 refine Al' 186 #[(sv (([] : UQ))), (sv (([] : UQ))), (sv (([] : UQ))), (sv (([] : UQ)))] hs0 (fun b21 w22 hs23 => ?_)
 refine Vs 1 <| Nss ?_
 obtain ⟨j30, hj36, h37⟩ := bind_some h
 refine RD 11 11 [(sb b21 #[(sv (([] : UQ))), (sv (([] : UQ))), (sv (([] : UQ))), (sv (([] : UQ)))] 186)] [] hs23 (fun f w => ∃ (F1 : Mem) (b29 : Nat), HS w0 F0 w F1 [(sb b29 #[(sv j30.2.1), (sv j30.2.2.1), (sv j30.2.2.2.1), (sv j30.2.2.2.2)] 186), (sb b21 #[(sv (([] : UQ))), (sv (([] : UQ))), (sv (([] : UQ))), (sv (([] : UQ)))] 186)] /\ Uw F0 F1 /\ FI f [] [(0, (.slice a0_0 x0.length n0_0)), (3, (pt b21 0)), (5, (pt b29 0)), (6, (.bool j30.1))]) (fun wd24 hw25 => ?_) ?_
 ·refine Dl 0 (fun _ hq => (hq.1.1 _ _ hz0)) ?_
  refine Dv [1] ?_
  obtain ⟨x38, hx39, h41⟩ := bind_some hj36
  obtain ⟨hi40, hx39'⟩ := As hx39
  obtain ⟨b42, o43, C44, E45, fz46, rfl, hF48, hE49⟩ := UE hs0_0 hx39'
  have hc51 := hE49 _ _ hx39'
  refine Di 2 hi40 <| Dx 3 0 (fun _ hq => hq.1.1 _ _ hF48) hc51 <| UF (i := 4) (j := 8) (by kernel_rfl) ?_ ?_
  ·obtain ⟨r52, hr53, h54⟩ := bind_some h41
   refine UI (l' := [true, true, true, true, true, false, false, false, false, false, false]) (zd := true) (by kernel_rfl) (by kernel_rfl) (by kernel_rfl) (dst := (some 12)) (ty := 187) (g := none) (by kernel_rfl) rfl (f0 := (.tmp 8)) (aos := #[(.tmp 11)]) (ats := #[9]) (fid := gz0_0) (first := fz0_0.toArray) (cap := kz0_0.toArray) (args := (fz0_0 ++ (([(sv x38)] : List Value) ++ kz0_0))) rfl hoz0_0 (DL (l := [(sv x38)]) (fi := fz0_0) (k := kz0_0) rfl) hw25 (hpz0_0 wd24 F0 x38 _ (Ux _) hw25.pers hr53) ?_
   rintro _ F2 w56 hs57 le58 rfl
   refine Dv [5, 6, 7] <| D1 8 <| DAl 186 #[(sv (([] : UQ))), (sv (([] : UQ))), (sv (([] : UQ))), (sv (([] : UQ)))] hs57 le58 (fun b60 w61 hs62 => ?_)
   refine D1 9 <| FG (Cv r52.1) hs62 le58 (fun w63 hs64 => ?_)
   refine Dv [10] ?_
   obtain rfl := Aa h54
   exact UJ (by kernel_rfl) ⟨F2, b60, hs64, le58, fI⟩
  ·refine DAl 186 #[(sv (([] : UQ))), (sv (([] : UQ))), (sv (([] : UQ))), (sv (([] : UQ)))] hw25 (Ux _) (fun b65 w66 hs67 => ?_)
   refine D1 4 ?_
   obtain ⟨r68, hr69, h70⟩ := bind_some h41
   refine UI (l' := [true, true, true, true, true, false, false, false, true, false, false]) (zd := true) (by kernel_rfl) (by kernel_rfl) (by kernel_rfl) (dst := (some 12)) (ty := 187) (g := none) (by kernel_rfl) rfl (f0 := (.tmp 8)) (aos := #[(.tmp 11)]) (ats := #[9]) (fid := gz0_0) (first := fz0_0.toArray) (cap := kz0_0.toArray) (args := (fz0_0 ++ (([(sv x38)] : List Value) ++ kz0_0))) rfl hoz0_0 (DL (l := [(sv x38)]) (fi := fz0_0) (k := kz0_0) rfl) hs67 (hpz0_0 w66 F0 x38 _ (Ux _) hs67.pers hr69) ?_
   rintro _ F3 w72 hs73 le74 rfl
   refine Dv [5, 6, 7] <| D1 9 <| FG (Cv r68.1) hs73 le74 (fun w76 hs77 => ?_)
   refine Dv [10] ?_
   obtain rfl := Aa h70
   exact UJ (by kernel_rfl) ⟨F3, b65, hs77, le74, fI⟩
 ·rintro f w26 ⟨F1, b29, hs27, le28, ⟨_, rfl⟩⟩
  refine Ab <| Sq (Rg (rG 5) ?_)
  refine Vs 1 ?_
  obtain ⟨x78, hx79, h81⟩ := bind_some h37
  obtain ⟨hi80, hx79'⟩ := As hx79
  obtain ⟨b82, o83, C84, E85, fz86, rfl, hF88, hE89⟩ := UE (Uz hs0_0 le28) hx79'
  have hc91 := hE89 _ _ hx79'
  refine Ix hi80 <| Lx 0 (hs27.pers _ _ hF88) hc91 <| Vs 1 <| St0 #[(sv x78), (sv j30.2.2.1), (sv j30.2.2.2.1), (sv j30.2.2.2.2)] hs27 (fun w92 hs93 => ?_)
  refine Nss ?_
  obtain ⟨j99, hj103, h104⟩ := bind_some h81
  refine RD 21 21 [(sb b29 #[(sv x78), (sv j30.2.2.1), (sv j30.2.2.2.1), (sv j30.2.2.2.2)] 186)] [] hs93 (fun f w => ∃ (F4 : Mem), HS w0 F0 w F4 [(sb b21 #[(sv j99.2.1), (sv j99.2.2.1), (sv j99.2.2.2.1), (sv j99.2.2.2.2)] 186)] /\ Uw F1 F4 /\ FI f [] [(3, (pt b21 0)), (4, (.bool j99.1))]) (fun wd94 hw95 => ?_) ?_
  ·refine Dl 0 (fun _ hq => (hq.1.2 0 _ _ rfl)) ?_
   refine Dvl [1, 2] (tf 3 18) <| Sd hj103 (fun hb105 h106 => ?_) (fun hb105 h107 => ?_)
   ·refine Dgl 3 22 55 _ (tf 4 17) 2 true 21 hb105 (fun _ hq => mv 0 (.slice (some ⟨b82, o83, none⟩) x0.length n0_0)) ?_
    obtain ⟨x108, hx109, h111⟩ := bind_some h106
    obtain ⟨hi110, hx109'⟩ := As hx109
    have hc113 := hE89 _ _ hx109'
    refine Dgl 4 23 0 (.pointer (some ⟨b82, (o83 + (0 : Int).toNat * 1), none⟩)) (tf 5 16) 2 true 21 hb105 (fun _ hq => Ce (t := 55) (x := (.tmp 22)) (y := (.const (vi 0))) (b := b82) (o := o83) (E := 9) (s := 1) (by_ := 16) rfl rfl (by kernel_rfl) hi110) <| Dgl 5 24 9 _ (tf 6 15) 2 true 21 hb105 (fun _ hq => lx 9 23 0 1 false 1 (sv x108) (hq.1.1 _ _ hF88) hc113) <| D1 6 ?_
    obtain ⟨r114, hr115, h116⟩ := bind_some h111
    refine UI (l' := [true, true, true, true, true, true, true, false, false, false, false, false, false, false, false, false, false, false, false, false, false]) (zd := true) (by kernel_rfl) (by kernel_rfl) (by kernel_rfl) (dst := (some 25)) (ty := 4) (g := (some (2, true))) (by kernel_rfl) (Ho (d := 21) (by kernel_rfl) rfl hb105) (f0 := (.func 225)) (aos := #[(.tmp 24)]) (ats := #[9]) (fid := 225) (first := #[]) (cap := #[]) (args := [(sv x108)]) rfl HC rfl hw95 (IX N wd94 F1 hw95.pers x108 _ hr115) ?_
    rintro _ F5 w118 hs119 le120 rfl
    refine Dtl 7 26 4 _ (tf 8 13) (fun _ hq => p1 21 (.tmp 25) (.const (.bool false)) (.bool r114) hb105) <| Dvl [8] (tf 9 12) <| Sd h116 (fun hb122 h123 => ?_) (fun hb122 h124 => ?_)
    ·refine Dgl 9 28 55 _ (tf 10 11) 8 true 27 hb122 (fun _ hq => mv 0 (.slice (some ⟨b82, o83, none⟩) x0.length n0_0)) ?_
     obtain ⟨x125, hx126, h128⟩ := bind_some h123
     obtain ⟨hi127, hx126'⟩ := As hx126
     have hc130 := hE89 _ _ hx126'
     refine Dgl 10 29 0 (.pointer (some ⟨b82, (o83 + (0 : Int).toNat * 1), none⟩)) (tf 11 10) 8 true 27 hb122 (fun _ hq => Ce (t := 55) (x := (.tmp 28)) (y := (.const (vi 0))) (b := b82) (o := o83) (E := 9) (s := 1) (by_ := 16) rfl rfl (by kernel_rfl) hi127) <| Dgl 11 30 9 _ (tf 12 9) 8 true 27 hb122 (fun _ hq => lx 9 29 0 1 false 1 (sv x125) (hq.1.1 _ _ hF88) hc130) <| Dgl 12 31 3 (vi (x125.length : Int)) (tf 13 8) 8 true 27 hb122 (fun _ hq => LH (x := (.tmp 30)) (ats := #[9]) (t := 9) (a := x125) rfl rfl (by kernel_rfl)) <| Dgl 13 32 55 _ (tf 14 7) 8 true 27 hb122 (fun _ hq => mv 0 (.slice (some ⟨b82, o83, none⟩) x0.length n0_0)) ?_
     obtain ⟨x131, hx132, h134⟩ := bind_some h128
     obtain ⟨hi133, hx132'⟩ := As hx132
     have hc136 := hE89 _ _ hx132'
     refine Dgl 14 33 0 (.pointer (some ⟨b82, (o83 + (1 : Int).toNat * 1), none⟩)) (tf 15 6) 8 true 27 hb122 (fun _ hq => Ce (t := 55) (x := (.tmp 32)) (y := (.const (vi 1))) (b := b82) (o := o83) (E := 9) (s := 1) (by_ := 16) rfl rfl (by kernel_rfl) hi133) <| Dgl 15 34 9 _ (tf 16 5) 8 true 27 hb122 (fun _ hq => lx 9 33 0 1 false 1 (sv x131) (hq.1.1 _ _ hF88) hc136) <| Dgl 16 35 3 (vi (x131.length : Int)) (tf 17 4) 8 true 27 hb122 (fun _ hq => LH (x := (.tmp 34)) (ats := #[9]) (t := 9) (a := x131) rfl rfl (by kernel_rfl)) <| Dgl 17 36 4 (.bool (decide ((x125.length : Int) < (x131.length : Int)))) (tf 18 3) 8 true 27 hb122 (fun _ hq => Lb (t := 3) (t' := 3) (x := (.tmp 31)) (y := (.tmp 35)) (k := .i64) (a := (x125.length : Int)) (b := (x131.length : Int)) rfl rfl) <| Dtl 18 37 4 _ (tf 19 2) (fun _ hq => p1 27 (.tmp 36) (.const (.bool false)) (.bool (decide ((x125.length : Int) < (x131.length : Int)))) hb122) <| D1 19 <| K9 #[(sv x78), (sv j30.2.2.1), (sv j30.2.2.2.1), (sv j30.2.2.2.2)] hs119 le120 (fun w137 hs138 => ?_)
     refine Dvl [20] (tf 21 0) ?_
     obtain rfl := Aa h134
     exact UJ (by kernel_rfl) ⟨F5, hs138.dr0, le120, fI⟩
    ·refine Dkl [(9, 28), (10, 29), (11, 30), (12, 31), (13, 32), (14, 33)] 8 true 27 hb122 (tf 15 6) ?_
     refine Dkl [(15, 34), (16, 35), (17, 36)] 8 true 27 hb122 (tf 18 3) <| Dtl 18 37 4 _ (tf 19 2) (fun _ hq => p0 27 (.tmp 36) (.const (.bool false)) (.bool false) hb122) <| D1 19 <| K9 #[(sv x78), (sv j30.2.2.1), (sv j30.2.2.2.1), (sv j30.2.2.2.2)] hs119 le120 (fun w139 hs140 => ?_)
     refine Dvl [20] (tf 21 0) ?_
     obtain rfl := Aa h124
     exact UJ (by kernel_rfl) ⟨F5, hs140.dr0, le120, fI⟩
   ·refine Dkl [(3, 22), (4, 23), (5, 24), (6, 25)] 2 true 21 hb105 (tf 7 14) ?_
    refine Dtl 7 26 4 _ (tf 8 13) (fun _ hq => p0 21 (.tmp 25) (.const (.bool false)) (.bool false) hb105) <| Dvl [8] (tf 9 12) <| Dkl [(9, 28), (10, 29), (11, 30), (12, 31), (13, 32), (14, 33)] 8 true 27 rfl (tf 15 6) <| Dkl [(15, 34), (16, 35), (17, 36)] 8 true 27 rfl (tf 18 3) <| Dtl 18 37 4 _ (tf 19 2) (fun _ hq => p0 27 (.tmp 36) (.const (.bool false)) (.bool false) rfl) <| D1 19 <| K9 #[(sv x78), (sv j30.2.2.1), (sv j30.2.2.2.1), (sv j30.2.2.2.2)] hw95 (Ux _) (fun w141 hs142 => ?_)
    refine Dvl [20] (tf 21 0) ?_
    obtain rfl := Aa h107
    exact UJ (by kernel_rfl) ⟨F1, hs142.dr0, (Ux _), fI⟩
  ·rintro f w96 ⟨F4, hs97, le98, ⟨_, rfl⟩⟩
   refine Ab <| Rt ?_
   obtain rfl := Aa h104
   exact ⟨rfl, (.tuple #[(.agg #[(sv j99.2.1), (sv j99.2.2.1), (sv j99.2.2.2.1), (sv j99.2.2.2.2)]), (.bool j99.1)]), AR (l := [.cell 3 186, .tmp 4]) (by kernel_rfl) (vs := [(.agg #[(sv j99.2.1), (sv j99.2.2.1), (sv j99.2.2.2.1), (sv j99.2.2.2.2)]), (.bool j99.1)]) ⟨b21, 0, rfl, Am (t := 186) (g := true) (s := 4) (by kernel_rfl) hs97.at0 rfl (by decide), ⟨rfl, trivial⟩⟩, (.tuple #[(.agg #[(sv j99.2.1), (sv j99.2.2.1), (sv j99.2.2.2.1), (sv j99.2.2.2.2)]), (.bool j99.1)]), F4, rfl, hs97.clear, rfl⟩
def DJ (N : Nat) (x0 : UQ) : Option Bool :=
 (((Ew N x0 4 (fun y0 => BH N y0)).bind fun r29 => (bif r29 then some true else ((Ew N x0 1 (fun y0 => Bf N y0)).bind fun r40 => some r40))).bind fun j24 => some j24)
theorem Iv : Ag Tryz.prog 227 := fun _ _ => by kernel_rfl
theorem JF (N : Nat) (w0 : World) (F0 : Mem) (hF : US w0 F0) (x0 : UQ) (r : Bool) (h : DJ N x0 = some r) :
  Calls Tryz.prog 227 ([(sv x0)] : List Value).toArray w0 (AB w0 F0 fun F' v => v = (.bool r)) := by
 have hs0 := Uy hF
 refine Go 9 Tryz.func227 <| Sq (Rg [0] ?_)
 refine Vs 1 <| Nss (Rg (rG 7) ?_)
 obtain ⟨j24, hj27, h28⟩ := bind_some h
 refine UC (fun f w => ∃ (F1 : Mem), HS w0 F0 w F1 [] /\ Uw F0 F1 /\ FI f [] [(2, (.bool j24))]) ?_ ?_
 ·refine Vs 1 ?_
  obtain ⟨r29, hr30, h31⟩ := bind_some hj27
  refine Cl' Et hs0 (E0 N w0 F0 hs0.pers x0 4 264 [] [] (fun y0 => BH N y0) Ei (fun w1 F1 y0 r le1 pe1 hr1 => EO N w1 F1 pe1  y0  r hr1) _ hr30) ?_
  rintro _ F2 w33 hs34 le35 rfl
  refine Vs 1 <| Sp h31 (fun hb37 h38 => ?_) (fun hb37 h39 => ?_)
  ·refine Ss hb37 2 ?_
   refine Pk1 hb37 <| Vs 1 ?_
   obtain rfl := Aa h38
   exact Us ⟨rfl, F2, hs34, le35, fI⟩
  ·refine Vgs hb37 1 ?_
   obtain ⟨r40, hr41, h42⟩ := bind_some h39
   refine Cg hb37 Et hs34 (E0 N w33 F2 hs34.pers x0 1 199 [] [] (fun y0 => Bf N y0) EM (fun w1 F1 y0 r le1 pe1 hr1 => Fw N w1 F1 pe1  y0  r hr1) _ hr41) ?_
   rintro _ F3 w44 hs45 le46 rfl
   refine Pk0 hb37 <| Vs 1 ?_
   obtain rfl := Aa h42
   exact Us ⟨rfl, F3, hs45, (le35.t le46), fI⟩
 ·rintro f w21 ⟨F1, hs22, le23, ⟨_, rfl⟩⟩
  refine Ab <| Rt ?_
  obtain rfl := Aa h28
  exact Re [(.bool j24)] hs22 rfl
def C4 (N : Nat) (x0 : (List UQ)) (z0 : (UQ -> Option (Bd × Bool))) : Option (Bd × Bool) :=
 (((idx x0 0).bind fun x38 => ((z0 x38).bind fun r52 => some (r52.2, r52.1.Area, r52.1.Prefix, r52.1.Suffix, r52.1.Stroke))).bind fun j30 => ((idx x0 1).bind fun x78 => ((bif j30.1 then ((idx x0 1).bind fun x108 => ((DJ N x108).bind fun r114 => some (r114, j30.2.1, j30.2.2.1, j30.2.2.2.1, x78))) else some (false, j30.2.1, j30.2.2.1, j30.2.2.2.1, x78)).bind fun j99 => some (({ Area := j99.2.1, Prefix := j99.2.2.1, Suffix := j99.2.2.2.1, Stroke := j99.2.2.2.2 } : Bd), j99.1))))
theorem Mf : Ag Tryz.prog 226 := fun _ _ => by kernel_rfl
theorem MN (N : Nat) (w0 : World) (F0 : Mem) (hF : US w0 F0) (x0 : (List UQ)) (a0_0 : UR) (n0_0 : Nat) (hb0_0 : LC x0.length n0_0) (hs0_0 : SlA AF F0 a0_0 x0) (bz0 : Nat) (z0 : (UQ -> Option (Bd × Bool))) (gz0_0 : FuncId) (fz0_0 : List Value) (kz0_0 : List Value) (hoz0_0 : Ag Tryz.prog gz0_0) (hpz0_0 : HM F0 gz0_0 fz0_0 kz0_0 z0) (hz0 : F0 bz0 = some (oc #[(.func (.func gz0_0) fz0_0.toArray kz0_0.toArray)] 188)) (r : (Bd × Bool)) (h : C4 N x0 z0 = some r) :
  Calls Tryz.prog 226 ([(.slice a0_0 x0.length n0_0), (pt bz0 0)] : List Value).toArray w0 (AB w0 F0 fun F' v => v = (.tuple #[(.agg (Cv r.1)), (.bool r.2)])) := by
 have hs0 := Uy hF
 refine Go 27 Tryz.func226 <| Sq (Rg [0, 1] ?_)
 refine Al' 186 #[(sv (([] : UQ))), (sv (([] : UQ))), (sv (([] : UQ))), (sv (([] : UQ)))] hs0 (fun b21 w22 hs23 => ?_)
 refine Vs 1 <| Nss ?_
 obtain ⟨j30, hj36, h37⟩ := bind_some h
 refine RD 11 11 [(sb b21 #[(sv (([] : UQ))), (sv (([] : UQ))), (sv (([] : UQ))), (sv (([] : UQ)))] 186)] [] hs23 (fun f w => ∃ (F1 : Mem) (b29 : Nat), HS w0 F0 w F1 [(sb b29 #[(sv j30.2.1), (sv j30.2.2.1), (sv j30.2.2.2.1), (sv j30.2.2.2.2)] 186), (sb b21 #[(sv (([] : UQ))), (sv (([] : UQ))), (sv (([] : UQ))), (sv (([] : UQ)))] 186)] /\ Uw F0 F1 /\ FI f [] [(0, (.slice a0_0 x0.length n0_0)), (3, (pt b21 0)), (5, (pt b29 0)), (6, (.bool j30.1))]) (fun wd24 hw25 => ?_) ?_
 ·refine Dl 0 (fun _ hq => (hq.1.1 _ _ hz0)) ?_
  refine Dv [1] ?_
  obtain ⟨x38, hx39, h41⟩ := bind_some hj36
  obtain ⟨hi40, hx39'⟩ := As hx39
  obtain ⟨b42, o43, C44, E45, fz46, rfl, hF48, hE49⟩ := UE hs0_0 hx39'
  have hc51 := hE49 _ _ hx39'
  refine Di 2 hi40 <| Dx 3 0 (fun _ hq => hq.1.1 _ _ hF48) hc51 <| UF (i := 4) (j := 8) (by kernel_rfl) ?_ ?_
  ·obtain ⟨r52, hr53, h54⟩ := bind_some h41
   refine UI (l' := [true, true, true, true, true, false, false, false, false, false, false]) (zd := true) (by kernel_rfl) (by kernel_rfl) (by kernel_rfl) (dst := (some 12)) (ty := 187) (g := none) (by kernel_rfl) rfl (f0 := (.tmp 8)) (aos := #[(.tmp 11)]) (ats := #[9]) (fid := gz0_0) (first := fz0_0.toArray) (cap := kz0_0.toArray) (args := (fz0_0 ++ (([(sv x38)] : List Value) ++ kz0_0))) rfl hoz0_0 (DL (l := [(sv x38)]) (fi := fz0_0) (k := kz0_0) rfl) hw25 (hpz0_0 wd24 F0 x38 _ (Ux _) hw25.pers hr53) ?_
   rintro _ F2 w56 hs57 le58 rfl
   refine Dv [5, 6, 7] <| D1 8 <| DAl 186 #[(sv (([] : UQ))), (sv (([] : UQ))), (sv (([] : UQ))), (sv (([] : UQ)))] hs57 le58 (fun b60 w61 hs62 => ?_)
   refine D1 9 <| FG (Cv r52.1) hs62 le58 (fun w63 hs64 => ?_)
   refine Dv [10] ?_
   obtain rfl := Aa h54
   exact UJ (by kernel_rfl) ⟨F2, b60, hs64, le58, fI⟩
  ·refine DAl 186 #[(sv (([] : UQ))), (sv (([] : UQ))), (sv (([] : UQ))), (sv (([] : UQ)))] hw25 (Ux _) (fun b65 w66 hs67 => ?_)
   refine D1 4 ?_
   obtain ⟨r68, hr69, h70⟩ := bind_some h41
   refine UI (l' := [true, true, true, true, true, false, false, false, true, false, false]) (zd := true) (by kernel_rfl) (by kernel_rfl) (by kernel_rfl) (dst := (some 12)) (ty := 187) (g := none) (by kernel_rfl) rfl (f0 := (.tmp 8)) (aos := #[(.tmp 11)]) (ats := #[9]) (fid := gz0_0) (first := fz0_0.toArray) (cap := kz0_0.toArray) (args := (fz0_0 ++ (([(sv x38)] : List Value) ++ kz0_0))) rfl hoz0_0 (DL (l := [(sv x38)]) (fi := fz0_0) (k := kz0_0) rfl) hs67 (hpz0_0 w66 F0 x38 _ (Ux _) hs67.pers hr69) ?_
   rintro _ F3 w72 hs73 le74 rfl
   refine Dv [5, 6, 7] <| D1 9 <| FG (Cv r68.1) hs73 le74 (fun w76 hs77 => ?_)
   refine Dv [10] ?_
   obtain rfl := Aa h70
   exact UJ (by kernel_rfl) ⟨F3, b65, hs77, le74, fI⟩
 ·rintro f w26 ⟨F1, b29, hs27, le28, ⟨_, rfl⟩⟩
  refine Ab <| Sq (Rg (rG 5) ?_)
  refine Vs 1 ?_
  obtain ⟨x78, hx79, h81⟩ := bind_some h37
  obtain ⟨hi80, hx79'⟩ := As hx79
  obtain ⟨b82, o83, C84, E85, fz86, rfl, hF88, hE89⟩ := UE (Uz hs0_0 le28) hx79'
  have hc91 := hE89 _ _ hx79'
  refine Ix hi80 <| Lx 0 (hs27.pers _ _ hF88) hc91 <| Vs 1 <| St0 #[(sv j30.2.1), (sv j30.2.2.1), (sv j30.2.2.2.1), (sv x78)] hs27 (fun w92 hs93 => ?_)
  refine Nss ?_
  obtain ⟨j99, hj103, h104⟩ := bind_some h81
  refine RD 10 10 [(sb b29 #[(sv j30.2.1), (sv j30.2.2.1), (sv j30.2.2.2.1), (sv x78)] 186)] [] hs93 (fun f w => ∃ (F4 : Mem), HS w0 F0 w F4 [(sb b21 #[(sv j99.2.1), (sv j99.2.2.1), (sv j99.2.2.2.1), (sv j99.2.2.2.2)] 186)] /\ Uw F1 F4 /\ FI f [] [(3, (pt b21 0)), (4, (.bool j99.1))]) (fun wd94 hw95 => ?_) ?_
  ·refine Dl 0 (fun _ hq => (hq.1.2 0 _ _ rfl)) ?_
   refine Dv [1, 2] <| Sd hj103 (fun hb105 h106 => ?_) (fun hb105 h107 => ?_)
   ·refine Dg 3 22 55 _ 2 true 21 hb105 (fun _ hq => mv 0 (.slice (some ⟨b82, o83, none⟩) x0.length n0_0)) ?_
    obtain ⟨x108, hx109, h111⟩ := bind_some h106
    obtain ⟨hi110, hx109'⟩ := As hx109
    have hc113 := hE89 _ _ hx109'
    refine Dg 4 23 0 (.pointer (some ⟨b82, (o83 + (1 : Int).toNat * 1), none⟩)) 2 true 21 hb105 (fun _ hq => Ce (t := 55) (x := (.tmp 22)) (y := (.const (vi 1))) (b := b82) (o := o83) (E := 9) (s := 1) (by_ := 16) rfl rfl (by kernel_rfl) hi110) <| Dg 5 24 9 _ 2 true 21 hb105 (fun _ hq => lx 9 23 0 1 false 1 (sv x108) (hq.1.1 _ _ hF88) hc113) <| D1 6 ?_
    obtain ⟨r114, hr115, h116⟩ := bind_some h111
    refine UI (l' := [true, true, true, true, true, true, true, false, false, false]) (zd := true) (by kernel_rfl) (by kernel_rfl) (by kernel_rfl) (dst := (some 25)) (ty := 4) (g := (some (2, true))) (by kernel_rfl) (Ho (d := 21) (by kernel_rfl) rfl hb105) (f0 := (.func 227)) (aos := #[(.tmp 24)]) (ats := #[9]) (fid := 227) (first := #[]) (cap := #[]) (args := [(sv x108)]) rfl Iv rfl hw95 (JF N wd94 F1 hw95.pers x108 _ hr115) ?_
    rintro _ F5 w118 hs119 le120 rfl
    refine Dt 7 26 4 _ (fun _ hq => p1 21 (.tmp 25) (.const (.bool false)) (.bool r114) hb105) <| D1 8 <| K9 #[(sv j30.2.1), (sv j30.2.2.1), (sv j30.2.2.2.1), (sv x78)] hs119 le120 (fun w122 hs123 => ?_)
    refine Dv [9] ?_
    obtain rfl := Aa h116
    exact UJ (by kernel_rfl) ⟨F5, hs123.dr0, le120, fI⟩
   ·refine Dk [(3, 22), (4, 23), (5, 24), (6, 25)] 2 true 21 hb105 ?_
    refine Dt 7 26 4 _ (fun _ hq => p0 21 (.tmp 25) (.const (.bool false)) (.bool false) hb105) <| D1 8 <| K9 #[(sv j30.2.1), (sv j30.2.2.1), (sv j30.2.2.2.1), (sv x78)] hw95 (Ux _) (fun w124 hs125 => ?_)
    refine Dv [9] ?_
    obtain rfl := Aa h107
    exact UJ (by kernel_rfl) ⟨F1, hs125.dr0, (Ux _), fI⟩
  ·rintro f w96 ⟨F4, hs97, le98, ⟨_, rfl⟩⟩
   refine Ab <| Rt ?_
   obtain rfl := Aa h104
   exact ⟨rfl, (.tuple #[(.agg #[(sv j99.2.1), (sv j99.2.2.1), (sv j99.2.2.2.1), (sv j99.2.2.2.2)]), (.bool j99.1)]), AR (l := [.cell 3 186, .tmp 4]) (by kernel_rfl) (vs := [(.agg #[(sv j99.2.1), (sv j99.2.2.1), (sv j99.2.2.2.1), (sv j99.2.2.2.2)]), (.bool j99.1)]) ⟨b21, 0, rfl, Am (t := 186) (g := true) (s := 4) (by kernel_rfl) hs97.at0 rfl (by decide), ⟨rfl, trivial⟩⟩, (.tuple #[(.agg #[(sv j99.2.1), (sv j99.2.2.1), (sv j99.2.2.2.1), (sv j99.2.2.2.2)]), (.bool j99.1)]), F4, rfl, hs97.clear, rfl⟩
def C3 (N : Nat) (x0 : (List UQ)) (z0 : (UQ -> Option (Bd × Bool))) : Option (Bd × Bool) :=
 (((idx x0 1).bind fun x38 => ((z0 x38).bind fun r52 => some (r52.2, r52.1.Area, r52.1.Prefix, r52.1.Suffix, r52.1.Stroke))).bind fun j30 => (((idx x0 0).bind fun x91 => ((idx x0 2).bind fun x105 => some (x91, x105))).bind fun j83 => ((bif j30.1 then ((idx x0 0).bind fun x129 => ((Ey N x129).bind fun r143 => (bif r143 then ((idx x0 2).bind fun x154 => ((DJ N x154).bind fun r160 => some (r160, j83.1, j30.2.2.1, j30.2.2.2.1, j83.2))) else some (false, j83.1, j30.2.2.1, j30.2.2.2.1, j83.2)))) else some (false, j83.1, j30.2.2.1, j30.2.2.2.1, j83.2)).bind fun j120 => some (({ Area := j120.2.1, Prefix := j120.2.2.1, Suffix := j120.2.2.2.1, Stroke := j120.2.2.2.2 } : Bd), j120.1))))
theorem Me : Ag Tryz.prog 228 := fun _ _ => by kernel_rfl
theorem MM (N : Nat) (w0 : World) (F0 : Mem) (hF : US w0 F0) (x0 : (List UQ)) (a0_0 : UR) (n0_0 : Nat) (hb0_0 : LC x0.length n0_0) (hs0_0 : SlA AF F0 a0_0 x0) (bz0 : Nat) (z0 : (UQ -> Option (Bd × Bool))) (gz0_0 : FuncId) (fz0_0 : List Value) (kz0_0 : List Value) (hoz0_0 : Ag Tryz.prog gz0_0) (hpz0_0 : HM F0 gz0_0 fz0_0 kz0_0 z0) (hz0 : F0 bz0 = some (oc #[(.func (.func gz0_0) fz0_0.toArray kz0_0.toArray)] 188)) (r : (Bd × Bool)) (h : C3 N x0 z0 = some r) :
  Calls Tryz.prog 228 ([(.slice a0_0 x0.length n0_0), (pt bz0 0)] : List Value).toArray w0 (AB w0 F0 fun F' v => v = (.tuple #[(.agg (Cv r.1)), (.bool r.2)])) := by
 have hs0 := Uy hF
 refine Go 37 Tryz.func228 <| Sq (Rg [0, 1] ?_)
 refine Al' 186 #[(sv (([] : UQ))), (sv (([] : UQ))), (sv (([] : UQ))), (sv (([] : UQ)))] hs0 (fun b21 w22 hs23 => ?_)
 refine Vs 1 <| Nss ?_
 obtain ⟨j30, hj36, h37⟩ := bind_some h
 refine RD 11 11 [(sb b21 #[(sv (([] : UQ))), (sv (([] : UQ))), (sv (([] : UQ))), (sv (([] : UQ)))] 186)] [] hs23 (fun f w => ∃ (F1 : Mem) (b29 : Nat), HS w0 F0 w F1 [(sb b29 #[(sv j30.2.1), (sv j30.2.2.1), (sv j30.2.2.2.1), (sv j30.2.2.2.2)] 186), (sb b21 #[(sv (([] : UQ))), (sv (([] : UQ))), (sv (([] : UQ))), (sv (([] : UQ)))] 186)] /\ Uw F0 F1 /\ FI f [] [(0, (.slice a0_0 x0.length n0_0)), (3, (pt b21 0)), (5, (pt b29 0)), (6, (.bool j30.1))]) (fun wd24 hw25 => ?_) ?_
 ·refine Dl 0 (fun _ hq => (hq.1.1 _ _ hz0)) ?_
  refine Dv [1] ?_
  obtain ⟨x38, hx39, h41⟩ := bind_some hj36
  obtain ⟨hi40, hx39'⟩ := As hx39
  obtain ⟨b42, o43, C44, E45, fz46, rfl, hF48, hE49⟩ := UE hs0_0 hx39'
  have hc51 := hE49 _ _ hx39'
  refine Di 2 hi40 <| Dx 3 0 (fun _ hq => hq.1.1 _ _ hF48) hc51 <| UF (i := 4) (j := 8) (by kernel_rfl) ?_ ?_
  ·obtain ⟨r52, hr53, h54⟩ := bind_some h41
   refine UI (l' := [true, true, true, true, true, false, false, false, false, false, false]) (zd := true) (by kernel_rfl) (by kernel_rfl) (by kernel_rfl) (dst := (some 12)) (ty := 187) (g := none) (by kernel_rfl) rfl (f0 := (.tmp 8)) (aos := #[(.tmp 11)]) (ats := #[9]) (fid := gz0_0) (first := fz0_0.toArray) (cap := kz0_0.toArray) (args := (fz0_0 ++ (([(sv x38)] : List Value) ++ kz0_0))) rfl hoz0_0 (DL (l := [(sv x38)]) (fi := fz0_0) (k := kz0_0) rfl) hw25 (hpz0_0 wd24 F0 x38 _ (Ux _) hw25.pers hr53) ?_
   rintro _ F2 w56 hs57 le58 rfl
   refine Dv [5, 6, 7] <| D1 8 <| DAl 186 #[(sv (([] : UQ))), (sv (([] : UQ))), (sv (([] : UQ))), (sv (([] : UQ)))] hs57 le58 (fun b60 w61 hs62 => ?_)
   refine D1 9 <| FG (Cv r52.1) hs62 le58 (fun w63 hs64 => ?_)
   refine Dv [10] ?_
   obtain rfl := Aa h54
   exact UJ (by kernel_rfl) ⟨F2, b60, hs64, le58, fI⟩
  ·refine DAl 186 #[(sv (([] : UQ))), (sv (([] : UQ))), (sv (([] : UQ))), (sv (([] : UQ)))] hw25 (Ux _) (fun b65 w66 hs67 => ?_)
   refine D1 4 ?_
   obtain ⟨r68, hr69, h70⟩ := bind_some h41
   refine UI (l' := [true, true, true, true, true, false, false, false, true, false, false]) (zd := true) (by kernel_rfl) (by kernel_rfl) (by kernel_rfl) (dst := (some 12)) (ty := 187) (g := none) (by kernel_rfl) rfl (f0 := (.tmp 8)) (aos := #[(.tmp 11)]) (ats := #[9]) (fid := gz0_0) (first := fz0_0.toArray) (cap := kz0_0.toArray) (args := (fz0_0 ++ (([(sv x38)] : List Value) ++ kz0_0))) rfl hoz0_0 (DL (l := [(sv x38)]) (fi := fz0_0) (k := kz0_0) rfl) hs67 (hpz0_0 w66 F0 x38 _ (Ux _) hs67.pers hr69) ?_
   rintro _ F3 w72 hs73 le74 rfl
   refine Dv [5, 6, 7] <| D1 9 <| FG (Cv r68.1) hs73 le74 (fun w76 hs77 => ?_)
   refine Dv [10] ?_
   obtain rfl := Aa h70
   exact UJ (by kernel_rfl) ⟨F3, b65, hs77, le74, fI⟩
 ·rintro f w26 ⟨F1, b29, hs27, le28, ⟨_, rfl⟩⟩
  refine Ab <| Sq ?_
  obtain ⟨j83, hj89, h90⟩ := bind_some h37
  refine RD 9 10 [(sb b21 #[(sv (([] : UQ))), (sv (([] : UQ))), (sv (([] : UQ))), (sv (([] : UQ)))] 186)] [] hs27 (fun f w => ∃ (F4 : Mem), HS w0 F0 w F4 [(sb b29 #[(sv j83.1), (sv j30.2.2.1), (sv j30.2.2.2.1), (sv j83.2)] 186), (sb b21 #[(sv (([] : UQ))), (sv (([] : UQ))), (sv (([] : UQ))), (sv (([] : UQ)))] 186)] /\ Uw F1 F4 /\ FI f [] [(0, (.slice a0_0 x0.length n0_0)), (3, (pt b21 0)), (5, (pt b29 0)), (6, (.bool j30.1))]) (fun wd78 hw79 => ?_) ?_
  ·refine Dv [0] ?_
   obtain ⟨x91, hx92, h94⟩ := bind_some hj89
   obtain ⟨hi93, hx92'⟩ := As hx92
   obtain ⟨b95, o96, C97, E98, fz99, rfl, hF101, hE102⟩ := UE (Uz hs0_0 le28) hx92'
   have hc104 := hE102 _ _ hx92'
   refine Di 1 hi93 <| Dx 2 0 (fun _ hq => hq.1.1 _ _ hF101) hc104 <| Dv [3] ?_
   obtain ⟨x105, hx106, h108⟩ := bind_some h94
   obtain ⟨hi107, hx106'⟩ := As hx106
   have hc110 := hE102 _ _ hx106'
   refine Di 4 hi107 <| Dx 5 0 (fun _ hq => hq.1.1 _ _ hF101) hc110 <| Dv [6] <| D1 7 <| FG #[(sv x91), (sv j30.2.2.1), (sv j30.2.2.2.1), (sv j30.2.2.2.2)] hw79 (Ux _) (fun w111 hs112 => ?_)
   refine Dv [8] <| D1 9 <| FG #[(sv x91), (sv j30.2.2.1), (sv j30.2.2.2.1), (sv x105)] hs112 (Ux _) (fun w113 hs114 => ?_)
   obtain rfl := Aa h108
   exact UJ (by kernel_rfl) ⟨F1, hs114, (Ux _), fI⟩
  ·rintro f w80 ⟨F4, hs81, le82, ⟨_, rfl⟩⟩
   refine Ab <| Sq ?_
   obtain ⟨j120, hj124, h125⟩ := bind_some h90
   refine RD 16 16 [(sb b29 #[(sv j83.1), (sv j30.2.2.1), (sv j30.2.2.2.1), (sv j83.2)] 186)] [] hs81 (fun f w => ∃ (F5 : Mem), HS w0 F0 w F5 [(sb b21 #[(sv j120.2.1), (sv j120.2.2.1), (sv j120.2.2.2.1), (sv j120.2.2.2.2)] 186)] /\ Uw F4 F5 /\ FI f [] [(3, (pt b21 0)), (4, (.bool j120.1))]) (fun wd115 hw116 => ?_) ?_
   ·refine Dl 0 (fun _ hq => (hq.1.2 0 _ _ rfl)) ?_
    refine Dv [1, 2] <| Sd hj124 (fun hb126 h127 => ?_) (fun hb126 h128 => ?_)
    ·refine Dg 3 26 55 _ 2 true 25 hb126 (fun _ hq => mv 0 (.slice a0_0 x0.length n0_0)) ?_
     obtain ⟨x129, hx130, h132⟩ := bind_some h127
     obtain ⟨hi131, hx130'⟩ := As hx130
     obtain ⟨b133, o134, C135, E136, fz137, rfl, hF139, hE140⟩ := UE (Uz hs0_0 (le28.t le82)) hx130'
     have hc142 := hE140 _ _ hx130'
     refine Dg 4 27 0 (.pointer (some ⟨b133, (o134 + (0 : Int).toNat * 1), none⟩)) 2 true 25 hb126 (fun _ hq => Ce (t := 55) (x := (.tmp 26)) (y := (.const (vi 0))) (b := b133) (o := o134) (E := 9) (s := 1) (by_ := 16) rfl rfl (by kernel_rfl) hi131) <| Dg 5 28 9 _ 2 true 25 hb126 (fun _ hq => lx 9 27 0 1 false 1 (sv x129) (hq.1.1 _ _ hF139) hc142) <| D1 6 ?_
     obtain ⟨r143, hr144, h145⟩ := bind_some h132
     refine UI (l' := [true, true, true, true, true, true, true, false, false, false, false, false, false, false, false, false]) (zd := true) (by kernel_rfl) (by kernel_rfl) (by kernel_rfl) (dst := (some 29)) (ty := 4) (g := (some (2, true))) (by kernel_rfl) (Ho (d := 25) (by kernel_rfl) rfl hb126) (f0 := (.func 225)) (aos := #[(.tmp 28)]) (ats := #[9]) (fid := 225) (first := #[]) (cap := #[]) (args := [(sv x129)]) rfl HC rfl hw116 (IX N wd115 F4 hw116.pers x129 _ hr144) ?_
     rintro _ F6 w147 hs148 le149 rfl
     refine Dt 7 30 4 _ (fun _ hq => p1 25 (.tmp 29) (.const (.bool false)) (.bool r143) hb126) <| Dv [8] <| Sd h145 (fun hb151 h152 => ?_) (fun hb151 h153 => ?_)
     ·refine Dg 9 32 55 _ 8 true 31 hb151 (fun _ hq => mv 0 (.slice (some ⟨b133, o134, none⟩) x0.length n0_0)) ?_
      obtain ⟨x154, hx155, h157⟩ := bind_some h152
      obtain ⟨hi156, hx155'⟩ := As hx155
      have hc159 := hE140 _ _ hx155'
      refine Dg 10 33 0 (.pointer (some ⟨b133, (o134 + (2 : Int).toNat * 1), none⟩)) 8 true 31 hb151 (fun _ hq => Ce (t := 55) (x := (.tmp 32)) (y := (.const (vi 2))) (b := b133) (o := o134) (E := 9) (s := 1) (by_ := 16) rfl rfl (by kernel_rfl) hi156) <| Dg 11 34 9 _ 8 true 31 hb151 (fun _ hq => lx 9 33 0 1 false 1 (sv x154) (hq.1.1 _ _ hF139) hc159) <| D1 12 ?_
      obtain ⟨r160, hr161, h162⟩ := bind_some h157
      refine UI (l' := [true, true, true, true, true, true, true, true, true, true, true, true, true, false, false, false]) (zd := true) (by kernel_rfl) (by kernel_rfl) (by kernel_rfl) (dst := (some 35)) (ty := 4) (g := (some (8, true))) (by kernel_rfl) (Ho (d := 31) (by kernel_rfl) rfl hb151) (f0 := (.func 227)) (aos := #[(.tmp 34)]) (ats := #[9]) (fid := 227) (first := #[]) (cap := #[]) (args := [(sv x154)]) rfl Iv rfl hs148 (JF N w147 F6 hs148.pers x154 _ hr161) ?_
      rintro _ F7 w164 hs165 le166 rfl
      refine Dt 13 36 4 _ (fun _ hq => p1 31 (.tmp 35) (.const (.bool false)) (.bool r160) hb151) <| D1 14 <| K9 #[(sv j83.1), (sv j30.2.2.1), (sv j30.2.2.2.1), (sv j83.2)] hs165 (le149.t le166) (fun w168 hs169 => ?_)
      refine Dv [15] ?_
      obtain rfl := Aa h162
      exact UJ (by kernel_rfl) ⟨F7, hs169.dr0, (le149.t le166), fI⟩
     ·refine Dk [(9, 32), (10, 33), (11, 34), (12, 35)] 8 true 31 hb151 ?_
      refine Dt 13 36 4 _ (fun _ hq => p0 31 (.tmp 35) (.const (.bool false)) (.bool false) hb151) <| D1 14 <| K9 #[(sv j83.1), (sv j30.2.2.1), (sv j30.2.2.2.1), (sv j83.2)] hs148 le149 (fun w170 hs171 => ?_)
      refine Dv [15] ?_
      obtain rfl := Aa h153
      exact UJ (by kernel_rfl) ⟨F6, hs171.dr0, le149, fI⟩
    ·refine Dk [(3, 26), (4, 27), (5, 28), (6, 29)] 2 true 25 hb126 ?_
     refine Dt 7 30 4 _ (fun _ hq => p0 25 (.tmp 29) (.const (.bool false)) (.bool false) hb126) <| Dv [8] <| Dk [(9, 32), (10, 33), (11, 34), (12, 35)] 8 true 31 rfl <| Dt 13 36 4 _ (fun _ hq => p0 31 (.tmp 35) (.const (.bool false)) (.bool false) rfl) <| D1 14 <| K9 #[(sv j83.1), (sv j30.2.2.1), (sv j30.2.2.2.1), (sv j83.2)] hw116 (Ux _) (fun w172 hs173 => ?_)
     refine Dv [15] ?_
     obtain rfl := Aa h128
     exact UJ (by kernel_rfl) ⟨F4, hs173.dr0, (Ux _), fI⟩
   ·rintro f w117 ⟨F5, hs118, le119, ⟨_, rfl⟩⟩
    refine Ab <| Rt ?_
    obtain rfl := Aa h125
    exact ⟨rfl, (.tuple #[(.agg #[(sv j120.2.1), (sv j120.2.2.1), (sv j120.2.2.2.1), (sv j120.2.2.2.2)]), (.bool j120.1)]), AR (l := [.cell 3 186, .tmp 4]) (by kernel_rfl) (vs := [(.agg #[(sv j120.2.1), (sv j120.2.2.1), (sv j120.2.2.2.1), (sv j120.2.2.2.2)]), (.bool j120.1)]) ⟨b21, 0, rfl, Am (t := 186) (g := true) (s := 4) (by kernel_rfl) hs118.at0 rfl (by decide), ⟨rfl, trivial⟩⟩, (.tuple #[(.agg #[(sv j120.2.1), (sv j120.2.2.1), (sv j120.2.2.2.1), (sv j120.2.2.2.2)]), (.bool j120.1)]), F5, rfl, hs118.clear, rfl⟩
def Kw (N : Nat)  : Option (List Bx) :=
 some [({ words_ := 1, split_ := (fun y0 => C6 N y0 (fun y0 => Ay N y0)) } : Bx), ({ words_ := 2, split_ := (fun y0 => C5 N y0 (fun y0 => Ay N y0)) } : Bx), ({ words_ := 2, split_ := (fun y0 => C4 N y0 (fun y0 => Ay N y0)) } : Bx), ({ words_ := 3, split_ := (fun y0 => C3 N y0 (fun y0 => Ay N y0)) } : Bx)]
theorem NP : Ag Tryz.prog 184 := fun _ _ => by kernel_rfl
theorem OL (N : Nat) (w0 : World) (F0 : Mem) (hF : US w0 F0) (hG : Br F0)  (r : (List Bx)) (h : Kw N  = some r) :
  Calls Tryz.prog 184 ([] : List Value).toArray w0 (AB w0 F0 fun F' v => ∃ (aq0_0 : UR) (nq0_0 : Nat), v = (.slice aq0_0 r.length nq0_0) /\ LC r.length nq0_0 /\ SlA MT F' aq0_0 r) := by
 have hs0 := Uy hF
 refine Go 11 Tryz.func184 <| Sq (Rg [0] ?_)
 refine Vs 1 <| Nss (Rg [0, 1] ?_)
 refine Al' 188 #[.nilFunc] hs0 (fun b21 w22 hs23 => ?_)
 refine St0 #[(fV 221 #[])] hs23 (fun w24 hs25 => ?_)
 refine Nss (Rg (rG 10) ?_)
 refine Vs 8 ?_
 obtain ⟨F1, hs26, le27, hF28⟩ := hs25.fc0
 refine Bs 228 [(vi 1), (fV 223 #[(pt b21 0)]), (vi 2), (fV 224 #[(pt b21 0)]), (vi 2), (fV 226 #[(pt b21 0)]), (vi 3), (fV 228 #[(pt b21 0)])] hs26 (fun b29 w30 hs31 => ?_)
 have hr33 : Ap MT 228 F1 (some ⟨b29, 0, none⟩) 4 [({ words_ := 1, split_ := (fun y0 => C6 N y0 (fun y0 => Ay N y0)) } : Bx), ({ words_ := 2, split_ := (fun y0 => C5 N y0 (fun y0 => Ay N y0)) } : Bx), ({ words_ := 2, split_ := (fun y0 => C4 N y0 (fun y0 => Ay N y0)) } : Bx), ({ words_ := 3, split_ := (fun y0 => C3 N y0 (fun y0 => Ay N y0)) } : Bx)] (some b29, .cells ([(vi 1), (fV 223 #[(pt b21 0)]), (vi 2), (fV 224 #[(pt b21 0)]), (vi 2), (fV 226 #[(pt b21 0)]), (vi 3), (fV 228 #[(pt b21 0)])] : List Value).toArray 228 (0, 0)) := UM ⟨⟨223, [], [(pt b21 0)], rfl, Mh, (fun w1 F1 y0 ay0_0 ny0_0 hby0_0 hsy0_0 r le1 pe1 hr1 => MP N w1 F1 pe1  y0 ay0_0 ny0_0 hby0_0 hsy0_0 b21 (fun y0 => Ay N y0) 221 [] [] DY (HM.mono (fun w1 F1 y0 r le1 pe1 hr1 => Ek N w1 F1 pe1 (hG.mono (le27.t le1))  y0  r hr1) le1) (le1 _ _ hF28) r hr1)⟩, ⟨⟨224, [], [(pt b21 0)], rfl, Mg, (fun w1 F1 y0 ay0_0 ny0_0 hby0_0 hsy0_0 r le1 pe1 hr1 => MO N w1 F1 pe1  y0 ay0_0 ny0_0 hby0_0 hsy0_0 b21 (fun y0 => Ay N y0) 221 [] [] DY (HM.mono (fun w1 F1 y0 r le1 pe1 hr1 => Ek N w1 F1 pe1 (hG.mono (le27.t le1))  y0  r hr1) le1) (le1 _ _ hF28) r hr1)⟩, ⟨⟨226, [], [(pt b21 0)], rfl, Mf, (fun w1 F1 y0 ay0_0 ny0_0 hby0_0 hsy0_0 r le1 pe1 hr1 => MN N w1 F1 pe1  y0 ay0_0 ny0_0 hby0_0 hsy0_0 b21 (fun y0 => Ay N y0) 221 [] [] DY (HM.mono (fun w1 F1 y0 r le1 pe1 hr1 => Ek N w1 F1 pe1 (hG.mono (le27.t le1))  y0  r hr1) le1) (le1 _ _ hF28) r hr1)⟩, ⟨⟨228, [], [(pt b21 0)], rfl, Me, (fun w1 F1 y0 ay0_0 ny0_0 hby0_0 hsy0_0 r le1 pe1 hr1 => MM N w1 F1 pe1  y0 ay0_0 ny0_0 hby0_0 hsy0_0 b21 (fun y0 => Ay N y0) 221 [] [] DY (HM.mono (fun w1 F1 y0 r le1 pe1 hr1 => Ek N w1 F1 pe1 (hG.mono (le27.t le1))  y0  r hr1) le1) (le1 _ _ hF28) r hr1)⟩, rfl⟩⟩⟩⟩ (by simp)
 refine Vs 1 <| Nt <| Rt ?_
 have hb37 := UK hr33
 obtain ⟨F2, hs34, le35, hs36⟩ := hs31.fr0 hr33
 obtain rfl := Aa h
 exact Re [(.slice (some ⟨b29, 0, none⟩) [({ words_ := 1, split_ := (fun y0 => C6 N y0 (fun y0 => Ay N y0)) } : Bx), ({ words_ := 2, split_ := (fun y0 => C5 N y0 (fun y0 => Ay N y0)) } : Bx), ({ words_ := 2, split_ := (fun y0 => C4 N y0 (fun y0 => Ay N y0)) } : Bx), ({ words_ := 3, split_ := (fun y0 => C3 N y0 (fun y0 => Ay N y0)) } : Bx)].length 4)] hs34 ⟨(some ⟨b29, 0, none⟩), 4, rfl, hb37, hs36⟩
def Cx (N : Nat) (x0 : UQ) (r29 : (List UQ)) (r37 : (List Bx)) : Int -> Option (BD (Bd × Bool) Int) := fun s48 =>
 (bif (decide (s48 < (r37.length : Int))) then ((idx r37 s48).bind fun x73 => (bif (x73.words_ != (r29.length : Int)) then some (.next (W64 (s48 + 1))) else ((x73.split_ r29).bind fun r96 => (bif r96.2 then some (.ret (r96.1, true)) else some (.next (W64 (s48 + 1))))))) else some (.done s48))
def HX (N : Nat) (x0 : UQ) : Option (Bd × Bool) :=
 (bif (decide ((x0.length : Int) > 16)) then some (({ Area := ([] : UQ), Prefix := ([] : UQ), Suffix := ([] : UQ), Stroke := ([] : UQ) } : Bd), false) else ((strings_Split N x0 ([47] : UQ)).bind fun r29 => ((Kw N ).bind fun r37 => ((A0 (Cx N x0 r29 r37) N 0).bind fun o => o.k (fun r => some r) (fun s58 => some (({ Area := ([] : UQ), Prefix := ([] : UQ), Suffix := ([] : UQ), Stroke := ([] : UQ) } : Bd), false))))))
theorem NO : Ag Tryz.prog 143 := fun _ _ => by kernel_rfl
theorem OK (N : Nat) (w0 : World) (F0 : Mem) (hF : US w0 F0) (hG : Br F0) (x0 : UQ) (r : (Bd × Bool)) (h : HX N x0 = some r) :
  Calls Tryz.prog 143 ([(sv x0)] : List Value).toArray w0 (AB w0 F0 fun F' v => v = (.tuple #[(.agg (Cv r.1)), (.bool r.2)])) := by
 have hs0 := Uy hF
 refine Go 37 Tryz.func143 <| Sq (Rg [0, 1] ?_)
 refine Al' 186 #[(sv (([] : UQ))), (sv (([] : UQ))), (sv (([] : UQ))), (sv (([] : UQ)))] hs0 (fun b21 w22 hs23 => ?_)
 refine Vs 1 <| Nss <| Sq (Rg [0, 1, 2] ?_)
 refine Vs 3 <| Nt <| Cd h (fun hb24 h25 => ?_) (fun hb24 h26 => ?_)
 ·refine Sq (Rg [0, 1, 2] ?_)
  refine Vs 1 <| St0 #[(sv (([] : UQ))), (sv (([] : UQ))), (sv (([] : UQ))), (sv (([] : UQ)))] hs23 (fun w27 hs28 => ?_)
  refine Vs 1 <| Nt <| Rt <| Aj ?_
  obtain rfl := Aa h25
  exact ⟨rfl, (.tuple #[(.agg #[(sv (([] : UQ))), (sv (([] : UQ))), (sv (([] : UQ))), (sv (([] : UQ)))]), (.bool false)]), AR (l := [.cell 2 186, .tmp 3]) (by kernel_rfl) (vs := [(.agg #[(sv (([] : UQ))), (sv (([] : UQ))), (sv (([] : UQ))), (sv (([] : UQ)))]), (.bool false)]) ⟨b21, 0, rfl, Am (t := 186) (g := true) (s := 4) (by kernel_rfl) hs28.at0 rfl (by decide), ⟨rfl, trivial⟩⟩, (.tuple #[(.agg #[(sv (([] : UQ))), (sv (([] : UQ))), (sv (([] : UQ))), (sv (([] : UQ)))]), (.bool false)]), F0, rfl, hs28.clear, rfl⟩
 ·refine Sc ?_
  refine Ab <| Sq (Rg [0, 1, 2] ?_)
  refine Vs 1 ?_
  obtain ⟨r29, hr30, h31⟩ := bind_some h26
  refine Cl' Ch hs23 (Cy N w22 F0 hs23.pers hG x0 (([47] : UQ)) _ hr30) ?_
  rintro _ F1 w33 hs34 le35 ⟨ar29_0_0, nr29_0_0, rfl, hbr29_0_0, hsr29_0_0⟩
  refine Vs 1 <| Nss <| Sq (Rg [0, 1, 2] ?_)
  obtain ⟨r37, hr38, h39⟩ := bind_some h31
  refine Cl' NP hs34 (OL N w33 F1 hs34.pers (hG.mono le35)  _ hr38) ?_
  rintro _ F2 w41 hs42 le43 ⟨ar37_0_0, nr37_0_0, rfl, hbr37_0_0, hsr37_0_0⟩
  refine Vs 2 <| Nt ?_
  obtain ⟨o45, ho46, h47⟩ := bind_some h39
  refine UD (fun f w => ∃ (s58 : Int) (F4 : Mem), o45 = .done s58 /\ HS w0 F0 w F4 [(sb b21 #[(sv (([] : UQ))), (sv (([] : UQ))), (sv (([] : UQ))), (sv (([] : UQ)))] 186)] /\ Uw F2 F4 /\ FI f [] [(2, (pt b21 0))]) ?_ ?_
  ·refine Bk ?_
   refine Uv (by kernel_rfl) (fun m f w => ∃ (s48 : Int) (F3 : Mem), A0 (Cx N x0 r29 r37) m s48 = some o45 /\ HS w0 F0 w F3 [(sb b21 #[(sv (([] : UQ))), (sv (([] : UQ))), (sv (([] : UQ))), (sv (([] : UQ)))] 186)] /\ Uw F2 F3 /\ FI f [] [(2, (pt b21 0)), (4, (.slice ar29_0_0 r29.length nr29_0_0)), (15, (.slice ar37_0_0 r37.length nr37_0_0)), (16, (vi (r37.length : Int))), (17, (vi s48))]) N ⟨0, F2, ho46, hs42, (Ux _), fI⟩ ?_
   rintro m64 f w49 ⟨s48, F3, hit65, hs50, le51, ⟨_, rfl⟩⟩
   obtain ⟨m66, fl67, rfl, hb68, hnx69⟩ := AU hit65
   refine Sq (Rg [0] ?_)
   refine Vs 1 <| Nss <| Cd hb68 (fun hb70 h71 => ?_) (fun hb70 h72 => ?_)
   ·refine Sc ?_
    refine Ab <| Sq <| Bk <| Sq (Rg (rG 4) ?_)
    obtain ⟨x73, hx74, h76⟩ := bind_some h71
    obtain ⟨hi75, hx74'⟩ := As hx74
    obtain ⟨b77, o78, C79, E80, fz81, rfl, hF83, hE84⟩ := UE (Uz hsr37_0_0 le51) hx74'
    obtain ⟨ge85_1, fe85_1, ke85_1, hc86, hoe85_1, hpe85_1⟩ := hE84 _ _ hx74'
    refine Ix hi75 <| Lx 0 (hs50.pers _ _ hF83) hc86 <| Al' 228 #[(vi 0), .nilFunc] hs50 (fun b87 w88 hs89 => ?_)
    refine St0 #[(vi x73.words_), (.func (.func ge85_1) fe85_1.toArray ke85_1.toArray)] hs89 (fun w90 hs91 => ?_)
    refine Nss <| Sq (Rg (rG 5) ?_)
    refine Vs 1 <| Ld hs91.at0 <| Vs 3 <| Nt <| Cd h76 (fun hb92 h93 => ?_) (fun hb92 h94 => ?_)
    ·refine Ex ?_
     refine Au <| AA rfl <| Ab <| Rg [0, 1] <| Vs 2 <| Us ?_
     have hn95 := AV h93 hnx69
     exact ⟨m66, Nat.lt_succ_self _, (W64 (s48 + 1)), F3, hn95, hs91.dr0, le51, fI⟩
    ·refine Sc ?_
     refine Ab <| Sq (Rg (rG 10) ?_)
     refine Vs 1 <| Ld hs91.at0 <| Vs 1 ?_
     obtain ⟨r96, hr97, h98⟩ := bind_some h94
     refine Cq hoe85_1 hs91 (hpe85_1 w90 F3 r29 ar29_0_0 nr29_0_0 hbr29_0_0 (Uz hsr29_0_0 (le43.t le51)) _ (Ux _) hs91.pers hr97) ?_
     rintro _ F5 w100 hs101 le102 rfl
     refine Vs 3 <| Al' 186 #[(sv (([] : UQ))), (sv (([] : UQ))), (sv (([] : UQ))), (sv (([] : UQ)))] hs101 (fun b104 w105 hs106 => ?_)
     refine St0 (Cv r96.1) hs106 (fun w107 hs108 => ?_)
     refine Vs 1 <| Nss (Rg [0] ?_)
     refine Vs 1 <| Nt <| Cd h98 (fun hb109 h110 => ?_) (fun hb109 h111 => ?_)
     ·refine Sq (Rg [0, 1, 2] ?_)
      refine Ld hs108.at0 <| St2 (Cv r96.1) hs108 (fun w112 hs113 => ?_)
      refine Vs 1 <| Nt <| Rt <| Az <| Aj <| Aj <| Az ?_
      have hret := DV h110 hnx69
      subst hret
      refine .inr <| Aj ?_
      obtain rfl := Aa h47
      exact ⟨rfl, (.tuple #[(.agg (Cv r96.1)), (.bool true)]), AR (l := [.cell 2 186, .tmp 3]) (by kernel_rfl) (vs := [(.agg (Cv r96.1)), (.bool true)]) ⟨b21, 0, rfl, Am (t := 186) (g := true) (s := 4) (by kernel_rfl) hs113.at2 rfl (by decide), ⟨rfl, trivial⟩⟩, (.tuple #[(.agg (Cv r96.1)), (.bool true)]), F5, rfl, hs113.clear, rfl⟩
     ·refine Sc ?_
      refine Av <| Ab <| Rg [0, 1] <| Vs 2 <| Us ?_
      have hn114 := AV h111 hnx69
      exact ⟨m66, Nat.lt_succ_self _, (W64 (s48 + 1)), F5, hn114, hs108.dr0.dr0, (le51.t le102), fI⟩
   ·refine Ex ?_
    refine Au <| Au <| AA rfl ?_
    have ho115 := AW h72 hnx69
    exact .inl ⟨rfl, s48, F3, ho115, hs50, le51, fI⟩
  ·rintro f w59 ⟨s58, F4, rfl, hs60, le61, ⟨_, rfl⟩⟩
   have h116 := BL h47
   refine Ab <| Sq (Rg [0, 1, 2] ?_)
   refine Vs 1 <| St0 #[(sv (([] : UQ))), (sv (([] : UQ))), (sv (([] : UQ))), (sv (([] : UQ)))] hs60 (fun w117 hs118 => ?_)
   refine Vs 1 <| Nt <| Rt ?_
   obtain rfl := Aa h116
   exact ⟨rfl, (.tuple #[(.agg #[(sv (([] : UQ))), (sv (([] : UQ))), (sv (([] : UQ))), (sv (([] : UQ)))]), (.bool false)]), AR (l := [.cell 2 186, .tmp 3]) (by kernel_rfl) (vs := [(.agg #[(sv (([] : UQ))), (sv (([] : UQ))), (sv (([] : UQ))), (sv (([] : UQ)))]), (.bool false)]) ⟨b21, 0, rfl, Am (t := 186) (g := true) (s := 4) (by kernel_rfl) hs118.at0 rfl (by decide), ⟨rfl, trivial⟩⟩, (.tuple #[(.agg #[(sv (([] : UQ))), (sv (([] : UQ))), (sv (([] : UQ))), (sv (([] : UQ)))]), (.bool false)]), F4, rfl, hs118.clear, rfl⟩
def E4 (N : Nat) (x0 : UQ) : Option Bool :=
 ((HX N x0).bind fun r21 => some r21.2)
theorem Jw : Ag Tryz.prog 79 := fun _ _ => by kernel_rfl
theorem Kt (N : Nat) (w0 : World) (F0 : Mem) (hF : US w0 F0) (hG : Br F0) (x0 : UQ) (r : Bool) (h : E4 N x0 = some r) :
  Calls Tryz.prog 79 ([(sv x0)] : List Value).toArray w0 (AB w0 F0 fun F' v => v = (.bool r)) := by
 have hs0 := Uy hF
 refine Go 11 Tryz.func79 <| Sq (Rg [0] ?_)
 refine Vs 1 <| Nss (Rg (rG 8) ?_)
 refine Vs 1 ?_
 obtain ⟨r21, hr22, h23⟩ := bind_some h
 refine Cl' NO hs0 (OK N w0 F0 hs0.pers hG x0 _ hr22) ?_
 rintro _ F1 w25 hs26 le27 rfl
 refine Vs 3 <| Al' 186 #[(sv (([] : UQ))), (sv (([] : UQ))), (sv (([] : UQ))), (sv (([] : UQ)))] hs26 (fun b29 w30 hs31 => ?_)
 refine St0 (Cv r21.1) hs31 (fun w32 hs33 => ?_)
 refine Vs 1 <| Nss (Rg [0, 1] ?_)
 refine Vs 2 <| Nt <| Rt ?_
 obtain rfl := Aa h23
 exact Re [(.bool r21.2)] hs33 rfl
def BG (N : Nat) (x0 : Int) (x1 : Int) : Option UQ :=
 ((strconv_Itoa N x0).bind fun r21 => ((strings_Repeat N ([48] : UQ) (max 0 (W64 (x1 - (r21.length : Int))))).bind fun r29 => ((CQ r29 r21).bind fun r37 => some r37)))
theorem FE : Ag Tryz.prog 146 := fun _ _ => by kernel_rfl
theorem GH (N : Nat) (w0 : World) (F0 : Mem) (hF : US w0 F0) (hG : Br F0) (x0 : Int) (x1 : Int) (r : UQ) (h : BG N x0 x1 = some r) :
  Calls Tryz.prog 146 ([(vi x0), (vi x1)] : List Value).toArray w0 (AB w0 F0 fun F' v => v = (sv r)) := by
 have hs0 := Uy hF
 refine Go 16 Tryz.func146 <| Sq (Rg [0] ?_)
 refine Vs 1 <| Nss (Rg [0, 1, 2] ?_)
 refine Vs 1 ?_
 obtain ⟨r21, hr22, h23⟩ := bind_some h
 refine Cl' Bm hs0 (Bv N w0 F0 hs0.pers hG x0 _ hr22) ?_
 rintro _ F1 w25 hs26 le27 rfl
 refine Vs 1 <| Nss (Rg (rG 9) ?_)
 refine Vs 5 ?_
 obtain ⟨r29, hr30, h31⟩ := bind_some h23
 refine Cl' Jp hs26 (Ko N w25 F1 hs26.pers (([48] : UQ)) ((max 0 (W64 (x1 - (r21.length : Int))))) _ hr30) ?_
 rintro _ F2 w33 hs34 le35 rfl
 refine Vs 1 ?_
 obtain ⟨r37, hr38, h39⟩ := bind_some h31
 refine V 15 9 (AO (t := 9) (t' := 9) (x := (.tmp 13)) (y := (.tmp 14)) (a := r29) (b := r21) (v := r37) rfl rfl hr38) <| Vs 1 <| Nt <| Rt ?_
 obtain rfl := Aa h39
 exact Re [(sv r37)] hs34 rfl
def Cb (N : Nat) (x0 : Int) : Option (UQ × Int) :=
 ((E3 N x0 0 20000).bind fun r21 => (bif (!r21) then some (([] : UQ), 1) else ((strconv_Itoa N (W64 ((W64 (Int.tdiv x0 1440)) + 1))).bind fun r32 => ((CQ r32 ([32] : UQ)).bind fun r40 => ((BG N (Int.tmod (W64 (Int.tdiv x0 60)) 24) 2).bind fun r43 => ((CQ r40 r43).bind fun r51 => ((BG N (Int.tmod x0 60) 2).bind fun r54 => ((CQ r51 r54).bind fun r62 => some (r62, 0)))))))))
theorem Gb : Ag Tryz.prog 82 := fun _ _ => by kernel_rfl
theorem GU (N : Nat) (w0 : World) (F0 : Mem) (hF : US w0 F0) (hG : Br F0) (x0 : Int) (r : (UQ × Int)) (h : Cb N x0 = some r) :
  Calls Tryz.prog 82 ([(vi x0)] : List Value).toArray w0 (AB w0 F0 fun F' v => v = (.tuple #[(sv r.1), (vi r.2)])) := by
 have hs0 := Uy hF
 refine Go 21 Tryz.func82 <| Sq (Rg [0, 1] ?_)
 refine Vs 2 <| Nss <| Sq (Rg [0, 1, 2] ?_)
 refine Vs 1 ?_
 obtain ⟨r21, hr22, h23⟩ := bind_some h
 refine Cl' FD hs0 (GG N w0 F0 hs0.pers x0 0 20000 _ hr22) ?_
 rintro _ F1 w25 hs26 le27 rfl
 refine Vs 1 <| Nt <| Cd h23 (fun hb29 h30 => ?_) (fun hb29 h31 => ?_)
 ·refine Sq (Rg [0, 1] ?_)
  refine Vs 2 <| Nt <| Rt <| Aj ?_
  obtain rfl := Aa h30
  exact Re [(sv (([] : UQ))), (vi 1)] hs26 rfl
 ·refine Sc ?_
  refine Ab <| Sq (Rg (rG 16) ?_)
  refine Vs 3 ?_
  obtain ⟨r32, hr33, h34⟩ := bind_some h31
  refine Cl' Bm hs26 (Bv N w25 F1 hs26.pers (hG.mono le27) ((W64 ((W64 (Int.tdiv x0 1440)) + 1))) _ hr33) ?_
  rintro _ F2 w36 hs37 le38 rfl
  obtain ⟨r40, hr41, h42⟩ := bind_some h34
  refine V 11 9 (AO (t := 9) (t' := 9) (x := (.tmp 10)) (y := (.const (sv ([32] : UQ)))) (a := r32) (b := ([32] : UQ)) (v := r40) rfl rfl hr41) <| Vs 3 ?_
  obtain ⟨r43, hr44, h45⟩ := bind_some h42
  refine Cl' FE hs37 (GH N w36 F2 hs37.pers (hG.mono (le27.t le38)) ((Int.tmod (W64 (Int.tdiv x0 60)) 24)) 2 _ hr44) ?_
  rintro _ F3 w47 hs48 le49 rfl
  obtain ⟨r51, hr52, h53⟩ := bind_some h45
  refine V 16 9 (AO (t := 9) (t' := 9) (x := (.tmp 11)) (y := (.tmp 15)) (a := r40) (b := r43) (v := r51) rfl rfl hr52) <| Vs 2 ?_
  obtain ⟨r54, hr55, h56⟩ := bind_some h53
  refine Cl' FE hs48 (GH N w47 F3 hs48.pers (hG.mono ((le27.t le38).trans le49)) ((Int.tmod x0 60)) 2 _ hr55) ?_
  rintro _ F4 w58 hs59 le60 rfl
  obtain ⟨r62, hr63, h64⟩ := bind_some h56
  refine V 20 9 (AO (t := 9) (t' := 9) (x := (.tmp 16)) (y := (.tmp 19)) (a := r51) (b := r54) (v := r62) rfl rfl hr63) <| Vs 2 <| Nt <| Rt ?_
  obtain rfl := Aa h64
  exact Re [(sv r62), (vi 0)] hs59 rfl
def Cj (N : Nat) (x0 : (List UQ)) : Int -> Option (BD UQ Int) := fun s24 =>
 (bif (decide (s24 < (x0.length : Int))) then ((idx x0 s24).bind fun x48 => (bif (x48 != ([] : UQ)) then some (.ret x48) else some (.next (W64 (s24 + 1))))) else some (.done s24))
def Ej (N : Nat) (x0 : (List UQ)) : Option UQ :=
 ((A0 (Cj N x0) N 0).bind fun o => o.k (fun r => some r) (fun s33 => some ([] : UQ)))
theorem Km : Ag Tryz.prog 147 := fun _ _ => by kernel_rfl
theorem K7 (N : Nat) (w0 : World) (F0 : Mem) (hF : US w0 F0) (x0 : (List UQ)) (a0_0 : UR) (n0_0 : Nat) (hb0_0 : LC x0.length n0_0) (hs0_0 : SlA AF F0 a0_0 x0) (r : UQ) (h : Ej N x0 = some r) :
  Calls Tryz.prog 147 ([(.slice a0_0 x0.length n0_0)] : List Value).toArray w0 (AB w0 F0 fun F' v => v = (sv r)) := by
 have hs0 := Uy hF
 refine Go 18 Tryz.func147 <| Sq (Rg [0] ?_)
 refine Vs 1 <| Nss (Rg [0] ?_)
 refine Vs 1 <| Nss <| Sq (Rg [0, 1, 2] ?_)
 refine Vs 3 <| Nt ?_
 obtain ⟨o21, ho22, h23⟩ := bind_some h
 refine UD (fun f w => ∃ (s33 : Int) (F2 : Mem), o21 = .done s33 /\ HS w0 F0 w F2 [] /\ Uw F0 F2 /\ FI f [] [(3, (sv (([] : UQ))))]) ?_ ?_
 ·refine Bk ?_
  refine Uv (by kernel_rfl) (fun m f w => ∃ (s24 : Int) (F1 : Mem), A0 (Cj N x0) m s24 = some o21 /\ HS w0 F0 w F1 [] /\ Uw F0 F1 /\ FI f [] [(3, (sv (([] : UQ)))), (6, (.slice a0_0 x0.length n0_0)), (7, (vi (x0.length : Int))), (8, (vi s24))]) N ⟨0, F0, ho22, hs0, (Ux _), fI⟩ ?_
  rintro m39 f w25 ⟨s24, F1, hit40, hs26, le27, ⟨_, rfl⟩⟩
  obtain ⟨m41, fl42, rfl, hb43, hnx44⟩ := AU hit40
  refine Sq (Rg [0] ?_)
  refine Vs 1 <| Nss <| Cd hb43 (fun hb45 h46 => ?_) (fun hb45 h47 => ?_)
  ·refine Sc ?_
   refine Ab <| Sq <| Bk <| Sq (Rg [0, 1, 2] ?_)
   obtain ⟨x48, hx49, h51⟩ := bind_some h46
   obtain ⟨hi50, hx49'⟩ := As hx49
   obtain ⟨b52, o53, C54, E55, fz56, rfl, hF58, hE59⟩ := UE (Uz hs0_0 le27) hx49'
   have hc61 := hE59 _ _ hx49'
   refine Ix hi50 <| Lx 0 (hs26.pers _ _ hF58) hc61 <| Vs 1 <| Nss (Rg [0, 1, 2] ?_)
   refine Vs 3 <| Nt <| Cd h51 (fun hb62 h63 => ?_) (fun hb62 h64 => ?_)
   ·refine Sq (Rg [0, 1] ?_)
    refine Vs 2 <| Nt <| Rt <| Az <| Aj <| Aj <| Az ?_
    have hret := DV h63 hnx44
    subst hret
    refine .inr <| Aj ?_
    obtain rfl := Aa h23
    exact Re [(sv x48)] hs26 rfl
   ·refine Sc ?_
    refine Av <| Ab <| Rg [0, 1] <| Vs 2 <| Us ?_
    have hn65 := AV h64 hnx44
    exact ⟨m41, Nat.lt_succ_self _, (W64 (s24 + 1)), F1, hn65, hs26, le27, fI⟩
  ·refine Ex ?_
   refine Au <| Au <| AA rfl ?_
   have ho66 := AW h47 hnx44
   exact .inl ⟨rfl, s24, F1, ho66, hs26, le27, fI⟩
 ·rintro f w34 ⟨s33, F2, rfl, hs35, le36, ⟨_, rfl⟩⟩
  have h67 := BL h23
  refine Ab <| Sq (Rg [0, 1] ?_)
  refine Vs 2 <| Nt <| Rt ?_
  obtain rfl := Aa h67
  exact Re [(sv (([] : UQ)))] hs35 rfl
def BJ (N : Nat) (x0 : Ac) (x1 : Ad) (r27 : Bool) (r38 : (List AH)) : (List UQ × Int) -> Option (BD (UQ × Int) (List UQ × Int)) := fun s51 =>
 (bif (decide (s51.2 < (r38.length : Int))) then ((idx r38 s51.2).bind fun x75 => ((bif x75.has_ then ((BG N x75.n_ x75.digits_).bind fun r108 => ((Dr s51.1 [r108]).bind fun r121 => some r121)) else some s51.1).bind fun j97 => some (.next (j97, (W64 (s51.2 + 1)))))) else some (.done (s51.1, s51.2)))
def A7 (N : Nat) (x0 : Ac) (x1 : Ad) : Option (UQ × Int) :=
 ((BK N ({ Report := x0.Report, Serial := x0.Serial, Zone := x0.Zone } : Ac) ({ Report := x1.Report, Serial := x1.Serial, Zone := x1.Zone } : Ad)).bind fun r27 => (bif (!r27) then some (([] : UQ), 1) else ((Cm N ({ Report := x0.Report, Serial := x0.Serial, Zone := x0.Zone } : Ac) ({ Report := x1.Report, Serial := x1.Serial, Zone := x1.Zone } : Ad)).bind fun r38 => ((A0 (BJ N x0 x1 r27 r38) N (([] : List UQ), 0)).bind fun o => o.k (fun r => some r) (fun s60 => ((strings_Join N s60.1 ([32] : UQ)).bind fun r137 => ((Ej N ([r137, ([45] : UQ)])).bind fun r154 => some (r154, 0))))))))
theorem CZ : Ag Tryz.prog 83 := fun _ _ => by kernel_rfl
theorem Dq (N : Nat) (w0 : World) (F0 : Mem) (hF : US w0 F0) (hG : Br F0) (x0 : Ac) (x1 : Ad) (r : (UQ × Int)) (h : A7 N x0 x1 = some r) :
  Calls Tryz.prog 83 ([(.agg (Ak x0)), (.agg (BP x1))] : List Value).toArray w0 (AB w0 F0 fun F' v => v = (.tuple #[(sv r.1), (vi r.2)])) := by
 have hs0 := Uy hF
 refine Go 36 Tryz.func83 <| Sq (Rg (rG 4) ?_)
 refine Bx' 23 (Ak x0) hs0 (fun b21 w22 hs23 => ?_)
 refine Bx' 32 (BP x1) hs23 (fun b24 w25 hs26 => ?_)
 refine Vs 2 <| Nss <| Sq (Rg (rG 4) ?_)
 refine Ld hs26.at1 <| Ld hs26.at0 ?_
 obtain ⟨r27, hr28, h29⟩ := bind_some h
 refine Cl' CY hs26 (Dp N w25 F0 hs26.pers (({ Report := x0.Report, Serial := x0.Serial, Zone := x0.Zone } : Ac)) (({ Report := x1.Report, Serial := x1.Serial, Zone := x1.Zone } : Ad)) _ hr28) ?_
 rintro _ F1 w31 hs32 le33 rfl
 refine Vs 1 <| Nt <| Cd h29 (fun hb35 h36 => ?_) (fun hb35 h37 => ?_)
 ·refine Sq (Rg [0, 1] ?_)
  refine Vs 2 <| Nt <| Rt <| Aj ?_
  obtain rfl := Aa h36
  exact Re [(sv (([] : UQ))), (vi 1)] hs32 rfl
 ·refine Sc ?_
  refine Ab <| Sq (Rg [0] ?_)
  refine Vs 1 <| Nss <| Sq (Rg (rG 5) ?_)
  refine Ld hs32.at1 <| Ld hs32.at0 ?_
  obtain ⟨r38, hr39, h40⟩ := bind_some h37
  refine Cl' DX hs32 (Eu N w31 F1 hs32.pers (({ Report := x0.Report, Serial := x0.Serial, Zone := x0.Zone } : Ac)) (({ Report := x1.Report, Serial := x1.Serial, Zone := x1.Zone } : Ad)) _ hr39) ?_
  rintro _ F2 w42 hs43 le44 ⟨ar38_0_0, nr38_0_0, rfl, hbr38_0_0, hsr38_0_0⟩
  refine Vs 2 <| Nt ?_
  have hs46 := hs43.dr0.dr0.dummy (oc #[] 0)
  obtain ⟨o48, ho49, h50⟩ := bind_some h40
  refine UD (fun f w => ∃ (s60 : (List UQ × Int)) (F4 : Mem) (as60_0 : UR) (ns60_0 : Nat) (es60_0 : Option Nat × Obj), o48 = .done s60 /\ HS w0 F0 w F4 [es60_0] /\ Uw F2 F4 /\ FI f [] [(6, (.slice as60_0 s60.1.length ns60_0))] /\ Ap AF 9 F4 as60_0 ns60_0 s60.1 es60_0) ?_ ?_
  ·refine Bk ?_
   refine Uv (by kernel_rfl) (fun m f w => ∃ (s51 : (List UQ × Int)) (F3 : Mem) (as51_0 : UR) (ns51_0 : Nat) (es51_0 : Option Nat × Obj), A0 (BJ N x0 x1 r27 r38) m s51 = some o48 /\ HS w0 F0 w F3 [es51_0] /\ Uw F2 F3 /\ FI f [] [(6, (.slice as51_0 s51.1.length ns51_0)), (15, (.slice ar38_0_0 r38.length nr38_0_0)), (16, (vi (r38.length : Int))), (17, (vi s51.2))] /\ Ap AF 9 F3 as51_0 ns51_0 s51.1 es51_0) N ⟨(([] : List UQ), 0), F2, none, 0, (none, .cells #[] 0 (0, 0)), ho49, hs46, (Ux _), fI, (UL AF 9 F2 _)⟩ ?_
   rintro m66 f w52 ⟨s51, F3, as51_0, ns51_0, es51_0, hit67, hs53, le54, ⟨_, rfl⟩, hrs51_0⟩
   obtain ⟨m68, fl69, rfl, hb70, hnx71⟩ := AU hit67
   refine Sq (Rg [0] ?_)
   refine Vs 1 <| Nss <| Cd hb70 (fun hb72 h73 => ?_) (fun hb72 h74 => ?_)
   ·refine Sc ?_
    refine Ab <| Sq <| Bk <| Sq (Rg (rG 4) ?_)
    obtain ⟨x75, hx76, h78⟩ := bind_some h73
    obtain ⟨hi77, hx76'⟩ := As hx76
    obtain ⟨b79, o80, C81, E82, fz83, rfl, hF85, hE86⟩ := UE (Uz hsr38_0_0 le54) hx76'
    have hc88 := hE86 _ _ hx76'
    refine Ix hi77 <| Lx 0 (hs53.pers _ _ hF85) hc88 <| Al' 180 #[(.bool false), (vi 0), (vi 0), (vi 0)] hs53 (fun b89 w90 hs91 => ?_)
    refine St0 (HQ x75) hs91 (fun w92 hs93 => ?_)
    refine Nss (Rg [0, 1] ?_)
    refine Vs 1 <| Ld hs93.at0 <| Nt ?_
    obtain ⟨j97, hj103, h104⟩ := bind_some h78
    refine UD (fun f w => ∃ (F5 : Mem) (aj97_0 : UR) (nj97_0 : Nat) (ej97_0 : Option Nat × Obj), HS w0 F0 w F5 [ej97_0] /\ Uw F3 F5 /\ FI f [] [(6, (.slice aj97_0 j97.length nj97_0)), (15, (.slice (some ⟨b79, o80, none⟩) r38.length nr38_0_0)), (16, (vi (r38.length : Int))), (17, (vi s51.2))] /\ Ap AF 9 F5 aj97_0 nj97_0 j97 ej97_0) ?_ ?_
    ·refine Cd hj103 (fun hb105 h106 => ?_) (fun hb105 h107 => ?_)
     ·refine Rg (rG 9) ?_
      refine Vs 2 <| Ld hs93.at0 <| Vs 1 <| Ld hs93.at0 ?_
      obtain ⟨r108, hr109, h110⟩ := bind_some h106
      refine Cl' FE hs93 (GH N w92 F3 hs93.pers (hG.mono ((le33.t le44).trans le54)) x75.n_ x75.digits_ _ hr109) ?_
      rintro _ F6 w112 hs113 le114 rfl
      refine Bs 9 [(sv r108)] hs113 (fun b116 w117 hs118 => ?_)
      have hr120 : Ap AF 9 F6 (some ⟨b116, 0, none⟩) 1 [r108] (some b116, .cells ([(sv r108)] : List Value).toArray 9 (0, 0)) := UM ⟨rfl, rfl⟩ (by simp)
      obtain ⟨r121, hap122, h123⟩ := bind_some h110
      refine Ap2 So hs118 (hrs51_0.mono le114) (hs118.rd0 hr120) hap122 (fun a124 n125 e126 w127 hs128 hr129 => ?_)
      refine Vs 1 <| Us ?_
      obtain rfl := Aa h123
      exact .inl ⟨rfl, F6, a124, n125, e126, hs128.dr0.dr0, le114, fI, hr129⟩
     ·refine Sc ?_
      obtain rfl := Aa h107
      exact .inl ⟨rfl, F3, as51_0, ns51_0, es51_0, hs93.dr0, (Ux _), fI, hrs51_0⟩
    ·rintro f w94 ⟨F5, aj97_0, nj97_0, ej97_0, hs95, le96, ⟨_, rfl⟩, hrj97_0⟩
     refine Av <| Ab <| Rg [0, 1] <| Vs 2 <| Us ?_
     have hn130 := AV h104 hnx71
     exact ⟨m68, Nat.lt_succ_self _, (j97, (W64 (s51.2 + 1))), F5, aj97_0, nj97_0, ej97_0, hn130, hs95, (le54.t le96), fI, hrj97_0⟩
   ·refine Ex ?_
    refine Au <| Au <| AA rfl ?_
    have ho131 := AW h74 hnx71
    exact .inl ⟨rfl, (s51.1, s51.2), F3, as51_0, ns51_0, es51_0, ho131, hs53, le54, fI, hrs51_0⟩
  ·rintro f w61 ⟨s60, F4, as60_0, ns60_0, es60_0, rfl, hs62, le63, ⟨_, rfl⟩, hrs60_0⟩
   have h132 := BL h50
   refine Ab <| Sq (Rg (rG 6) ?_)
   refine Vs 1 ?_
   have hb136 := UK hrs60_0
   obtain ⟨F7, hs133, le134, hs135⟩ := hs62.fr0 hrs60_0
   obtain ⟨r137, hr138, h139⟩ := bind_some h132
   refine Cl' BZ hs133 (Ck N w61 F7 hs133.pers s60.1 as60_0 ns60_0 hb136 hs135 (([32] : UQ)) _ hr138) ?_
   rintro _ F8 w141 hs142 le143 rfl
   refine Bs 9 [(sv r137), (sv (([45] : UQ)))] hs142 (fun b145 w146 hs147 => ?_)
   have hr149 : Ap AF 9 F8 (some ⟨b145, 0, none⟩) 2 [r137, ([45] : UQ)] (some b145, .cells ([(sv r137), (sv (([45] : UQ)))] : List Value).toArray 9 (0, 0)) := UM ⟨rfl, ⟨rfl, rfl⟩⟩ (by simp)
   have hb153 := UK hr149
   obtain ⟨F9, hs150, le151, hs152⟩ := hs147.fr0 hr149
   obtain ⟨r154, hr155, h156⟩ := bind_some h139
   refine Cl' Km hs150 (K7 N w146 F9 hs150.pers ([r137, ([45] : UQ)]) (some ⟨b145, 0, none⟩) 2 hb153 hs152 _ hr155) ?_
   rintro _ F10 w158 hs159 le160 rfl
   refine Vs 2 <| Nt <| Rt ?_
   obtain rfl := Aa h156
   exact Re [(sv r154), (vi 0)] hs159 rfl




def AE (N : Nat) (x0 : (List UQ)) (x1 : UQ) : Int -> Option (BD Int Int) := fun s24 =>
 (bif (decide (s24 < (x0.length : Int))) then ((idx x0 s24).bind fun x47 => (bif (x1 == x47) then some (.ret s24) else some (.next (W64 (s24 + 1))))) else some (.done s24))
def AN (N : Nat) (x0 : (List UQ)) (x1 : UQ) : Option Int :=
 ((A0 (AE N x0 x1) N 0).bind fun o => o.k (fun r => some r) (fun s33 => some (-1)))
theorem Cr : Ag Tryz.prog 94 := fun _ _ => by kernel_rfl
theorem Cz (N : Nat) (w0 : World) (F0 : Mem) (hF : US w0 F0) (x0 : (List UQ)) (a0_0 : UR) (n0_0 : Nat) (hb0_0 : LC x0.length n0_0) (hs0_0 : SlA AF F0 a0_0 x0) (x1 : UQ) (r : Int) (h : AN N x0 x1 = some r) :
  Calls Tryz.prog 94 ([(.slice a0_0 x0.length n0_0), (sv x1)] : List Value).toArray w0 (AB w0 F0 fun F' v => v = (vi r)) := by
 have hs0 := Uy hF
 refine Go 19 Tryz.func94 <| Sq (Rg [0] ?_)
 refine Vs 1 <| Nss <| Sq (Rg [0, 1, 2] ?_)
 refine Vs 3 <| Nt ?_
 obtain ⟨o21, ho22, h23⟩ := bind_some h
 refine UD (fun f w => ∃ (s33 : Int) (F2 : Mem), o21 = .done s33 /\ HS w0 F0 w F2 [] /\ Uw F0 F2 /\ FI f [] []) ?_ ?_
 ·refine Bk ?_
  refine Uv (by kernel_rfl) (fun m f w => ∃ (s24 : Int) (F1 : Mem), A0 (AE N x0 x1) m s24 = some o21 /\ HS w0 F0 w F1 [] /\ Uw F0 F1 /\ FI f [] [(0, (.slice a0_0 x0.length n0_0)), (1, (sv x1)), (7, (vi (x0.length : Int))), (8, (vi s24))]) N ⟨0, F0, ho22, hs0, (Ux _), fI⟩ ?_
  rintro m38 f w25 ⟨s24, F1, hit39, hs26, le27, ⟨_, rfl⟩⟩
  obtain ⟨m40, fl41, rfl, hb42, hnx43⟩ := AU hit39
  refine Sq (Rg [0] ?_)
  refine Vs 1 <| Nss <| Cd hb42 (fun hb44 h45 => ?_) (fun hb44 h46 => ?_)
  ·refine Sc ?_
   refine Ab <| Sq <| Bk <| Sq (Rg [0, 1] ?_)
   refine Vs 2 <| Nss (Rg (rG 6) ?_)
   refine Vs 3 ?_
   obtain ⟨x47, hx48, h50⟩ := bind_some h45
   obtain ⟨hi49, hx48'⟩ := As hx48
   obtain ⟨b51, o52, C53, E54, fz55, rfl, hF57, hE58⟩ := UE (Uz hs0_0 le27) hx48'
   have hc60 := hE58 _ _ hx48'
   refine Ix hi49 <| Lx 0 (hs26.pers _ _ hF57) hc60 <| Vs 1 <| Nt <| Cd h50 (fun hb61 h62 => ?_) (fun hb61 h63 => ?_)
   ·refine Sq (Rg [0, 1] ?_)
    refine Vs 2 <| Nt <| Rt <| Az <| Aj <| Aj <| Az ?_
    have hret := DV h62 hnx43
    subst hret
    refine .inr <| Aj ?_
    obtain rfl := Aa h23
    exact Re [(vi s24)] hs26 rfl
   ·refine Sc ?_
    refine Av <| Ab <| Rg [0, 1] <| Vs 2 <| Us ?_
    have hn64 := AV h63 hnx43
    exact ⟨m40, Nat.lt_succ_self _, (W64 (s24 + 1)), F1, hn64, hs26, le27, fI⟩
  ·refine Ex ?_
   refine Au <| Au <| AA rfl ?_
   have ho65 := AW h46 hnx43
   exact .inl ⟨rfl, s24, F1, ho65, hs26, le27, fI⟩
 ·rintro f w34 ⟨s33, F2, rfl, hs35, le36, ⟨_, rfl⟩⟩
  have h66 := BL h23
  refine Ab <| Sq (Rg [0] ?_)
  refine Vs 1 <| Nt <| Rt ?_
  obtain rfl := Aa h66
  exact Re [(vi (-1))] hs35 rfl
def BR (N : Nat) (x0 : UQ) : Option Int :=
 ((Ew N x0 9 (fun y0 => Bf N y0)).bind fun r21 => (bif (!r21) then some (-1) else ((BN N x0).bind fun r32 => some r32.1)))
theorem DA : Ag Tryz.prog 165 := fun _ _ => by kernel_rfl
theorem D3 (N : Nat) (w0 : World) (F0 : Mem) (hF : US w0 F0) (hG : Br F0) (x0 : UQ) (r : Int) (h : BR N x0 = some r) :
  Calls Tryz.prog 165 ([(sv x0)] : List Value).toArray w0 (AB w0 F0 fun F' v => v = (vi r)) := by
 have hs0 := Uy hF
 refine Go 14 Tryz.func165 <| Sq (Rg [0] ?_)
 refine Vs 1 <| Nss <| Sq (Rg [0, 1, 2] ?_)
 refine Vs 1 ?_
 obtain ⟨r21, hr22, h23⟩ := bind_some h
 refine Cl' Et hs0 (E0 N w0 F0 hs0.pers x0 9 199 [] [] (fun y0 => Bf N y0) EM (fun w1 F1 y0 r le1 pe1 hr1 => Fw N w1 F1 pe1  y0  r hr1) _ hr22) ?_
 rintro _ F1 w25 hs26 le27 rfl
 refine Vs 1 <| Nt <| Cd h23 (fun hb29 h30 => ?_) (fun hb29 h31 => ?_)
 ·refine Sq (Rg [0] ?_)
  refine Vs 1 <| Nt <| Rt <| Aj ?_
  obtain rfl := Aa h30
  exact Re [(vi (-1))] hs26 rfl
 ·refine Sc ?_
  refine Ab <| Sq (Rg (rG 7) ?_)
  refine Vs 1 ?_
  obtain ⟨r32, hr33, h34⟩ := bind_some h31
  refine Cl' GO hs26 (HG N w25 F1 hs26.pers (hG.mono le27) x0 _ hr33) ?_
  rintro _ F2 w36 hs37 le38 ⟨vr32_1_0, rfl, her32_1_0⟩
  refine Vs 5 <| Nss (Rg [0, 1] ?_)
  refine Vs 2 <| Nt <| Rt ?_
  obtain rfl := Aa h34
  exact Re [(vi r32.1)] hs37 rfl
def E5 (N : Nat) (x0 : UQ) : Option (Int × Int) :=
 ((strings_Cut N x0 ([32] : UQ)).bind fun r21 => ((BR N r21.1).bind fun r29 => ((BR N r21.2.1).bind fun r37 => (bif ((decide (r29 < 1)) || ((decide (r29 > 20000)) || (decide (r37 < 0)))) then some (0, 13) else ((Cb N (W64 ((W64 ((W64 ((W64 (r29 - 1)) * 1440)) + (W64 ((W64 (Int.tdiv r37 100)) * 60)))) + (Int.tmod r37 100)))).bind fun r58 => (bif ((r58.2 != 0) || (r58.1 != x0)) then some (0, 13) else some ((W64 ((W64 ((W64 ((W64 (r29 - 1)) * 1440)) + (W64 ((W64 (Int.tdiv r37 100)) * 60)))) + (Int.tmod r37 100))), 0)))))))
theorem Jx : Ag Tryz.prog 96 := fun _ _ => by kernel_rfl
theorem Ku (N : Nat) (w0 : World) (F0 : Mem) (hF : US w0 F0) (hG : Br F0) (x0 : UQ) (r : (Int × Int)) (h : E5 N x0 = some r) :
  Calls Tryz.prog 96 ([(sv x0)] : List Value).toArray w0 (AB w0 F0 fun F' v => v = (.tuple #[(vi r.1), (vi r.2)])) := by
 have hs0 := Uy hF
 refine Go 55 Tryz.func96 <| Sq (Rg [0, 1] ?_)
 refine Vs 2 <| Nss (Rg (rG 9) ?_)
 refine Vs 1 ?_
 obtain ⟨r21, hr22, h23⟩ := bind_some h
 refine Cl' Hx hs0 (Iw N w0 F0 hs0.pers hG x0 (([32] : UQ)) _ hr22) ?_
 rintro _ F1 w25 hs26 le27 rfl
 refine Vs 7 <| Nss (Rg (rG 6) ?_)
 refine Vs 1 ?_
 obtain ⟨r29, hr30, h31⟩ := bind_some h23
 refine Cl' DA hs26 (D3 N w25 F1 hs26.pers (hG.mono le27) r21.1 _ hr30) ?_
 rintro _ F2 w33 hs34 le35 rfl
 refine Vs 1 ?_
 obtain ⟨r37, hr38, h39⟩ := bind_some h31
 refine Cl' DA hs34 (D3 N w33 F2 hs34.pers (hG.mono (le27.t le35)) r21.2.1 _ hr38) ?_
 rintro _ F3 w41 hs42 le43 rfl
 refine Vs 2 <| Nss <| Sq (Rg (rG 10) ?_)
 refine UC (fun f w => ∃ (F4 : Mem), HS w0 F0 w F4 [] /\ Uw F3 F4 /\ FI f [] [(0, (sv x0)), (7, (vi r29)), (8, (vi r37)), (31, (.bool ((decide (r29 < 1)) || ((decide (r29 > 20000)) || (decide (r37 < 0))))))]) ?_ ?_
 ·refine Vs 3 ?_
  refine UB (decide (r29 < 1)) (fun hb53 => ?_) (fun hb53 => ?_)
  ·refine Ss hb53 2 ?_
   refine Pk1 hb53 <| Vs 1 <| Ss (rfl : true = true) 2 <| Pk1 (rfl : true = true) ?_
   exact Us ⟨rfl, F3, hs42, (Ux _), (fJ ⟨rfl, rfl, rfl, (congrArg Value.bool (FN hb53 rfl)), trivial⟩)⟩
  ·refine Vgs hb53 2 ?_
   refine Pk0 hb53 <| Vs 1 <| UB (decide (r29 > 20000)) (fun hb54 => ?_) (fun hb54 => ?_)
   ·refine Ss hb54 2 ?_
    refine Pk1 hb54 ?_
    exact Us ⟨rfl, F3, hs42, (Ux _), (fJ ⟨rfl, rfl, rfl, (congrArg Value.bool (Ct hb53 (FN hb54 rfl))), trivial⟩)⟩
   ·refine Vgs hb54 2 ?_
    refine Pk0 hb54 ?_
    exact Us ⟨rfl, F3, hs42, (Ux _), (fJ ⟨rfl, rfl, rfl, (congrArg Value.bool (Ct hb53 (Ct hb54 rfl))), trivial⟩)⟩
 ·rintro f w45 ⟨F4, hs46, le47, ⟨_, rfl⟩⟩
  refine Ab <| Cd h39 (fun hb55 h56 => ?_) (fun hb55 h57 => ?_)
  ·refine Sq (Rg [0, 1] ?_)
   refine Vs 2 <| Nt <| Rt <| Aj ?_
   obtain rfl := Aa h56
   exact Re [(vi 0), (vi 13)] hs46 rfl
  ·refine Sc ?_
   refine Ab <| Sq (Rg (rG 11) ?_)
   refine Vs 11 <| Nss <| Sq (Rg (rG 7) ?_)
   refine Vs 1 ?_
   obtain ⟨r58, hr59, h60⟩ := bind_some h57
   refine Cl' Gb hs46 (GU N w45 F4 hs46.pers (hG.mono (((le27.t le35).trans le43).trans le47)) ((W64 ((W64 ((W64 ((W64 (r29 - 1)) * 1440)) + (W64 ((W64 (Int.tdiv r37 100)) * 60)))) + (Int.tmod r37 100)))) _ hr59) ?_
   rintro _ F5 w62 hs63 le64 rfl
   refine Vs 5 <| Nss (Rg (rG 7) ?_)
   refine UC (fun f w => ∃ (F6 : Mem), HS w0 F0 w F6 [] /\ Uw F5 F6 /\ FI f [] [(9, (vi (W64 ((W64 ((W64 ((W64 (r29 - 1)) * 1440)) + (W64 ((W64 (Int.tdiv r37 100)) * 60)))) + (Int.tmod r37 100))))), (53, (.bool ((r58.2 != 0) || (r58.1 != x0))))]) ?_ ?_
   ·refine Vs 3 ?_
    refine UB (r58.2 != 0) (fun hb72 => ?_) (fun hb72 => ?_)
    ·refine Ss hb72 3 ?_
     refine Pk1 hb72 ?_
     exact Us ⟨rfl, F5, hs63, (Ux _), (fJ ⟨rfl, (congrArg Value.bool (FN hb72 rfl)), trivial⟩)⟩
    ·refine Vgs hb72 3 ?_
     refine Pk0 hb72 ?_
     exact Us ⟨rfl, F5, hs63, (Ux _), (fJ ⟨rfl, (congrArg Value.bool (Ct hb72 rfl)), trivial⟩)⟩
   ·rintro f w66 ⟨F6, hs67, le68, ⟨_, rfl⟩⟩
    refine Ab <| Cd h60 (fun hb73 h74 => ?_) (fun hb73 h75 => ?_)
    ·refine Sq (Rg [0, 1] ?_)
     refine Vs 2 <| Nt <| Rt <| Aj ?_
     obtain rfl := Aa h74
     exact Re [(vi 0), (vi 13)] hs67 rfl
    ·refine Sc ?_
     refine Ab <| Sq (Rg [0, 1, 2] ?_)
     refine Vs 3 <| Nt <| Rt ?_
     obtain rfl := Aa h75
     exact Re [(vi (W64 ((W64 ((W64 ((W64 (r29 - 1)) * 1440)) + (W64 ((W64 (Int.tdiv r37 100)) * 60)))) + (Int.tmod r37 100)))), (vi 0)] hs67 rfl
def DK (N : Nat) (x0 : Ac) (x1 : UQ) : Option (Ad × Int) :=
 ((strings_Split N x1 ([32] : UQ)).bind fun r27 => (((Cm N ({ Report := x0.Report, Serial := x0.Serial, Zone := x0.Zone } : Ac) ({ Report := 0, Serial := 0, Zone := 0 } : Ad)).bind fun r58 => ((idx r58 0).bind fun x66 => (bif x66.has_ then some (decide ((r27.length : Int) > 0)) else some false))).bind fun j44 => ((bif j44 then ((idx r27 0).bind fun x101 => ((BR N x101).bind fun r115 => ((sub r27 1 (r27.length : Int)).bind fun r125 => some (r125, r115)))) else some (r27, 0)).bind fun j86 => (((Cm N ({ Report := x0.Report, Serial := x0.Serial, Zone := x0.Zone } : Ac) ({ Report := j86.2, Serial := 0, Zone := 0 } : Ad)).bind fun r150 => ((idx r150 1).bind fun x158 => (bif x158.has_ then some (decide ((j86.1.length : Int) > 0)) else some false))).bind fun j136 => ((bif j136 then ((idx j86.1 0).bind fun x193 => ((BR N x193).bind fun r207 => ((sub j86.1 1 (j86.1.length : Int)).bind fun r217 => some (r217, r207)))) else some (j86.1, 0)).bind fun j178 => (((Cm N ({ Report := x0.Report, Serial := x0.Serial, Zone := x0.Zone } : Ac) ({ Report := j86.2, Serial := j178.2, Zone := 0 } : Ad)).bind fun r242 => ((idx r242 2).bind fun x250 => (bif x250.has_ then some (decide ((j178.1.length : Int) > 0)) else some false))).bind fun j228 => ((bif j228 then ((idx j178.1 0).bind fun x285 => ((BR N x285).bind fun r299 => ((sub j178.1 1 (j178.1.length : Int)).bind fun r309 => some (r309, r299)))) else some (j178.1, 0)).bind fun j270 => ((A7 N ({ Report := x0.Report, Serial := x0.Serial, Zone := x0.Zone } : Ac) ({ Report := j86.2, Serial := j178.2, Zone := j270.2 } : Ad)).bind fun r317 => (bif ((r317.2 != 0) || (r317.1 != x1)) then some (({ Report := 0, Serial := 0, Zone := 0 } : Ad), 1) else some (({ Report := j86.2, Serial := j178.2, Zone := j270.2 } : Ad), 0))))))))))
theorem GY : Ag Tryz.prog 97 := fun _ _ => by kernel_rfl
theorem HJ (N : Nat) (w0 : World) (F0 : Mem) (hF : US w0 F0) (hG : Br F0) (x0 : Ac) (x1 : UQ) (r : (Ad × Int)) (h : DK N x0 x1 = some r) :
  Calls Tryz.prog 97 ([(.agg (Ak x0)), (sv x1)] : List Value).toArray w0 (AB w0 F0 fun F' v => v = (.tuple #[(.agg (BP r.1)), (vi r.2)])) := by
 have hs0 := Uy hF
 refine Go 60 Tryz.func97 <| Sq (Rg [0, 1, 2] ?_)
 refine Bx' 23 (Ak x0) hs0 (fun b21 w22 hs23 => ?_)
 refine Al' 32 #[(vi 0), (vi 0), (vi 0)] hs23 (fun b24 w25 hs26 => ?_)
 refine Vs 1 <| Nss (Rg [0, 1, 2] ?_)
 refine Vs 1 ?_
 obtain ⟨r27, hr28, h29⟩ := bind_some h
 refine Cl' Ch hs26 (Cy N w25 F0 hs26.pers hG x1 (([32] : UQ)) _ hr28) ?_
 rintro _ F1 w31 hs32 le33 ⟨ar27_0_0, nr27_0_0, rfl, hbr27_0_0, hsr27_0_0⟩
 refine Vs 1 <| Nss (Rg [0] ?_)
 refine Al' 32 #[(vi 0), (vi 0), (vi 0)] hs32 (fun b35 w36 hs37 => ?_)
 refine Nss <| Sq (Rg (rG 6) ?_)
 refine Vs 3 <| Bs 194 [(pt b35 0), (pt b35 1), (pt b35 2)] hs37 (fun b38 w39 hs40 => ?_)
 refine Vs 2 <| Nt <| Bk <| CWP.unroll (by kernel_rfl) 4 <| URL.step <| Sq (Rg [0] ?_)
 refine Vs 1 <| Nss <| C1 (rfl : true = true) <| Sc <| Ab <| Sq <| Bk <| Sq (Rg (rG 5) ?_)
 refine Vs 1 <| V 22 0 (S8 (v1 := (pt b38 0)) (by rfl) (DF (t := 200) (x := (.tmp 17)) (y := (.tmp 19)) (b := b38) (nn := 3) (c := 3) (E := 194) (s := 1) (by_ := 8) (j := 0) rfl rfl (by kernel_rfl) (by decide))) <| Ld hs40.at0 <| Vs 2 <| Nss (Rg (rG 12) ?_)
 obtain ⟨j44, hj56, h57⟩ := bind_some h29
 refine UC (fun f w => ∃ (F2 : Mem), HS w0 F0 w F2 [(sb b38 #[(pt b35 0), (pt b35 1), (pt b35 2)] 194), (sb b35 #[(vi 0), (vi 0), (vi 0)] 32), (sb b24 #[(vi 0), (vi 0), (vi 0)] 32), (sb b21 (Ak x0) 23)] /\ Uw F1 F2 /\ FI f [] [(1, (sv x1)), (2, (pt b21 0)), (4, (pt b24 0)), (6, (.slice ar27_0_0 r27.length nr27_0_0)), (7, (pt b35 0)), (9, (pt b35 0)), (17, (.slice (some ⟨b38, 0, none⟩) 3 3)), (18, (vi 3)), (19, (vi 0)), (35, (.bool j44))]) ?_ ?_
 ·refine Ld hs40.at3 ?_
  refine Ld hs40.at1 ?_
  obtain ⟨r58, hr59, h60⟩ := bind_some hj56
  refine Cl' DX hs40 (Eu N w39 F1 hs40.pers (({ Report := x0.Report, Serial := x0.Serial, Zone := x0.Zone } : Ac)) (({ Report := 0, Serial := 0, Zone := 0 } : Ad)) _ hr59) ?_
  rintro _ F3 w62 hs63 le64 ⟨ar58_0_0, nr58_0_0, rfl, hbr58_0_0, hsr58_0_0⟩
  refine Vs 1 ?_
  obtain ⟨x66, hx67, h69⟩ := bind_some h60
  obtain ⟨hi68, hx67'⟩ := As hx67
  obtain ⟨b70, o71, C72, E73, fz74, rfl, hF76, hE77⟩ := UE hsr58_0_0 hx67'
  have hc79 := hE77 _ _ hx67'
  refine Ix hi68 <| Vs 1 <| Lx 0 (hs63.pers _ _ hF76) hc79 <| Vs 1 <| Sp h69 (fun hb80 h81 => ?_) (fun hb80 h82 => ?_)
  ·refine Vgs hb80 3 ?_
   refine Pk1 hb80 ?_
   obtain rfl := Aa h81
   exact Us ⟨rfl, F3, hs63, le64, fI⟩
  ·refine Ss hb80 3 ?_
   refine Pk0 hb80 ?_
   obtain rfl := Aa h82
   exact Us ⟨rfl, F3, hs63, le64, fI⟩
 ·rintro f w41 ⟨F2, hs42, le43, ⟨_, rfl⟩⟩
  refine Ab ?_
  obtain ⟨j86, hj96, h97⟩ := bind_some h57
  refine UD (fun f w => ∃ (F4 : Mem) (aj86_0 : UR) (nj86_0 : Nat), HS w0 F0 w F4 [(sb b38 #[(pt b35 0), (pt b35 1), (pt b35 2)] 194), (sb b35 #[(vi j86.2), (vi 0), (vi 0)] 32), (sb b24 #[(vi 0), (vi 0), (vi 0)] 32), (sb b21 (Ak x0) 23)] /\ Uw F2 F4 /\ FI f [] [(1, (sv x1)), (2, (pt b21 0)), (4, (pt b24 0)), (6, (.slice aj86_0 j86.1.length nj86_0)), (7, (pt b35 0)), (17, (.slice (some ⟨b38, 0, none⟩) 3 3)), (18, (vi 3)), (19, (vi 0))] /\ LC j86.1.length nj86_0 /\ SlA AF F4 aj86_0 j86.1) ?_ ?_
  ·refine Cd hj96 (fun hb98 h99 => ?_) (fun hb98 h100 => ?_)
   ·refine Sq (Rg (rG 7) ?_)
    refine Vs 2 ?_
    obtain ⟨x101, hx102, h104⟩ := bind_some h99
    obtain ⟨hi103, hx102'⟩ := As hx102
    obtain ⟨b105, o106, C107, E108, fz109, rfl, hF111, hE112⟩ := UE (Uz hsr27_0_0 le43) hx102'
    have hc114 := hE112 _ _ hx102'
    refine Ix hi103 <| Lx 0 (hs42.pers _ _ hF111) hc114 ?_
    obtain ⟨r115, hr116, h117⟩ := bind_some h104
    refine Cl' DA hs42 (D3 N w41 F2 hs42.pers (hG.mono (le33.t le43)) x101 _ hr116) ?_
    rintro _ F5 w119 hs120 le121 rfl
    refine Vs 1 <| St1 #[(vi r115), (vi 0), (vi 0)] hs120 (fun w123 hs124 => ?_)
    refine Nt <| Rg [0, 1, 2] <| Vs 1 ?_
    obtain ⟨r125, hr126, h127⟩ := bind_some h117
    obtain ⟨a128, n129, hb130, hs131, hrun132⟩ := EU (P := Tryz.prog) (T := AF) (lo := (some (.const (vi 1)))) (hi := none) (mx := none) (t := 55) (E := 9) (by_ := 16) (c := nr27_0_0) (a := (some ⟨b105, o106, none⟩)) (l := r27) (r := r125) (il := 1) (ih := (r27.length : Int)) (im := 0) (by kernel_rfl) (by kernel_rfl) hbr27_0_0 (Uz hsr27_0_0 (le43.t le121)) (fun h => by first | rfl | cases h) hr126
    refine V 43 55 (hrun132 (x := (.tmp 42)) rfl rfl rfl trivial) <| Vs 1 <| Us ?_
    obtain rfl := Aa h127
    exact .inl ⟨rfl, F5, a128, n129, hs124, le121, fI, hb130, hs131⟩
   ·refine Sc ?_
    obtain rfl := Aa h100
    exact .inl ⟨rfl, F2, ar27_0_0, nr27_0_0, hs42, (Ux _), fI, hbr27_0_0, (Uz hsr27_0_0 le43)⟩
  ·rintro f w83 ⟨F4, aj86_0, nj86_0, hs84, le85, ⟨_, rfl⟩, hbj86_0, hsj86_0⟩
   refine Av <| Ab <| Rg [0, 1] <| Vs 2 <| Nt <| URL.step <| Sq (Rg [0] ?_)
   refine Vs 1 <| Nss <| C1 (rfl : true = true) <| Sc <| Ab <| Sq <| Bk <| Sq (Rg (rG 5) ?_)
   refine Vs 1 <| V 22 0 (S8 (v1 := (pt b38 1)) (by rfl) (DF (t := 200) (x := (.tmp 17)) (y := (.tmp 19)) (b := b38) (nn := 3) (c := 3) (E := 194) (s := 1) (by_ := 8) (j := 1) rfl rfl (by kernel_rfl) (by decide))) <| Ld hs84.at0 <| Vs 2 <| Nss (Rg (rG 12) ?_)
   obtain ⟨j136, hj148, h149⟩ := bind_some h97
   refine UC (fun f w => ∃ (F6 : Mem), HS w0 F0 w F6 [(sb b38 #[(pt b35 0), (pt b35 1), (pt b35 2)] 194), (sb b35 #[(vi j86.2), (vi 0), (vi 0)] 32), (sb b24 #[(vi 0), (vi 0), (vi 0)] 32), (sb b21 (Ak x0) 23)] /\ Uw F4 F6 /\ FI f [] [(1, (sv x1)), (2, (pt b21 0)), (4, (pt b24 0)), (6, (.slice aj86_0 j86.1.length nj86_0)), (7, (pt b35 0)), (9, (pt b35 1)), (17, (.slice (some ⟨b38, 0, none⟩) 3 3)), (18, (vi 3)), (19, (vi 1)), (35, (.bool j136))]) ?_ ?_
   ·refine Ld hs84.at3 ?_
    refine Ld hs84.at1 ?_
    obtain ⟨r150, hr151, h152⟩ := bind_some hj148
    refine Cl' DX hs84 (Eu N w83 F4 hs84.pers (({ Report := x0.Report, Serial := x0.Serial, Zone := x0.Zone } : Ac)) (({ Report := j86.2, Serial := 0, Zone := 0 } : Ad)) _ hr151) ?_
    rintro _ F7 w154 hs155 le156 ⟨ar150_0_0, nr150_0_0, rfl, hbr150_0_0, hsr150_0_0⟩
    refine Vs 1 ?_
    obtain ⟨x158, hx159, h161⟩ := bind_some h152
    obtain ⟨hi160, hx159'⟩ := As hx159
    obtain ⟨b162, o163, C164, E165, fz166, rfl, hF168, hE169⟩ := UE hsr150_0_0 hx159'
    have hc171 := hE169 _ _ hx159'
    refine Ix hi160 <| Vs 1 <| Lx 0 (hs155.pers _ _ hF168) hc171 <| Vs 1 <| Sp h161 (fun hb172 h173 => ?_) (fun hb172 h174 => ?_)
    ·refine Vgs hb172 3 ?_
     refine Pk1 hb172 ?_
     obtain rfl := Aa h173
     exact Us ⟨rfl, F7, hs155, le156, fI⟩
    ·refine Ss hb172 3 ?_
     refine Pk0 hb172 ?_
     obtain rfl := Aa h174
     exact Us ⟨rfl, F7, hs155, le156, fI⟩
   ·rintro f w133 ⟨F6, hs134, le135, ⟨_, rfl⟩⟩
    refine Ab ?_
    obtain ⟨j178, hj188, h189⟩ := bind_some h149
    refine UD (fun f w => ∃ (F8 : Mem) (aj178_0 : UR) (nj178_0 : Nat), HS w0 F0 w F8 [(sb b38 #[(pt b35 0), (pt b35 1), (pt b35 2)] 194), (sb b35 #[(vi j86.2), (vi j178.2), (vi 0)] 32), (sb b24 #[(vi 0), (vi 0), (vi 0)] 32), (sb b21 (Ak x0) 23)] /\ Uw F6 F8 /\ FI f [] [(1, (sv x1)), (2, (pt b21 0)), (4, (pt b24 0)), (6, (.slice aj178_0 j178.1.length nj178_0)), (7, (pt b35 0)), (17, (.slice (some ⟨b38, 0, none⟩) 3 3)), (18, (vi 3)), (19, (vi 1))] /\ LC j178.1.length nj178_0 /\ SlA AF F8 aj178_0 j178.1) ?_ ?_
    ·refine Cd hj188 (fun hb190 h191 => ?_) (fun hb190 h192 => ?_)
     ·refine Sq (Rg (rG 7) ?_)
      refine Vs 2 ?_
      obtain ⟨x193, hx194, h196⟩ := bind_some h191
      obtain ⟨hi195, hx194'⟩ := As hx194
      obtain ⟨b197, o198, C199, E200, fz201, rfl, hF203, hE204⟩ := UE (Uz hsj86_0 le135) hx194'
      have hc206 := hE204 _ _ hx194'
      refine Ix hi195 <| Lx 0 (hs134.pers _ _ hF203) hc206 ?_
      obtain ⟨r207, hr208, h209⟩ := bind_some h196
      refine Cl' DA hs134 (D3 N w133 F6 hs134.pers (hG.mono (((le33.t le43).trans le85).trans le135)) x193 _ hr208) ?_
      rintro _ F9 w211 hs212 le213 rfl
      refine Vs 1 <| St1 #[(vi j86.2), (vi r207), (vi 0)] hs212 (fun w215 hs216 => ?_)
      refine Nt <| Rg [0, 1, 2] <| Vs 1 ?_
      obtain ⟨r217, hr218, h219⟩ := bind_some h209
      obtain ⟨a220, n221, hb222, hs223, hrun224⟩ := EU (P := Tryz.prog) (T := AF) (lo := (some (.const (vi 1)))) (hi := none) (mx := none) (t := 55) (E := 9) (by_ := 16) (c := nj86_0) (a := (some ⟨b197, o198, none⟩)) (l := j86.1) (r := r217) (il := 1) (ih := (j86.1.length : Int)) (im := 0) (by kernel_rfl) (by kernel_rfl) hbj86_0 (Uz hsj86_0 (le135.t le213)) (fun h => by first | rfl | cases h) hr218
      refine V 43 55 (hrun224 (x := (.tmp 42)) rfl rfl rfl trivial) <| Vs 1 <| Us ?_
      obtain rfl := Aa h219
      exact .inl ⟨rfl, F9, a220, n221, hs216, le213, fI, hb222, hs223⟩
     ·refine Sc ?_
      obtain rfl := Aa h192
      exact .inl ⟨rfl, F6, aj86_0, nj86_0, hs134, (Ux _), fI, hbj86_0, (Uz hsj86_0 le135)⟩
    ·rintro f w175 ⟨F8, aj178_0, nj178_0, hs176, le177, ⟨_, rfl⟩, hbj178_0, hsj178_0⟩
     refine Av <| Ab <| Rg [0, 1] <| Vs 2 <| Nt <| URL.step <| Sq (Rg [0] ?_)
     refine Vs 1 <| Nss <| C1 (rfl : true = true) <| Sc <| Ab <| Sq <| Bk <| Sq (Rg (rG 5) ?_)
     refine Vs 1 <| V 22 0 (S8 (v1 := (pt b38 2)) (by rfl) (DF (t := 200) (x := (.tmp 17)) (y := (.tmp 19)) (b := b38) (nn := 3) (c := 3) (E := 194) (s := 1) (by_ := 8) (j := 2) rfl rfl (by kernel_rfl) (by decide))) <| Ld hs176.at0 <| Vs 2 <| Nss (Rg (rG 12) ?_)
     obtain ⟨j228, hj240, h241⟩ := bind_some h189
     refine UC (fun f w => ∃ (F10 : Mem), HS w0 F0 w F10 [(sb b38 #[(pt b35 0), (pt b35 1), (pt b35 2)] 194), (sb b35 #[(vi j86.2), (vi j178.2), (vi 0)] 32), (sb b24 #[(vi 0), (vi 0), (vi 0)] 32), (sb b21 (Ak x0) 23)] /\ Uw F8 F10 /\ FI f [] [(1, (sv x1)), (2, (pt b21 0)), (4, (pt b24 0)), (6, (.slice aj178_0 j178.1.length nj178_0)), (7, (pt b35 0)), (9, (pt b35 2)), (17, (.slice (some ⟨b38, 0, none⟩) 3 3)), (18, (vi 3)), (19, (vi 2)), (35, (.bool j228))]) ?_ ?_
     ·refine Ld hs176.at3 ?_
      refine Ld hs176.at1 ?_
      obtain ⟨r242, hr243, h244⟩ := bind_some hj240
      refine Cl' DX hs176 (Eu N w175 F8 hs176.pers (({ Report := x0.Report, Serial := x0.Serial, Zone := x0.Zone } : Ac)) (({ Report := j86.2, Serial := j178.2, Zone := 0 } : Ad)) _ hr243) ?_
      rintro _ F11 w246 hs247 le248 ⟨ar242_0_0, nr242_0_0, rfl, hbr242_0_0, hsr242_0_0⟩
      refine Vs 1 ?_
      obtain ⟨x250, hx251, h253⟩ := bind_some h244
      obtain ⟨hi252, hx251'⟩ := As hx251
      obtain ⟨b254, o255, C256, E257, fz258, rfl, hF260, hE261⟩ := UE hsr242_0_0 hx251'
      have hc263 := hE261 _ _ hx251'
      refine Ix hi252 <| Vs 1 <| Lx 0 (hs247.pers _ _ hF260) hc263 <| Vs 1 <| Sp h253 (fun hb264 h265 => ?_) (fun hb264 h266 => ?_)
      ·refine Vgs hb264 3 ?_
       refine Pk1 hb264 ?_
       obtain rfl := Aa h265
       exact Us ⟨rfl, F11, hs247, le248, fI⟩
      ·refine Ss hb264 3 ?_
       refine Pk0 hb264 ?_
       obtain rfl := Aa h266
       exact Us ⟨rfl, F11, hs247, le248, fI⟩
     ·rintro f w225 ⟨F10, hs226, le227, ⟨_, rfl⟩⟩
      refine Ab ?_
      obtain ⟨j270, hj280, h281⟩ := bind_some h241
      refine UD (fun f w => ∃ (F12 : Mem) (aj270_0 : UR) (nj270_0 : Nat), HS w0 F0 w F12 [(sb b38 #[(pt b35 0), (pt b35 1), (pt b35 2)] 194), (sb b35 #[(vi j86.2), (vi j178.2), (vi j270.2)] 32), (sb b24 #[(vi 0), (vi 0), (vi 0)] 32), (sb b21 (Ak x0) 23)] /\ Uw F10 F12 /\ FI f [] [(1, (sv x1)), (2, (pt b21 0)), (4, (pt b24 0)), (6, (.slice aj270_0 j270.1.length nj270_0)), (7, (pt b35 0)), (17, (.slice (some ⟨b38, 0, none⟩) 3 3)), (18, (vi 3)), (19, (vi 2))] /\ LC j270.1.length nj270_0 /\ SlA AF F12 aj270_0 j270.1) ?_ ?_
      ·refine Cd hj280 (fun hb282 h283 => ?_) (fun hb282 h284 => ?_)
       ·refine Sq (Rg (rG 7) ?_)
        refine Vs 2 ?_
        obtain ⟨x285, hx286, h288⟩ := bind_some h283
        obtain ⟨hi287, hx286'⟩ := As hx286
        obtain ⟨b289, o290, C291, E292, fz293, rfl, hF295, hE296⟩ := UE (Uz hsj178_0 le227) hx286'
        have hc298 := hE296 _ _ hx286'
        refine Ix hi287 <| Lx 0 (hs226.pers _ _ hF295) hc298 ?_
        obtain ⟨r299, hr300, h301⟩ := bind_some h288
        refine Cl' DA hs226 (D3 N w225 F10 hs226.pers (hG.mono (((((le33.t le43).trans le85).trans le135).trans le177).trans le227)) x285 _ hr300) ?_
        rintro _ F13 w303 hs304 le305 rfl
        refine Vs 1 <| St1 #[(vi j86.2), (vi j178.2), (vi r299)] hs304 (fun w307 hs308 => ?_)
        refine Nt <| Rg [0, 1, 2] <| Vs 1 ?_
        obtain ⟨r309, hr310, h311⟩ := bind_some h301
        obtain ⟨a312, n313, hb314, hs315, hrun316⟩ := EU (P := Tryz.prog) (T := AF) (lo := (some (.const (vi 1)))) (hi := none) (mx := none) (t := 55) (E := 9) (by_ := 16) (c := nj178_0) (a := (some ⟨b289, o290, none⟩)) (l := j178.1) (r := r309) (il := 1) (ih := (j178.1.length : Int)) (im := 0) (by kernel_rfl) (by kernel_rfl) hbj178_0 (Uz hsj178_0 (le227.t le305)) (fun h => by first | rfl | cases h) hr310
        refine V 43 55 (hrun316 (x := (.tmp 42)) rfl rfl rfl trivial) <| Vs 1 <| Us ?_
        obtain rfl := Aa h311
        exact .inl ⟨rfl, F13, a312, n313, hs308, le305, fI, hb314, hs315⟩
       ·refine Sc ?_
        obtain rfl := Aa h284
        exact .inl ⟨rfl, F10, aj178_0, nj178_0, hs226, (Ux _), fI, hbj178_0, (Uz hsj178_0 le227)⟩
      ·rintro f w267 ⟨F12, aj270_0, nj270_0, hs268, le269, ⟨_, rfl⟩, hbj270_0, hsj270_0⟩
       refine Av <| Ab <| Rg [0, 1] <| Vs 2 <| Nt <| URL.step <| Sq (Rg [0] ?_)
       refine Vs 1 <| Nss <| C0 (rfl : false = false) <| Ex <| Au <| Au <| AA rfl <| Ab <| Sq <| Sq (Rg (rG 8) ?_)
       refine Ld hs268.at3 <| Ld hs268.at1 ?_
       obtain ⟨r317, hr318, h319⟩ := bind_some h281
       refine Cl' CZ hs268 (Dq N w267 F12 hs268.pers (hG.mono ((((((le33.t le43).trans le85).trans le135).trans le177).trans le227).trans le269)) (({ Report := x0.Report, Serial := x0.Serial, Zone := x0.Zone } : Ac)) (({ Report := j86.2, Serial := j178.2, Zone := j270.2 } : Ad)) _ hr318) ?_
       rintro _ F14 w321 hs322 le323 rfl
       refine Vs 5 <| Nss (Rg (rG 7) ?_)
       refine UC (fun f w => ∃ (F15 : Mem), HS w0 F0 w F15 [(sb b35 #[(vi j86.2), (vi j178.2), (vi j270.2)] 32), (sb b24 #[(vi 0), (vi 0), (vi 0)] 32)] /\ Uw F14 F15 /\ FI f [] [(4, (pt b24 0)), (7, (pt b35 0)), (57, (.bool ((r317.2 != 0) || (r317.1 != x1))))]) ?_ ?_
       ·refine Vs 3 ?_
        refine UB (r317.2 != 0) (fun hb332 => ?_) (fun hb332 => ?_)
        ·refine Ss hb332 3 ?_
         refine Pk1 hb332 ?_
         exact Us ⟨rfl, F14, hs322.dr0.dr2, (Ux _), (fJ ⟨rfl, rfl, (congrArg Value.bool (FN hb332 rfl)), trivial⟩)⟩
        ·refine Vgs hb332 3 ?_
         refine Pk0 hb332 ?_
         exact Us ⟨rfl, F14, hs322.dr0.dr2, (Ux _), (fJ ⟨rfl, rfl, (congrArg Value.bool (Ct hb332 rfl)), trivial⟩)⟩
       ·rintro f w325 ⟨F15, hs326, le327, ⟨_, rfl⟩⟩
        refine Ab <| Cd h319 (fun hb333 h334 => ?_) (fun hb333 h335 => ?_)
        ·refine Sq (Rg [0, 1, 2] ?_)
         refine Vs 1 <| St1 #[(vi 0), (vi 0), (vi 0)] hs326 (fun w336 hs337 => ?_)
         refine Vs 1 <| Nt <| Rt <| Aj ?_
         obtain rfl := Aa h334
         exact ⟨rfl, (.tuple #[(.agg #[(vi 0), (vi 0), (vi 0)]), (vi 1)]), AR (l := [.cell 4 32, .tmp 5]) (by kernel_rfl) (vs := [(.agg #[(vi 0), (vi 0), (vi 0)]), (vi 1)]) ⟨b24, 0, rfl, Am (t := 32) (g := true) (s := 3) (by kernel_rfl) hs337.at1 rfl (by decide), ⟨rfl, trivial⟩⟩, (.tuple #[(.agg #[(vi 0), (vi 0), (vi 0)]), (vi 1)]), F15, rfl, hs337.clear, rfl⟩
        ·refine Sc ?_
         refine Ab <| Sq (Rg [0, 1, 2] ?_)
         refine Ld hs326.at0 <| St1 #[(vi j86.2), (vi j178.2), (vi j270.2)] hs326 (fun w338 hs339 => ?_)
         refine Vs 1 <| Nt <| Rt ?_
         obtain rfl := Aa h335
         exact ⟨rfl, (.tuple #[(.agg #[(vi j86.2), (vi j178.2), (vi j270.2)]), (vi 0)]), AR (l := [.cell 4 32, .tmp 5]) (by kernel_rfl) (vs := [(.agg #[(vi j86.2), (vi j178.2), (vi j270.2)]), (vi 0)]) ⟨b24, 0, rfl, Am (t := 32) (g := true) (s := 3) (by kernel_rfl) hs339.at1 rfl (by decide), ⟨rfl, trivial⟩⟩, (.tuple #[(.agg #[(vi j86.2), (vi j178.2), (vi j270.2)]), (vi 0)]), F15, rfl, hs339.clear, rfl⟩






def Cn (N : Nat) (x0 : (List UQ)) (x1 : UQ) : Option Bool :=
 ((AN N x0 x1).bind fun r21 => some (decide (r21 >= 0)))
theorem DW : Ag Tryz.prog 122 := fun _ _ => by kernel_rfl
theorem D7 (N : Nat) (w0 : World) (F0 : Mem) (hF : US w0 F0) (x0 : (List UQ)) (a0_0 : UR) (n0_0 : Nat) (hb0_0 : LC x0.length n0_0) (hs0_0 : SlA AF F0 a0_0 x0) (x1 : UQ) (r : Bool) (h : Cn N x0 x1 = some r) :
  Calls Tryz.prog 122 ([(.slice a0_0 x0.length n0_0), (sv x1)] : List Value).toArray w0 (AB w0 F0 fun F' v => v = (.bool r)) := by
 have hs0 := Uy hF
 refine Go 9 Tryz.func122 <| Sq (Rg [0] ?_)
 refine Vs 1 <| Nss (Rg (rG 5) ?_)
 refine Vs 2 ?_
 obtain ⟨r21, hr22, h23⟩ := bind_some h
 refine Cl' Cr hs0 (Cz N w0 F0 hs0.pers x0 a0_0 n0_0 hb0_0 hs0_0 x1 _ hr22) ?_
 rintro _ F1 w25 hs26 le27 rfl
 refine Vs 2 <| Nt <| Rt ?_
 obtain rfl := Aa h23
 exact Re [(.bool (decide (r21 >= 0)))] hs26 rfl
def A3 (N : Nat) (x0 : List Fix) : (Int × Int × List Fix) -> Option (BD (List Fix) (Int × Int × List Fix)) := fun s4 =>
 (bif (decide (s4.1 < s4.2.1)) then none else some (.done (s4.1, s4.2.1, s4.2.2)))
def Be (N : Nat) (x0 : List Fix) : Option (List Fix) :=
 ((A0 (A3 N x0) N (0, (W64 ((x0.length : Int) - 1)), x0)).bind fun o => o.k (fun r => some r) (fun s12 => some s12.2.2))
theorem DO : Ag Tryz.prog 126 := fun _ _ => by kernel_rfl
theorem D0 (N : Nat) {wb w0 : World} {Fb F0 : Mem} {Lf : Own} (x0 : List Fix) (a0 : UR) (n0 : Nat) (e0 : Option Nat × Obj) (hr0 : Ap I4 64 F0 a0 n0 x0 e0) (hs0 : HS wb Fb w0 F0 (e0 :: Lf)) (r : List Fix) (h : Be N x0 = some r) :
  Calls Tryz.prog 126 ([.slice a0 x0.length n0] : List Value).toArray w0 (fun e w' => ∃ F' e', e = .returned (.tuple #[]) /\ HS wb Fb w' F' (e' :: Lf) /\ Uw F0 F' /\ Ap I4 64 F' a0 n0 r e') := by
 refine Mj (n := 28) (c := Mp Tryz.f126) Tryz.func126 (by kernel_rfl) (by kernel_rfl) (by kernel_rfl) <| Sq (Rg (rG 5) ?_)
 refine Vs 1 <| Vs 1 <| Vs 1 <| Vs 1 <| Vs 1 <| Nt ?_
 obtain ⟨o1, ho2, h3⟩ := bind_some h
 refine UD (fun f w => ∃ (s12 : (Int × Int × List Fix)) (F2 : Mem) (es12_2 : Option Nat × Obj), o1 = .done s12 /\ HS wb Fb w F2 (es12_2 :: Lf) /\ Uw F0 F2 /\ FI f [] [] /\ Ap I4 64 F2 a0 n0 s12.2.2 es12_2) ?_ ?_
 ·refine Bk ?_
  refine Uv (by kernel_rfl) (fun m f w => ∃ (s4 : (Int × Int × List Fix)) (F1 : Mem) (es4_2 : Option Nat × Obj), A0 (A3 N x0) m s4 = some o1 /\ HS wb Fb w F1 (es4_2 :: Lf) /\ Uw F0 F1 /\ FI f [] [(0, (.slice a0 s4.2.2.length n0)), (2, (vi s4.1)), (3, (vi s4.2.1))] /\ Ap I4 64 F1 a0 n0 s4.2.2 es4_2) N ⟨(0, (W64 ((x0.length : Int) - 1)), x0), F0, e0, ho2, hs0, (Ux _), fI, hr0⟩ ?_
  rintro m17 f w5 ⟨s4, F1, es4_2, hit18, hs6, le7, ⟨_, rfl⟩, hrs4_2⟩
  obtain ⟨m19, fl20, rfl, hb21, hnx22⟩ := AU hit18
  refine Sq <| Sq (Rg [0, 1, 2] ?_)
  refine Vs 1 <| Vs 1 <| Vs 1 <| Nt <| Cd hb21 (fun hb23 h24 => ?_) (fun hb23 h25 => ?_)
  ·cases h24
  ·refine Ex ?_
   refine Au <| Au <| AA rfl ?_
   have ho26 := AW h25 hnx22
   exact .inl ⟨rfl, (s4.1, s4.2.1, s4.2.2), F1, es4_2, ho26, hs6, le7, fI, hrs4_2⟩
 ·rintro f w13 ⟨s12, F2, es12_2, rfl, hs14, le15, ⟨_, rfl⟩, hrs12_2⟩
  have h27 := BL h3
  have hfin := Aa h27
  subst hfin
  exact ⟨rfl, .tuple #[], AR (l := []) (by kernel_rfl) (vs := []) trivial, F2, _, rfl, hs14, le15, hrs12_2⟩











def Bg (N : Nat) (x0 : (List Line)) (x1 : Int) (x2 : (Line -> Int -> Option Int)) : (Int × Int) -> Option (BD (Int × Bool) (Int × Int)) := fun s24 =>
 (bif (decide (s24.1 < s24.2)) then ((idx x0 (W64 (Int.fdiv (IntKind.u64.wrap (W64 (s24.1 + s24.2))) (2 ^ min (1 : Int).toNat IntKind.u64.bits)))).bind fun x54 => ((x2 x54 x1).bind fun r68 => (bif (decide (r68 < 0)) then none else some (.next (s24.1, (W64 (Int.fdiv (IntKind.u64.wrap (W64 (s24.1 + s24.2))) (2 ^ min (1 : Int).toNat IntKind.u64.bits)))))))) else some (.done (s24.1, s24.2)))
def Bn (N : Nat) (x0 : (List Line)) (x1 : Int) (x2 : (Line -> Int -> Option Int)) : Option (Int × Bool) :=
 ((A0 (Bg N x0 x1 x2) N (0, (x0.length : Int))).bind fun o => o.k (fun r => some r) (fun s35 => (bif (decide (s35.1 < (x0.length : Int))) then ((idx x0 s35.1).bind fun x85 => ((x2 x85 x1).bind fun r99 => some (s35.1, (r99 == 0)))) else none)))
theorem BV : Ag Tryz.prog 252 := fun _ _ => by kernel_rfl
theorem B8 (N : Nat) (w0 : World) (F0 : Mem) (hF : US w0 F0) (x0 : (List Line)) (a0_0 : UR) (n0_0 : Nat) (hb0_0 : LC x0.length n0_0) (hs0_0 : SlA AK F0 a0_0 x0) (x1 : Int) (gx2 : FuncId) (fx2 kx2 : List Value) (x2 : Line -> Int -> Option Int) (hox2 : Ag Tryz.prog gx2) (hpx2 : P6 F0 gx2 fx2 kx2 x2) (r : (Int × Bool)) (h : Bn N x0 x1 x2 = some r) :
  Calls Tryz.prog 252 ([(.slice a0_0 x0.length n0_0), (vi x1), (.func (.func gx2) fx2.toArray kx2.toArray)] : List Value).toArray w0 (AB w0 F0 fun F' v => v = (.tuple #[(vi r.1), (.bool r.2)])) := by
 have hs0 := Uy hF
 refine Go 49 Tryz.func252 <| Sq (Rg [0, 1] ?_)
 refine Vs 2 <| Nss (Rg [0, 1, 2] ?_)
 refine Vs 3 <| Nss (Rg [0, 1, 2] ?_)
 refine Vs 3 <| Nss ?_
 obtain ⟨o21, ho22, h23⟩ := bind_some h
 refine UD (fun f w => ∃ (s35 : (Int × Int)) (F2 : Mem), o21 = .done s35 /\ HS w0 F0 w F2 [] /\ Uw F0 F2 /\ FI f [] [(0, (.slice a0_0 x0.length n0_0)), (1, (vi x1)), (2, (.func (.func gx2) fx2.toArray kx2.toArray)), (8, (vi (x0.length : Int))), (9, (vi s35.1))]) ?_ ?_
 ·refine Bk ?_
  refine Uv (by kernel_rfl) (fun m f w => ∃ (s24 : (Int × Int)) (F1 : Mem), A0 (Bg N x0 x1 x2) m s24 = some o21 /\ HS w0 F0 w F1 [] /\ Uw F0 F1 /\ FI f [] [(0, (.slice a0_0 x0.length n0_0)), (1, (vi x1)), (2, (.func (.func gx2) fx2.toArray kx2.toArray)), (8, (vi (x0.length : Int))), (9, (vi s24.1)), (10, (vi s24.2))]) N ⟨(0, (x0.length : Int)), F0, ho22, hs0, (Ux _), fI⟩ ?_
  rintro m45 f w25 ⟨s24, F1, hit46, hs26, le27, ⟨_, rfl⟩⟩
  obtain ⟨m47, fl48, rfl, hb49, hnx50⟩ := AU hit46
  refine Sq <| Sq (Rg [0, 1, 2] ?_)
  refine Vs 3 <| Nt <| Cd hb49 (fun hb51 h52 => ?_) (fun hb51 h53 => ?_)
  ·refine Sc ?_
   refine Ab <| Bk <| Sq (Rg (rG 7) ?_)
   refine Vs 4 <| V 22 222 (R3 (t := 222) (t' := 222) (x := (.tmp 21)) (y := (.const (.int .u64 1))) (k := .u64) (q := .u64) (a := (IntKind.u64.wrap (W64 (s24.1 + s24.2)))) (b := 1) rfl rfl (by decide)) <| Vs 2 <| Nss (Rg (rG 8) ?_)
   refine Vs 3 ?_
   obtain ⟨x54, hx55, h57⟩ := bind_some h52
   obtain ⟨hi56, hx55'⟩ := As hx55
   obtain ⟨b58, o59, C60, E61, fz62, rfl, hF64, hE65⟩ := UE (Uz hs0_0 le27) hx55'
   have hc67 := hE65 _ _ hx55'
   refine Ix hi56 <| Lx 0 (hs26.pers _ _ hF64) hc67 <| Vs 1 ?_
   obtain ⟨r68, hr69, h70⟩ := bind_some h57
   refine Cq hox2 hs26 (hpx2 w25 F1 x54 x1 _ le27 hs26.pers hr69) ?_
   rintro _ F3 w72 hs73 le74 rfl
   refine Vs 1 <| Nt <| Cd h70 (fun hb76 h77 => ?_) (fun hb76 h78 => ?_)
   ·cases h77
   ·refine Rg [0, 1] ?_
    refine Vs 2 <| Us <| Av ?_
    have hn79 := AV h78 hnx50
    exact ⟨m47, Nat.lt_succ_self _, (s24.1, (W64 (Int.fdiv (IntKind.u64.wrap (W64 (s24.1 + s24.2))) (2 ^ min (1 : Int).toNat IntKind.u64.bits)))), F3, hn79, hs73, (le27.t le74), fI⟩
  ·refine Ex ?_
   refine Au <| Au <| AA rfl ?_
   have ho80 := AW h53 hnx50
   exact .inl ⟨rfl, (s24.1, s24.2), F1, ho80, hs26, le27, fI⟩
 ·rintro f w36 ⟨s35, F2, rfl, hs37, le38, ⟨_, rfl⟩⟩
  have h81 := BL h23
  refine Ab <| Sq (Rg (rG 16) ?_)
  refine Vs 5 <| Sp h81 (fun hb82 h83 => ?_) (fun hb82 h84 => ?_)
  ·refine Vgs hb82 3 ?_
   obtain ⟨x85, hx86, h88⟩ := bind_some h83
   obtain ⟨hi87, hx86'⟩ := As hx86
   obtain ⟨b89, o90, C91, E92, fz93, rfl, hF95, hE96⟩ := UE (Uz hs0_0 le38) hx86'
   have hc98 := hE96 _ _ hx86'
   refine Ixg hb82 hi87 <| Lxg hb82 0 (hs37.pers _ _ hF95) hc98 <| Vgs hb82 1 ?_
   obtain ⟨r99, hr100, h101⟩ := bind_some h88
   refine RWP.call (dst := (some 46)) (ty := 3) (g := (some (4, true))) (by kernel_rfl) (Ho (d := 39) (by kernel_rfl) rfl hb82) (f0 := (.tmp 40)) (aos := #[(.tmp 44), (.tmp 45)]) (ats := #[34, 3]) (fid := gx2) (first := fx2.toArray) (cap := kx2.toArray) (args := (fx2 ++ (([(.agg (B6 x85)), (vi x1)] : List Value) ++ kx2))) rfl hox2 (DL (l := [(.agg (B6 x85)), (vi x1)]) (fi := fx2) (k := kx2) rfl) hs37 (hpx2 w36 F2 x85 x1 _ le38 hs37.pers hr100) ?_
   rintro _ F4 w103 hs104 le105 rfl
   refine Vgs hb82 1 <| Pk1 hb82 <| Vs 2 <| Nt <| Rt ?_
   obtain rfl := Aa h101
   exact Re [(vi s35.1), (.bool (r99 == 0))] hs104 rfl
  ·cases h84
def FF (N : Nat) (x0 : Int) : Option Bool :=
 some (x0 != x0)
theorem Ga : Ag Tryz.prog 281 := fun _ _ => by kernel_rfl
theorem GT (N : Nat) (w0 : World) (F0 : Mem) (hF : US w0 F0) (x0 : Int) (r : Bool) (h : FF N x0 = some r) :
  Calls Tryz.prog 281 ([(vi x0)] : List Value).toArray w0 (AB w0 F0 fun F' v => v = (.bool r)) := by
 have hs0 := Uy hF
 refine Go 6 Tryz.func281 <| Sq (Rg [0] ?_)
 refine Vs 1 <| Nss (Rg (rG 4) ?_)
 refine Vs 4 <| Nt <| Rt ?_
 obtain rfl := Aa h
 exact Re [(.bool (x0 != x0))] hs0 rfl
def GR (N : Nat) (x0 : Int) (x1 : Int) : Option Int :=
 ((FF N x0).bind fun r21 => ((FF N x1).bind fun r29 => (bif r21 then none else (bif r29 then none else (bif (decide (x0 < x1)) then none else (bif (decide (x0 > x1)) then none else some 0))))))
theorem IL : Ag Tryz.prog 254 := fun _ _ => by kernel_rfl
theorem JE (N : Nat) (w0 : World) (F0 : Mem) (hF : US w0 F0) (x0 : Int) (x1 : Int) (r : Int) (h : GR N x0 x1 = some r) :
  Calls Tryz.prog 254 ([(vi x0), (vi x1)] : List Value).toArray w0 (AB w0 F0 fun F' v => v = (vi r)) := by
 have hs0 := Uy hF
 refine Go 20 Tryz.func254 <| Sq (Rg [0] ?_)
 refine Vs 1 <| Nss (Rg [0, 1, 2] ?_)
 refine Vs 1 ?_
 obtain ⟨r21, hr22, h23⟩ := bind_some h
 refine Cl' Ga hs0 (GT N w0 F0 hs0.pers x0 _ hr22) ?_
 rintro _ F1 w25 hs26 le27 rfl
 refine Vs 1 <| Nss (Rg [0, 1, 2] ?_)
 refine Vs 1 ?_
 obtain ⟨r29, hr30, h31⟩ := bind_some h23
 refine Cl' Ga hs26 (GT N w25 F1 hs26.pers x1 _ hr30) ?_
 rintro _ F2 w33 hs34 le35 rfl
 refine Vs 1 <| Nss <| Sq (Rg [0] ?_)
 refine Vs 1 <| Nt <| Cd h31 (fun hb37 h38 => ?_) (fun hb37 h39 => ?_)
 ·cases h38
 ·refine Sc ?_
  refine Ab <| Sq <| Sq (Rg [0] ?_)
  refine Vs 1 <| Nt <| Cd h39 (fun hb40 h41 => ?_) (fun hb40 h42 => ?_)
  ·cases h41
  ·refine Sc ?_
   refine Ab <| Sq <| Sq (Rg [0, 1, 2] ?_)
   refine Vs 3 <| Nt <| Cd h42 (fun hb43 h44 => ?_) (fun hb43 h45 => ?_)
   ·cases h44
   ·refine Sc ?_
    refine Ab <| Sq <| Sq (Rg [0, 1, 2] ?_)
    refine Vs 3 <| Nt <| Cd h45 (fun hb46 h47 => ?_) (fun hb46 h48 => ?_)
    ·cases h47
    ·refine Sc ?_
     refine Ab <| Sq (Rg [0] ?_)
     refine Vs 1 <| Nt <| Rt ?_
     obtain rfl := Aa h48
     exact Re [(vi 0)] hs34 rfl

end Go.Proofs.YthljkpeimofbbaaGreatDoor

namespace Go.Proofs.YthljkpeimofbbaaGreatDoor
def isL (b : UInt8) : Bool := decide (65 <= b.toNat) && decide (b.toNat <= 90)
def isD (b : UInt8) : Bool := decide (48 <= b.toNat) && decide (b.toNat <= 57)
def isE (b : UInt8) : Bool := isL b || isD b
theorem Rr {b : UInt8} (h : 128 <= b.toNat) : isL b = false := by unfold isL; simp; omega
theorem Rv {b : UInt8} (h : 128 <= b.toNat) : isD b = false := by unfold isD; simp; omega
theorem Tp {b : UInt8} (h : 128 <= b.toNat) : isE b = false := by unfold isE; rw [Rr h, Rv h]; rfl
theorem NC {b : UInt8} (h : isE b = true) : b.toNat < 128 := by unfold isE isL isD at h; simp at h; omega
theorem Ui {b : UInt8} (h : isL b = true) : isD b = false := by unfold isL at h; unfold isD; simp at h ⊢; omega
theorem Oo (N : Nat) (b : UInt8) : BH N (b.toNat : Int) = some (isL b) := by
 unfold BH isL
 congr 2 <;> (rw [decide_eq_decide]; omega)
theorem PV (N : Nat) (b : UInt8) : Bf N (b.toNat : Int) = some (isD b) := by
 unfold Bf isD
 congr 2 <;> (rw [decide_eq_decide]; omega)
theorem Je (N : Nat) {n : Nat} (h : 128 <= n) : BH N (n : Int) = some false := by
 unfold BH
 have : decide ((n : Int) <= 90) = false := by rw [decide_eq_false_iff_not]; omega
 rw [this, Bool.and_false]
theorem KE (N : Nat) {n : Nat} (h : 128 <= n) : Bf N (n : Int) = some false := by
 unfold Bf
 have : decide ((n : Int) <= 57) = false := by rw [decide_eq_false_iff_not]; omega
 rw [this, Bool.and_false]
theorem Rb (N : Nat) (b : UInt8) : C7 N (b.toNat : Int) = some (isE b) := by
 unfold C7 isE
 rw [Oo, PV]
 cases isL b <;> rfl
theorem NA (N : Nat) {n : Nat} (h : 128 <= n) : C7 N (n : Int) = some false := by
 unfold C7
 rw [Je N h, KE N h]
 rfl
theorem LT (N : Nat) (a b c : Int) : E3 N a b c = some (decide (b <= a) && decide (a <= c)) := rfl
structure E9 (p : Int -> Option Bool) (P : UInt8 -> Bool) : Prop where
 lo : ∀ b : UInt8, b.toNat < 128 -> p (b.toNat : Int) = some (P b)
 hi : ∀ n : Nat, 128 <= n -> p (n : Int) = some false
 big : ∀ b : UInt8, 128 <= b.toNat -> P b = false
theorem QV (N : Nat) : E9 (fun y0 => BH N y0) isL := ⟨fun b _ => Oo N b, fun _ h => Je N h, fun _ h => Rr h⟩
theorem PM (N : Nat) : E9 (fun y0 => Bf N y0) isD := ⟨fun b _ => PV N b, fun _ h => KE N h, fun _ h => Rv h⟩
theorem TT (N : Nat) : E9 (fun y0 => C7 N y0) isE := ⟨fun b _ => Rb N b, fun _ h => NA N h, fun _ h => Tp h⟩
theorem E9.some {p : Int -> Option Bool} {P : UInt8 -> Bool} (h : E9 p P) (n : Nat) : (p (n : Int)).isSome = true := by
 rcases Nat.lt_or_ge n 128 with h' | h'
 ·have := h.lo (UInt8.ofNat n) (by rw [UInt8.toNat_ofNat']; omega)
  have e : (UInt8.ofNat n).toNat = n := by rw [UInt8.toNat_ofNat']; omega
  rw [e] at this
  rw [this]; rfl
 ·rw [h.hi n h']; rfl
theorem E9.all {p : Int -> Option Bool} {P : UInt8 -> Bool} (h : E9 p P) : I9 p = true := G9.2 fun n _ => h.some n
theorem FO {p : Int -> Option Bool} {P : UInt8 -> Bool} (hp : E9 p P) {N : Nat} (s : UQ) (most : Int) (hN : s.length < N) :
  Ew N s most p = some (s.all P && (decide (1 <= (s.length : Int)) && decide ((s.length : Int) <= most))) := by
 have key := Fm (body := Ev N s most p) s.length (fun i (st : Nat) => st = i /\ (s.take i).all P = true)
  (fun o => (s.all P = true /\ o = .done s.length) \/ (s.all P = false /\ o = .ret false)) (by
   rintro i st hi ⟨rfl, hall⟩
   by_cases h : st < s.length
   ·have hget : s[st]? = some s[st] := List.getElem?_eq_getElem h
    unfold Ev
    simp only [h, decide_true, cond_true]
    have htake : s.take (st + 1) = s.take st ++ [s[st]] := by rw [List.take_add_one, hget]; rfl
    have hfalse : P s[st] = false -> s.all P = false := fun hP => by
     rw [List.all_eq_false]; exact ⟨s[st], List.getElem_mem h, by rw [hP]; simp⟩
    rcases Nat.lt_or_ge s[st].toNat 128 with hb | hb
    ·rw [LE hget hb, hp.lo _ hb]
     simp only [Option.bind_some]
     cases hP : P s[st] with
     | true => exact .inl ⟨st + 1, rfl, ⟨rfl, by rw [htake, List.all_append, hall]; simp [hP]⟩, trivial⟩
     | false => exact .inr ⟨.ret false, rfl, (fun _ e => by cases e), .inr ⟨hfalse hP, rfl⟩⟩
    ·have hs := O1 hget hb
     rw [hp.hi _ hs.1]
     simp only [Option.bind_some]
     exact .inr ⟨.ret false, rfl, (fun _ e => by cases e), .inr ⟨hfalse (hp.big _ hb), rfl⟩⟩
   ·have : st = s.length := by omega
    subst this
    unfold Ev
    simp only [Nat.lt_irrefl, decide_false, cond_false]
    exact .inr ⟨_, rfl, (fun _ e => by cases e), .inl ⟨by simpa using hall, rfl⟩⟩) s.length N 0 0 (by omega) ⟨rfl, rfl⟩ hN
 obtain ⟨o, ho, hR⟩ := key
 unfold Ew
 rw [ho]
 rcases hR with ⟨h1, rfl⟩ | ⟨h1, rfl⟩
 ·simp only [Option.bind_some, BD.k, LT, h1, Bool.true_and]
 ·simp only [Option.bind_some, BD.k, h1, Bool.false_and]
theorem MZ {p : Int -> Option Bool} {P : UInt8 -> Bool} (hp : E9 p P) {b : UInt8} (h : b.toNat < 128) : Ez p b.toNat = P b := by unfold Ez; rw [hp.lo b h]; rfl
theorem Jl {p : Int -> Option Bool} {P : UInt8 -> Bool} (hp : E9 p P) (s : UQ) (ha : ∀ b, b ∈ s -> b.toNat < 128) : ∀ (f i : Nat), s.length <= i + f -> i <= s.length ->
  (0 <= Go.Lib.idxFuncFrom (Ez p) true ⟨s.toArray⟩ f i ↔ (s.drop i).any P = true)
 | 0, i, h1, h2 => by
  have : i = s.length := by omega
  subst this
  simp [Go.Lib.idxFuncFrom]
 | f + 1, i, h1, h2 => by
  unfold Go.Lib.idxFuncFrom
  have hsz : (⟨s.toArray⟩ : ByteArray).size = s.length := by simp [ByteArray.size]
  rw [hsz]
  by_cases h : i < s.length
  ·rw [if_pos h]
   have hget : s[i]? = some s[i] := List.getElem?_eq_getElem h
   have hd : Utf8.decode ⟨s.toArray⟩ i = (s[i].toNat, 1) := LE hget (ha _ (List.getElem_mem h))
   rw [hd]
   simp only
   rw [MZ hp (ha _ (List.getElem_mem h)), List.drop_eq_getElem_cons h, List.any_cons]
   cases hP : P s[i] with
   | true => simp
   | false =>
    simp only [Bool.false_eq_true, if_false, Bool.false_or]
    exact Jl hp s ha f (i + 1) (by omega) (by omega)
  ·have : i = s.length := by omega
   subst this
   simp
theorem Qu {p : Int -> Option Bool} {P : UInt8 -> Bool} (hp : E9 p P) {N : Nat} (s : UQ) (ha : ∀ b, b ∈ s -> b.toNat < 128) : ∃ r, B2 N s p = some r /\ decide (r >= 0) = s.any P := by
 refine ⟨_, by unfold B2; rw [if_pos hp.all], ?_⟩
 have := Jl hp s ha s.length 0 (by omega) (by omega)
 have hsz : (⟨s.toArray⟩ : ByteArray).size = s.length := by simp [ByteArray.size]
 unfold Go.Lib.idxFunc
 rw [hsz]
 rw [List.drop_zero] at this
 cases hs : s.any P with
 | true => rw [hs] at this; exact decide_eq_true (this.2 rfl)
 | false =>
  rw [hs] at this
  exact decide_eq_false fun h => by have := this.1 h; cases this
def MC : UQ -> Nat
 | [] => 0
 | b :: r => if isD b then r.length + 1 else MC r
def BU (s : UQ) : Nat := MC s.reverse
theorem OH : BU [] = 0 := rfl
theorem Qy (l : UQ) (b : UInt8) : BU (l ++ [b]) = if isD b then l.length + 1 else BU l := by
 unfold BU
 rw [List.reverse_append]
 simp [MC]
theorem NK : ∀ l : UQ, MC l <= l.length
 | [] => Nat.le_refl _
 | b :: r => by
  unfold MC
  split
  ·exact Nat.le_refl _
  ·exact Nat.le_succ_of_le (NK r)
theorem SM (s : UQ) : BU s <= s.length := by unfold BU; have := NK s.reverse; simpa using this
theorem M9 : ∀ l : UQ, ∀ b, b ∈ l.take (l.length - MC l) -> isD b = false
 | [], b, h => by simp at h
 | c :: r, b, h => by
  unfold MC at h
  split at h
  ·simp at h
  ·rename_i hc
   have hc' : isD c = false := by simpa using hc
   have := NK r
   rw [show (c :: r).length - MC r = (r.length - MC r) + 1 by simp; omega, List.take_succ_cons] at h
   rcases List.mem_cons.1 h with rfl | h
   ·exact hc'
   ·exact M9 r b h
theorem Qz (s : UQ) : ∀ b, b ∈ s.drop (BU s) -> isD b = false := by
 intro b hb
 have h := M9 s.reverse b
 have e : s.reverse.take (s.reverse.length - MC s.reverse) = (s.drop (BU s)).reverse := by
  rw [List.reverse_drop, List.length_reverse]; rfl
 rw [e] at h
 exact h (by simpa using hb)
theorem Io (N : Nat) (s : UQ) (ha : ∀ b, b ∈ s -> b.toNat < 128) : ∀ (f i : Nat), i <= f -> i <= s.length ->
  Go.Lib.lastIdxFuncFrom (Ez fun y0 => Bf N y0) true ⟨s.toArray⟩ f i + 1 = (BU (s.take i) : Int)
 | 0, i, h1, h2 => by
  have : i = 0 := by omega
  subst this
  simp [Go.Lib.lastIdxFuncFrom, OH]
 | f + 1, 0, h1, h2 => by simp [Go.Lib.lastIdxFuncFrom, OH]
 | f + 1, i + 1, h1, h2 => by
  unfold Go.Lib.lastIdxFuncFrom
  rw [if_pos (Nat.succ_pos i)]
  have h : i < s.length := by omega
  have htake : s.take (i + 1) = s.take i ++ [s[i]] := by rw [List.take_add_one, List.getElem?_eq_getElem h]; rfl
  have hb := ha _ (List.getElem_mem h)
  have hdl : Go.Lib.decodeLastL (s.take (i + 1)) = (s[i].toNat, 1) := by
   unfold Go.Lib.decodeLastL
   rw [if_neg (fun e => by have h9 := congrArg List.length e; rw [List.length_take, List.length_nil] at h9; omega)]
   have hlen : (s.take (i + 1)).length - 1 = i := by rw [List.length_take]; omega
   have hg : (s.take (i + 1)).getD i 0 = s[i] := by
    rw [List.getD_eq_getElem?_getD, List.getElem?_take, if_pos (by omega), List.getElem?_eq_getElem h]; rfl
   rw [hlen, hg, if_pos hb]
  simp only [List.toList_toArray] at *
  rw [hdl]
  simp only
  rw [MZ (PM N) hb, htake, Qy]
  cases hP : isD s[i] with
  | true =>
   simp only [if_true]
   rw [List.length_take, Nat.min_eq_left (by omega)]
   simp
  | false =>
   simp only [Bool.false_eq_true, if_false]
   rw [show i + 1 - 1 = i by omega]
   exact Io N s ha f i (by omega) (by omega)
theorem I2 (i : Nat) (h : i < 4611686018427387904) : W64 ((i : Int) + 1) = ((i + 1 : Nat) : Int) := by
 rw [E6 (by omega) (by omega)]; omega
def pcs (c : UInt8) : UQ -> List UQ
 | [] => [[]]
 | b :: s => if b = c then [] :: pcs c s else match pcs c s with
  | p :: r => (b :: p) :: r
  | [] => [[b]]
theorem Ha (c : UInt8) : ∀ s, pcs c s ≠ []
 | [] => by simp [pcs]
 | b :: s => by
  unfold pcs
  split
  ·simp
  ·split <;> simp
theorem ET {c : UInt8} : ∀ {a : UQ}, c ∉ a -> pcs c a = [a]
 | [], _ => rfl
 | b :: s, h => by
  have h1 : ¬ b = c := fun e => h (by rw [e]; exact List.mem_cons_self)
  have h2 : c ∉ s := fun hm => h (List.mem_cons_of_mem _ hm)
  unfold pcs
  rw [if_neg h1, ET h2]
theorem Gn {c : UInt8} : ∀ {a t : UQ}, c ∉ a -> pcs c (a ++ c :: t) = a :: pcs c t
 | [], t, _ => by simp [pcs]
 | b :: s, t, h => by
  have h1 : ¬ b = c := fun e => h (by rw [e]; exact List.mem_cons_self)
  have h2 : c ∉ s := fun hm => h (List.mem_cons_of_mem _ hm)
  rw [List.cons_append]
  conv => lhs; unfold pcs
  rw [if_neg h1, Gn h2]
theorem PP (c : UInt8) : ∀ s, (pcs c s).length = s.count c + 1
 | [] => rfl
 | b :: s => by
  have := PP c s
  unfold pcs
  by_cases h : b = c
  ·rw [if_pos h, List.length_cons, this, h]; simp
  ·rw [if_neg h, List.count_cons_of_ne (by simpa using h)]
   cases hp : pcs c s with
   | nil => exact absurd hp (Ha c s)
   | cons p r => rw [hp] at this; simpa using this
theorem LQ (c : UInt8) : ∀ s, [c].intercalate (pcs c s) = s
 | [] => rfl
 | b :: s => by
  have ih := LQ c s
  unfold pcs
  by_cases h : b = c
  ·rw [if_pos h]
   cases hp : pcs c s with
   | nil => exact absurd hp (Ha c s)
   | cons p r =>
    rw [hp] at ih
    subst h
    simp only [List.intercalate] at ih ⊢
    simp only [List.intersperse_cons_cons, List.flatten_cons, List.nil_append, List.cons_append]
    rw [ih]
  ·rw [if_neg h]
   cases hp : pcs c s with
   | nil => exact absurd hp (Ha c s)
   | cons p r =>
    rw [hp] at ih
    simp only
    cases r with
    | nil => simp [List.intercalate] at ih ⊢; exact ih
    | cons q r =>
     simp only [List.intercalate, List.intersperse_cons_cons, List.flatten_cons, List.cons_append] at ih ⊢
     rw [ih]
theorem DQ {c : UInt8} : ∀ {s : UQ}, c ∈ s -> ∃ a t, s = a ++ c :: t /\ c ∉ a
 | b :: s, h => by
  by_cases hb : b = c
  ·exact ⟨[], s, by rw [hb]; rfl, by simp⟩
  ·rcases List.mem_cons.1 h with e | h
   ·exact absurd e.symm hb
   ·obtain ⟨a, t, h1, h2⟩ := DQ h
    exact ⟨b :: a, t, by rw [h1]; rfl, fun hm => by
     rcases List.mem_cons.1 hm with e | hm
     ·exact hb e.symm
     ·exact h2 hm⟩
theorem Hm {c : UInt8} : ∀ {s : UQ}, c ∉ s -> Go.Lib.index s [c] = -1
 | [], _ => rfl
 | b :: s, h => by
  have h1 : ¬ c = b := fun e => h (by rw [e]; exact List.mem_cons_self)
  have h2 : c ∉ s := fun hm => h (List.mem_cons_of_mem _ hm)
  unfold Go.Lib.index
  rw [if_neg (by simp [List.isPrefixOf]; exact h1), Hm h2]
  rfl
theorem Hl {c : UInt8} : ∀ {a t : UQ}, c ∉ a -> Go.Lib.index (a ++ c :: t) [c] = (a.length : Int)
 | [], t, _ => by
  show Go.Lib.index (c :: t) [c] = 0
  unfold Go.Lib.index
  rw [if_pos (by simp [List.isPrefixOf])]
 | b :: s, t, h => by
  have h1 : ¬ c = b := fun e => h (by rw [e]; exact List.mem_cons_self)
  have h2 : c ∉ s := fun hm => h (List.mem_cons_of_mem _ hm)
  rw [List.cons_append]
  unfold Go.Lib.index
  rw [if_neg (by simp [List.isPrefixOf]; exact h1), Hl h2, if_neg (by simp <;> omega)]
  simp
theorem LB {c : UInt8} : ∀ (n f : Nat) (s : UQ), s.length <= n -> s.length < f -> Go.Lib.splitK [c] 0 (Go.Lib.countFrom [c] f s) s = pcs c s
 | _, 0, s, _, h => by omega
 | n, f + 1, s, h1, h2 => by
  by_cases hc : c ∈ s
  ·obtain ⟨a, t, rfl, ha⟩ := DQ hc
   have hi := Hl (t := t) ha
   unfold Go.Lib.countFrom
   rw [hi, if_neg (by simp <;> omega), Nat.add_comm 1]
   unfold Go.Lib.splitK
   rw [hi, if_neg (by simp <;> omega)]
   have hdrop : (a ++ c :: t).drop (((a.length : Int)).toNat + [c].length) = t := by
    simp
   have htake : (a ++ c :: t).take (((a.length : Int)).toNat + 0) = a := by simp
   rw [hdrop, htake, Gn ha]
   have hl : t.length < n := by simp at h1; omega
   obtain ⟨n', rfl⟩ : ∃ n', n = n' + 1 := ⟨n - 1, by omega⟩
   rw [LB n' f t (by omega) (by simp at h2; omega)]
  ·rw [ET hc]
   unfold Go.Lib.countFrom
   rw [Hm hc, if_pos (by simp)]
   rfl
theorem N8 (c : UInt8) (s : UQ) : Nh s [c] = pcs c s := by
 unfold Nh
 rw [Go.Lib.splitB_data]
 have : Go.Lib.countB ⟨s.toArray⟩ ⟨[c].toArray⟩ = Go.Lib.countFrom [c] (s.length + 1) s := by
  rfl
 rw [this]
 exact LB s.length (s.length + 1) s (Nat.le_refl _) (Nat.lt_succ_self _)
theorem Li {N : Nat} {s : UQ} (c : UInt8) (h : s.length < 4294967281) : strings_Split N s [c] = some (pcs c s) := by
 unfold strings_Split
 rw [if_pos ⟨h, by simp⟩, N8]
theorem OG {c : UInt8} {s : UQ} (h : c ∉ s) : Go.Lib.cut s [c] = (s, [], false) := by
 unfold Go.Lib.cut
 rw [Hm h, if_neg (by decide)]
theorem OE {c : UInt8} {a t : UQ} (h : c ∉ a) : Go.Lib.cut (a ++ c :: t) [c] = (a, t, true) := by
 unfold Go.Lib.cut
 rw [Hl h, if_pos (by omega)]
 simp only [Int.toNat_natCast, List.length_singleton]
 rw [List.drop_append]
 simp
section
variable {N : Nat} {s : UQ}
theorem Gs {i n : Nat} (h : i < n) : decide ((i : Int) < (n : Int)) = true := decide_eq_true (by omega)
theorem EK {n : Nat} : decide ((n : Int) < (n : Int)) = false := decide_eq_false (by omega)
def wiB (n lo hi : Nat) : Bool := decide (lo <= n) && decide (n <= hi)
def CC (s : UQ) : Bool := s.all isE && wiB s.length 1 4 && s.any isL
def Bh (s : UQ) : Bool := s.all isE && wiB (BU s) 1 4 && (s.take (BU s)).any isL && wiB (s.length - BU s) 1 4
def BI (s : UQ) : Bool := (s.all isL && wiB s.length 1 4) || (s.all isD && wiB s.length 1 1)
theorem Gi (n lo hi : Nat) : (decide (((lo : Nat) : Int) <= (n : Int)) && decide ((n : Int) <= ((hi : Nat) : Int))) = wiB n lo hi := by
 unfold wiB
 congr 1 <;> (rw [decide_eq_decide]; omega)
theorem w14 (n : Nat) : (decide ((1 : Int) <= (n : Int)) && decide ((n : Int) <= (4 : Int))) = wiB n 1 4 := Gi n 1 4
theorem w11 (n : Nat) : (decide ((1 : Int) <= (n : Int)) && decide ((n : Int) <= (1 : Int))) = wiB n 1 1 := Gi n 1 1
theorem Pj (hs : s.length < 4611686018427387904) (hN : s.length < N) : Ey N s = some (CC s) := by
 unfold Ey CC
 rw [FO (TT N) s 4 hN, Option.bind_some, w14]
 cases h : (s.all isE && wiB s.length 1 4) with
 | false => rfl
 | true =>
  rw [Bool.and_eq_true] at h
  obtain ⟨r, h1, h2⟩ := Qu (N := N) (QV N) s (fun b hb => NC (List.all_eq_true.1 h.1 b hb))
  rw [cond_true, h1, Option.bind_some, h2]
  rfl
theorem On (hs : s.length < 4611686018427387904) (hN : s.length < N) : DJ N s = some (BI s) := by
 unfold DJ BI
 rw [FO (QV N) s 4 hN, FO (PM N) s 1 hN, w14, w11]
 cases s.all isL && wiB s.length 1 4 <;> rfl
theorem OQ (s : UQ) : s.all isL = (s.all isE && !s.any isD) := by
 induction s with
 | nil => rfl
 | cons b s ih =>
  simp only [List.all_cons, List.any_cons, ih, isE]
  cases hL : isL b with
  | true => rw [Ui hL]; simp
  | false => cases isD b <;> cases s.all isE <;> cases s.any isD <;> rfl
theorem Rm (p : Nat -> Bool) (tr : Bool) (s : UQ) : ∀ (f i : Nat), i <= s.length -> Go.Lib.lastIdxFuncFrom p tr ⟨s.toArray⟩ f i = -1 \/ (0 <= Go.Lib.lastIdxFuncFrom p tr ⟨s.toArray⟩ f i /\ Go.Lib.lastIdxFuncFrom p tr ⟨s.toArray⟩ f i < (i : Int))
 | 0, _, _ => .inl rfl
 | f + 1, i, hi => by
  unfold Go.Lib.lastIdxFuncFrom
  split
  ·rename_i h0
   have hw := Go.Lib.decodeLastL_width (s.take i) (by rw [List.length_take]; omega)
   simp only [List.toList_toArray] at *
   split
   ·exact .inr ⟨by omega, by omega⟩
   ·rcases Rm p tr s f (i - (Go.Lib.decodeLastL (s.take i)).2) (by omega) with h | h
    ·exact .inl h
    ·exact .inr ⟨h.1, by omega⟩
  ·exact .inl rfl
theorem Tj (hs : s.length < 4611686018427387904) (hN : s.length < N) : ∃ x y, JJ N s = some (x, y, Bh s) /\ (Bh s = true -> x = s.take (BU s) /\ y = s.drop (BU s)) := by
 have hr : ∃ k : Nat, BE N s (fun y0 => Bf N y0) = some ((k : Int) - 1) /\ k <= s.length /\ ((∀ b, b ∈ s -> b.toNat < 128) -> k = BU s) := by
  have hsz : (⟨s.toArray⟩ : ByteArray).size = s.length := by simp [ByteArray.size]
  have e : BE N s (fun y0 => Bf N y0) = some (Go.Lib.lastIdxFunc (Ez fun y0 => Bf N y0) true ⟨s.toArray⟩) := by
   unfold BE BS
   rw [if_pos ⟨(PM N).all, by omega⟩]
   rfl
  rw [e]
  unfold Go.Lib.lastIdxFunc
  rw [hsz]
  have hrange := Rm (Ez fun y0 => Bf N y0) true s s.length s.length (Nat.le_refl _)
  refine ⟨(Go.Lib.lastIdxFuncFrom (Ez fun y0 => Bf N y0) true ⟨s.toArray⟩ s.length s.length + 1).toNat, ?_, ?_, fun ha => ?_⟩
  ·exact congrArg some (by rcases hrange with h | ⟨h, _⟩ <;> omega)
  ·rcases hrange with h | ⟨h1, h2⟩
   ·omega
   ·omega
  ·have := Io N s ha s.length s.length (Nat.le_refl _) (Nat.le_refl _)
   rw [List.take_length] at this
   omega
 obtain ⟨k, h1, h2, h3⟩ := hr
 have e1 : W64 ((k : Int) - 1 + 1) = (k : Int) := by rw [E6 (by omega) (by omega)]; omega
 have e2 : JK s 0 (k : Int) = some (s.take k) := by
  have := I5 (a := s) (lo := 0) (hi := k) (Nat.zero_le _) h2
  simpa using this
 have e3 : JK s (k : Int) (s.length : Int) = some (s.drop k) := by
  rw [I5 h2 (Nat.le_refl _), List.take_of_length_le (by simp)]
 have e4 := Pj (N := N) (s := s.take k) (by rw [List.length_take]; omega) (by rw [List.length_take]; omega)
 have e5 := FO (QV N) (s.drop k) 4 (N := N) (by rw [List.length_drop]; omega)
 refine ⟨s.take k, s.drop k, ?_, ?_⟩
 ·unfold JJ
  rw [h1, Option.bind_some, e1, e2, Option.bind_some, e3, Option.bind_some, Option.bind_some, e4, Option.bind_some, e5, w14]
  have hbase : (decide ((k : Int) > 0) && (CC (s.take k) && ((s.drop k).all isL && wiB (s.drop k).length 1 4))) = Bh s := by
   by_cases ha : s.all isE = true
   ·have hk : k = BU s := h3 fun b hb => NC (List.all_eq_true.1 ha b hb)
    subst hk
    have hle := SM s
    have e6 : (s.take (BU s)).all isE = true := List.all_eq_true.2 fun b hb => List.all_eq_true.1 ha b (List.mem_of_mem_take hb)
    have e7 : (s.drop (BU s)).all isL = true := by
     rw [OQ]
     rw [Bool.and_eq_true]
     refine ⟨List.all_eq_true.2 fun b hb => List.all_eq_true.1 ha b (List.mem_of_mem_drop hb), ?_⟩
     rw [Bool.not_eq_true', List.any_eq_false]
     intro b hb
     rw [Qz s b hb]; simp
    unfold CC Bh
    rw [ha, e6, e7, List.length_take, Nat.min_eq_left hle, List.length_drop]
    have e8 : (decide ((BU s : Int) > 0) && wiB (BU s) 1 4) = wiB (BU s) 1 4 := by
     unfold wiB
     cases hd : decide (1 <= BU s) with
     | false => simp
     | true => rw [decide_eq_true (by have := of_decide_eq_true hd; omega)]; rfl
    rw [<- e8]
    cases decide ((BU s : Int) > 0) <;> cases wiB (BU s) 1 4 <;> cases (s.take (BU s)).any isL <;> rfl
   ·have ha' : s.all isE = false := by simpa using ha
    unfold CC Bh
    rw [ha']
    have e9 : (s.take k).all isE = false \/ (s.drop k).all isL = false := by
     rw [<- List.take_append_drop k s, List.all_append] at ha'
     cases h5 : (s.take k).all isE with
     | false => exact .inl rfl
     | true =>
      right
      rw [h5, Bool.true_and] at ha'
      rw [OQ, ha']
      rfl
    rcases e9 with e9 | e9 <;> rw [e9] <;> simp
  rw [<- hbase]
  cases decide ((k : Int) > 0) <;> cases CC (s.take k) <;> rfl
 ·intro hb
  have ha : s.all isE = true := by
   unfold Bh at hb
   simp only [Bool.and_eq_true] at hb
   exact hb.1.1.1
  rw [h3 fun b hb => NC (List.all_eq_true.1 ha b hb)]
  exact ⟨rfl, rfl⟩
end
theorem Pl {α ρ τ : Type} {body : Int -> Option (BD ρ Int)} {l : List α} (f : α -> Option ρ) (hb : ∀ i (h : i < l.length), body (i : Int) = some ((f l[i]).elim (.next ((i + 1 : Nat) : Int)) .ret))
  (he : body (l.length : Int) = some (.done (l.length : Int))) {N : Nat} (hN : l.length < N) (fd : Int -> Option τ) (fr : ρ -> Option τ) : ((A0 body N 0).bind fun o => o.k fr fd) = (l.findSome? f).elim (fd l.length) fr := by
 obtain ⟨o, ho, hR⟩ := Fm (body := body) l.length (fun i s => s = (i : Int) /\ l.findSome? f = (l.drop i).findSome? f) (fun o => (l.findSome? f = none /\ o = .done (l.length : Int)) \/ ∃ r, l.findSome? f = some r /\ o = .ret r) (by
  rintro i s hi ⟨rfl, hk⟩
  by_cases h : i < l.length
  ·rw [hb i h]
   rw [List.drop_eq_getElem_cons h, List.findSome?_cons] at hk
   cases e : f l[i] with
   | some r => rw [e] at hk; exact .inr ⟨_, rfl, (fun _ h => by cases h), .inr ⟨r, hk, rfl⟩⟩
   | none => rw [e] at hk; exact .inl ⟨_, rfl, ⟨rfl, hk⟩, h⟩
  ·have : i = l.length := by omega
   subst this
   rw [he]
   rw [List.drop_length] at hk
   exact .inr ⟨_, rfl, (fun _ h => by cases h), .inl ⟨hk, rfl⟩⟩) l.length N 0 0 (by omega) ⟨rfl, by rw [List.drop_zero]⟩ hN
 rw [ho]
 rcases hR with ⟨h1, rfl⟩ | ⟨r, h1, rfl⟩ <;> rw [h1] <;> rfl
theorem Pg (c : UInt8) : ∀ s p, p ∈ pcs c s -> p.length <= s.length
 | [], p, h => by simp [pcs] at h; subst h; simp
 | b :: s, p, h => by
  have ih := Pg c s
  unfold pcs at h
  by_cases hb : b = c
  ·rw [if_pos hb] at h
   rcases List.mem_cons.1 h with rfl | h
   ·simp
   ·exact Nat.le_succ_of_le (ih p h)
  ·rw [if_neg hb] at h
   cases hp : pcs c s with
   | nil => exact absurd hp (Ha c s)
   | cons q r =>
    rw [hp] at h ih
    simp only at h
    rcases List.mem_cons.1 h with rfl | h
    ·exact Nat.succ_le_succ (ih q List.mem_cons_self)
    ·exact Nat.le_succ_of_le (ih p (List.mem_cons_of_mem _ h))
def zp : Bd := { Area := [], Prefix := [], Suffix := [], Stroke := [] }
abbrev Tri := UQ × UQ × UQ
def I1 (ws : List UQ) : Option Tri := match ws with
 | [w] => if Bh w then some ([], w, []) else none
 | [a, b] => if CC a && Bh b && decide (a.length < b.length) then some (a, b, []) else if Bh a && BI b then some ([], a, b) else none
 | [a, b, c] => if CC a && Bh b && BI c then some (a, b, c) else none
 | _ => none
def callB (s : UQ) : Option Tri := if s.length <= 16 then I1 (pcs 47 s) else none
def PS (t : Tri) : Bd := { Area := t.1, Prefix := t.2.1.take (BU t.2.1), Suffix := t.2.1.drop (BU t.2.1), Stroke := t.2.2 }
def OX (s : UQ) : Bd × Bool := match callB s with
 | some t => (PS t, true)
 | none => (zp, false)
section
variable {N : Nat}
theorem Jf {w : UQ} (hs : w.length < 4611686018427387904) (hN : w.length < N) : ∃ x y, Ay N w = some ({ Area := [], Prefix := x, Suffix := y, Stroke := [] }, Bh w) /\ (Bh w = true -> x = w.take (BU w) /\ y = w.drop (BU w)) := by
 obtain ⟨x, y, h1, h2⟩ := Tj hs hN
 exact ⟨x, y, by unfold Ay; rw [h1]; rfl, h2⟩
theorem TD {w : UQ} {z0 : UQ -> Option (Bd × Bool)} {p : Bd} {ok : Bool} (h1 : z0 w = some (p, ok)) : C6 N [w] z0 = some (p, ok) := by
 unfold C6
 have i0 : idx [w] 0 = some w := rfl
 simp only [i0, Option.bind_some, h1]
theorem TC {a b : UQ} {z0 : UQ -> Option (Bd × Bool)} {x y u v : UQ} {A ok : Bool} (h1 : z0 b = some ({ Area := u, Prefix := x, Suffix := y, Stroke := v }, ok)) (h3 : Ey N a = some A) : C5 N [a, b] z0 = some ({ Area := a, Prefix := x, Suffix := y, Stroke := v }, ok && A && decide (a.length < b.length)) := by
 unfold C5
 have e : decide ((a.length : Int) < (b.length : Int)) = decide (a.length < b.length) := by rw [decide_eq_decide]; omega
 have i0 : idx [a, b] 0 = some a := rfl
 have i1 : idx [a, b] 1 = some b := rfl
 rw [i0, i1]
 simp only [Option.bind_some, h1, h3]
 clear h1 h3
 rw [e]
 generalize decide (a.length < b.length) = D
 cases ok <;> cases A <;> rfl
theorem TB {a b : UQ} {z0 : UQ -> Option (Bd × Bool)} {x y u v : UQ} {A ok : Bool} (h1 : z0 a = some ({ Area := u, Prefix := x, Suffix := y, Stroke := v }, ok)) (h3 : DJ N b = some A) : C4 N [a, b] z0 = some ({ Area := u, Prefix := x, Suffix := y, Stroke := b }, ok && A) := by
 unfold C4
 have i0 : idx [a, b] 0 = some a := rfl
 have i1 : idx [a, b] 1 = some b := rfl
 rw [i0, i1]
 simp only [Option.bind_some, h1, h3]
 clear h1 h3
 cases ok <;> cases A <;> rfl
theorem TA {a b c : UQ} {z0 : UQ -> Option (Bd × Bool)} {x y u v : UQ} {A B ok : Bool} (h1 : z0 b = some ({ Area := u, Prefix := x, Suffix := y, Stroke := v }, ok)) (h3 : Ey N a = some A) (h4 : DJ N c = some B) : C3 N [a, b, c] z0 = some ({ Area := a, Prefix := x, Suffix := y, Stroke := c }, ok && A && B) := by
 unfold C3
 have i0 : idx [a, b, c] 0 = some a := rfl
 have i1 : idx [a, b, c] 1 = some b := rfl
 have i2 : idx [a, b, c] 2 = some c := rfl
 rw [i0, i1, i2]
 simp only [Option.bind_some, h1, h3, h4]
 clear h1 h3 h4
 cases ok <;> cases A <;> cases B <;> rfl
theorem SD {w : UQ} (hs : w.length <= 16) (hN : 16 < N) : ∃ x y, C6 N [w] (fun y0 => Ay N y0) = some ({ Area := [], Prefix := x, Suffix := y, Stroke := [] }, Bh w) /\ (Bh w = true -> x = w.take (BU w) /\ y = w.drop (BU w)) := by
 obtain ⟨x, y, h1, h2⟩ := Jf (w := w) (N := N) (by omega) (by omega)
 exact ⟨x, y, TD (z0 := fun y0 => Ay N y0) h1, h2⟩
theorem SC {a b : UQ} (ha : a.length <= 16) (hb : b.length <= 16) (hN : 16 < N) : ∃ x y, C5 N [a, b] (fun y0 => Ay N y0) = some ({ Area := a, Prefix := x, Suffix := y, Stroke := [] }, Bh b && CC a && decide (a.length < b.length)) /\ (Bh b = true -> x = b.take (BU b) /\ y = b.drop (BU b)) := by
 obtain ⟨x, y, h1, h2⟩ := Jf (w := b) (N := N) (by omega) (by omega)
 exact ⟨x, y, TC (z0 := fun y0 => Ay N y0) h1 (Pj (N := N) (s := a) (by omega) (by omega)), h2⟩
theorem SB {a b : UQ} (ha : a.length <= 16) (hb : b.length <= 16) (hN : 16 < N) : ∃ x y, C4 N [a, b] (fun y0 => Ay N y0) = some ({ Area := [], Prefix := x, Suffix := y, Stroke := b }, Bh a && BI b) /\ (Bh a = true -> x = a.take (BU a) /\ y = a.drop (BU a)) := by
 obtain ⟨x, y, h1, h2⟩ := Jf (w := a) (N := N) (by omega) (by omega)
 exact ⟨x, y, TB (z0 := fun y0 => Ay N y0) h1 (On (N := N) (s := b) (by omega) (by omega)), h2⟩
theorem SA {a b c : UQ} (ha : a.length <= 16) (hb : b.length <= 16) (hc : c.length <= 16) (hN : 16 < N) : ∃ x y, C3 N [a, b, c] (fun y0 => Ay N y0) = some ({ Area := a, Prefix := x, Suffix := y, Stroke := c }, Bh b && CC a && BI c) /\ (Bh b = true -> x = b.take (BU b) /\ y = b.drop (BU b)) := by
 obtain ⟨x, y, h1, h2⟩ := Jf (w := b) (N := N) (by omega) (by omega)
 exact ⟨x, y, TA (z0 := fun y0 => Ay N y0) h1 (Pj (N := N) (s := a) (by omega) (by omega)) (On (N := N) (s := c) (by omega) (by omega)), h2⟩
def OS (ws : List UQ) (fm : Bx) : Option (Bd × Bool) := if fm.words_ = (ws.length : Int) then match fm.split_ ws with
 | some (p, true) => some (p, true)
 | _ => none
 else none
theorem OW {s : UQ} {ws : List UQ} (hle : ∀ w, w ∈ ws -> w.length <= 16) (hN : 4 < N) (f2 f3 f4 f5 : List UQ -> Option (Bd × Bool))
  (H2 : ∀ w : UQ, w.length <= 16 -> ∃ x y, f2 [w] = some ({ Area := [], Prefix := x, Suffix := y, Stroke := [] }, Bh w) /\ (Bh w = true -> x = w.take (BU w) /\ y = w.drop (BU w)))
  (H3 : ∀ a b : UQ, a.length <= 16 -> b.length <= 16 -> ∃ x y, f3 [a, b] = some ({ Area := a, Prefix := x, Suffix := y, Stroke := [] }, Bh b && CC a && decide (a.length < b.length)) /\ (Bh b = true -> x = b.take (BU b) /\ y = b.drop (BU b)))
  (H4 : ∀ a b : UQ, a.length <= 16 -> b.length <= 16 -> ∃ x y, f4 [a, b] = some ({ Area := [], Prefix := x, Suffix := y, Stroke := b }, Bh a && BI b) /\ (Bh a = true -> x = a.take (BU a) /\ y = a.drop (BU a)))
  (H5 : ∀ a b c : UQ, a.length <= 16 -> b.length <= 16 -> c.length <= 16 -> ∃ x y, f5 [a, b, c] = some ({ Area := a, Prefix := x, Suffix := y, Stroke := c }, Bh b && CC a && BI c) /\ (Bh b = true -> x = b.take (BU b) /\ y = b.drop (BU b))) :
  ((A0 (Cx N s ws [({ words_ := 1, split_ := f2 } : Bx), { words_ := 2, split_ := f3 }, { words_ := 2, split_ := f4 }, { words_ := 3, split_ := f5 }]) N 0).bind fun o => o.k (fun r => some r) (fun _ => some (zp, false))) = some (match I1 ws with | some t => (PS t, true) | none => (zp, false)) := by
 generalize hF : ([_, _, _, _] : List Bx) = F
 have htot : ∀ fm, fm ∈ F -> fm.words_ = (ws.length : Int) -> ∃ r, fm.split_ ws = some r := by
  subst hF
  intro fm hfm hw
  simp only [List.mem_cons, List.not_mem_nil, or_false] at hfm
  rcases hfm with rfl | rfl | rfl | rfl <;> simp only at hw ⊢
  ·match ws, hw with
   | [w], _ => obtain ⟨_, _, h, _⟩ := H2 w (hle w (by simp)); exact ⟨_, h⟩
  ·match ws, hw with
   | [a, b], _ => obtain ⟨_, _, h, _⟩ := H3 a b (hle a (by simp)) (hle b (by simp)); exact ⟨_, h⟩
  ·match ws, hw with
   | [a, b], _ => obtain ⟨_, _, h, _⟩ := H4 a b (hle a (by simp)) (hle b (by simp)); exact ⟨_, h⟩
  ·match ws, hw with
   | [a, b, c], _ => obtain ⟨_, _, h, _⟩ := H5 a b c (hle a (by simp)) (hle b (by simp)) (hle c (by simp)); exact ⟨_, h⟩
 have hlen : F.length = 4 := by subst hF; rfl
 have hb : ∀ i (h : i < F.length), Cx N s ws F (i : Int) = some ((OS ws F[i]).elim (.next ((i + 1 : Nat) : Int)) .ret) := by
  intro i h
  unfold Cx
  have hi : idx F (i : Int) = some F[i] := by unfold idx; rw [if_pos (by omega)]; simp [h]
  rw [Gs h, cond_true, hi, Option.bind_some, I2 i (by omega)]
  have htt := htot _ (List.getElem_mem h)
  generalize F[i] = fm at htt
  unfold OS
  by_cases hw : fm.words_ = (ws.length : Int)
  ·obtain ⟨⟨p, ok⟩, hr⟩ := htt hw
   rw [if_pos hw, show (fm.words_ != (ws.length : Int)) = false by simp [hw], cond_false, hr]
   cases ok <;> rfl
  ·rw [if_neg hw, show (fm.words_ != (ws.length : Int)) = true by simp [hw], cond_true]
   rfl
 have he : Cx N s ws F (F.length : Int) = some (.done (F.length : Int)) := by
  unfold Cx
  rw [EK, cond_false]
 rw [Pl (l := F) (OS ws) hb he (by omega)]
 subst hF
 match ws, hle with
 | [], _ => rfl
 | [w], hle =>
  obtain ⟨x, y, h1, h2⟩ := H2 w (hle w (by simp))
  unfold I1
  have e : (([w] : List UQ).length : Int) = 1 := rfl
  simp only [List.findSome?_cons, List.findSome?_nil, OS, e, h1]
  cases hB : Bh w with
  | false => rfl
  | true => obtain ⟨rfl, rfl⟩ := h2 hB; rfl
 | [a, b], hle =>
  have ha := hle a (by simp)
  have hb := hle b (by simp)
  obtain ⟨x, y, h1, h2⟩ := H3 a b ha hb
  obtain ⟨x', y', h3, h4⟩ := H4 a b ha hb
  unfold I1
  have e : (([a, b] : List UQ).length : Int) = 2 := rfl
  simp only [List.findSome?_cons, List.findSome?_nil, OS, e, h1, h3]
  clear h1 h3 H2 H3 H4 H5 htot hlen hb he
  generalize decide (a.length < b.length) = D
  generalize CC a = A
  generalize BI b = S
  cases hB : Bh b with
  | false =>
   cases hA : Bh a with
   | false => cases A <;> cases D <;> rfl
   | true =>
    obtain ⟨rfl, rfl⟩ := h4 hA
    cases A <;> cases D <;> cases S <;> rfl
  | true =>
   obtain ⟨rfl, rfl⟩ := h2 hB
   cases hA : Bh a with
   | false => cases A <;> cases D <;> rfl
   | true =>
    obtain ⟨rfl, rfl⟩ := h4 hA
    cases A <;> cases D <;> cases S <;> rfl
 | [a, b, c], hle =>
  have ha := hle a (by simp)
  have hb := hle b (by simp)
  have hc := hle c (by simp)
  obtain ⟨x, y, h1, h2⟩ := H5 a b c ha hb hc
  unfold I1
  have e : (([a, b, c] : List UQ).length : Int) = 3 := rfl
  simp only [List.findSome?_cons, List.findSome?_nil, OS, e, h1]
  clear h1 H2 H3 H4 H5 htot hlen hb he
  generalize CC a = A
  generalize BI c = S
  cases hB : Bh b with
  | false => cases A <;> cases S <;> rfl
  | true =>
   obtain ⟨rfl, rfl⟩ := h2 hB
   cases A <;> cases S <;> rfl
 | a :: b :: c :: d :: t, _ =>
  unfold I1
  have e : ∀ k : Int, k <= 3 -> ¬ k = ((a :: b :: c :: d :: t).length : Int) := by intro k hk; simp only [List.length_cons]; omega
  simp only [List.findSome?_cons, List.findSome?_nil, OS, if_neg (e 1 (by decide)), if_neg (e 2 (by decide)), if_neg (e 3 (by decide))]
  rfl
theorem Sx (s : UQ) (hN : 4294967300 < N) : HX N s = some (OX s) := by
 unfold HX OX callB
 by_cases hl : s.length <= 16
 ·rw [decide_eq_false (by omega), cond_false, if_pos hl, Li 47 (by omega), Option.bind_some]
  have hle := Pg 47 s
  generalize pcs 47 s = ws at hle
  unfold Kw
  rw [Option.bind_some]
  exact OW (fun w h => Nat.le_trans (hle w h) hl) (by omega) _ _ _ _ (fun w h => SD h (by omega)) (fun a b h h' => SC h h' (by omega)) (fun a b h h' => SB h h' (by omega)) (fun a b c h h' h'' => SA h h' h'' (by omega))
 ·rw [decide_eq_true (by omega), cond_true, if_neg hl]
  rfl
end
section
open Go.Lib (decDigits)
def GV (a : Nat) (l : UQ) : Nat := l.foldl (fun a b => 10 * a + (b.toNat - 48)) a
def Fa (l : UQ) : Nat := GV 0 l
theorem FP (a : Nat) (b : UInt8) (l : UQ) : GV a (b :: l) = GV (10 * a + (b.toNat - 48)) l := by unfold GV; rw [List.foldl_cons]
theorem Ql (a : Nat) (l : UQ) (b : UInt8) : GV a (l ++ [b]) = 10 * GV a l + (b.toNat - 48) := by unfold GV; rw [List.foldl_append]; rfl
theorem Qj (l : UQ) (b : UInt8) : Fa (l ++ [b]) = 10 * Fa l + (b.toNat - 48) := Ql 0 l b
theorem SH {b : UInt8} (h : isD b = true) : 48 <= b.toNat /\ b.toNat <= 57 := by
 unfold isD at h
 simpa only [Bool.and_eq_true, decide_eq_true_eq] using h
theorem St (l : UQ) : ∀ (a k : Nat), l.all isD = true -> a < 10 ^ k -> GV a l < 10 ^ (k + l.length) := by
 induction l with
 | nil => intro a k _ h; exact h
 | cons b l ih =>
  intro a k hd h
  rw [FP]
  simp only [List.all_cons, Bool.and_eq_true] at hd
  have hb := SH hd.1
  have hp : 10 ^ (k + 1) = 10 ^ k * 10 := Nat.pow_succ ..
  have := ih (10 * a + (b.toNat - 48)) (k + 1) hd.2 (by omega)
  rw [List.length_cons, show k + (l.length + 1) = k + 1 + l.length by omega]
  exact this
theorem Sr {l : UQ} (h : l.all isD = true) : Fa l < 10 ^ l.length := by
 have := St l 0 0 h (by decide)
 simpa [Fa] using this
theorem dig {b : UInt8} (h : isD b = true) : Go.Lib.digitVal b = some (b.toNat - 48) := by
 unfold isD at h
 simp only [Bool.and_eq_true, decide_eq_true_eq] at h
 unfold Go.Lib.digitVal
 rw [if_pos h]
theorem Jo : ∀ (l : UQ) (a : Nat), l.all isD = true -> Go.Lib.decFrom a l = some (GV a l)
 | [], a, _ => rfl
 | b :: l, a, h => by
  simp only [List.all_cons, Bool.and_eq_true] at h
  unfold Go.Lib.decFrom
  rw [dig h.1, FP, Nat.mul_comm 10 a]
  exact Jo l _ h.2
theorem Mr {l : UQ} (h : l.all isD = true) (hn : 1 <= l.length) : Go.Lib.atoi l = some (Fa l : Int) := by
 match l, h, hn with
 | b :: r, h, _ =>
  have hb := h
  simp only [List.all_cons, Bool.and_eq_true] at hb
  have h1 : (b == 45) = false := by rw [beq_eq_false_iff_ne]; rintro rfl; exact absurd hb.1 (by decide)
  have h2 : (b == 43) = false := by rw [beq_eq_false_iff_ne]; rintro rfl; exact absurd hb.1 (by decide)
  unfold Go.Lib.atoi
  simp only [h1, h2, Bool.false_eq_true, if_false]
  unfold Go.Lib.decNat
  simp only [List.isEmpty_cons, Bool.false_eq_true, if_false]
  rw [Jo _ _ h]
  rfl
def Gr (s : UQ) : Bool := s.all isD && wiB s.length 1 9
def Qk (s : UQ) : Int := if Gr s = true then (Fa s : Int) else -1
theorem Sl {k : Nat} (h : k <= 9) : 10 ^ k <= 1000000000 := Nat.le_trans (Nat.pow_le_pow_right (by decide) h) (by decide)
theorem Lh {s : UQ} (h : Gr s = true) : Fa s < 1000000000 /\ 1 <= s.length /\ s.length <= 9 /\ s.all isD = true := by
 unfold Gr wiB at h
 simp only [Bool.and_eq_true, decide_eq_true_eq] at h
 exact ⟨Nat.lt_of_lt_of_le (Sr h.1) (Sl h.2.2), h.2.1, h.2.2, h.1⟩
section
variable {N : Nat} {s : UQ}
theorem LV (hN : s.length < N) : BR N s = some (Qk s) := by
 unfold BR Qk
 rw [FO (PM N) s 9 hN, Option.bind_some, show (decide ((1 : Int) <= (s.length : Int)) && decide ((s.length : Int) <= (9 : Int))) = wiB s.length 1 9 from Gi _ 1 9]
 have e : (s.all isD && wiB s.length 1 9) = Gr s := rfl
 rw [e]
 cases h : Gr s with
 | false => rfl
 | true =>
  have hl := Lh h
  rw [Bool.not_true, cond_false, if_pos rfl]
  unfold BN
  rw [if_pos (by omega), Go.Lib.atoiAll_short s (by omega), Mr hl.2.2.2 hl.2.1]
  rfl
end
def M8 (d : Nat) : UInt8 := UInt8.ofNat (48 + d)
theorem Hv {d : Nat} (h : d < 10) : (M8 d).toNat = 48 + d := by unfold M8; rw [UInt8.toNat_ofNat']; omega
theorem P1 {d : Nat} (h : d < 10) : isD (M8 d) = true := by unfold isD; rw [Hv h]; simp; omega
theorem Hq {u : Nat} (h : u < 10) : decDigits u = [M8 u] := by rw [decDigits, dif_pos h]; rfl
theorem NJ {u : Nat} (h : ¬ u < 10) : decDigits u = decDigits (u / 10) ++ [M8 (u % 10)] := by
 conv => lhs; rw [decDigits, dif_neg h]
 rfl
theorem L6 (u : Nat) : 1 <= (decDigits u).length := by
 by_cases h : u < 10
 ·rw [Hq h]; simp
 ·rw [NJ h]; simp
theorem Hs (u : Nat) : (decDigits u).all isD = true := by
 induction u using Nat.strongRecOn with
 | _ u ih =>
  by_cases h : u < 10
  ·rw [Hq h]; simp [P1 h]
  ·rw [NJ h, List.all_append, ih (u / 10) (by omega)]
   simp [P1 (Nat.mod_lt u (by decide : 0 < 10))]
theorem Kf (u : Nat) : Fa (decDigits u) = u := by
 induction u using Nat.strongRecOn with
 | _ u ih =>
  by_cases h : u < 10
  ·rw [Hq h]
   show 10 * 0 + ((M8 u).toNat - 48) = u
   rw [Hv h]; omega
  ·rw [NJ h, Qj, ih (u / 10) (by omega), Hv (Nat.mod_lt u (by decide : 0 < 10))]; omega
theorem Hr : ∀ (k u : Nat), u < 10 ^ (k + 1) -> (decDigits u).length <= k + 1
 | 0, u, h => by rw [Hq (by simpa using h)]; simp
 | k + 1, u, h => by
  by_cases hu : u < 10
  ·rw [Hq hu]; simp
  ·rw [NJ hu, List.length_append]
   have := Hr k (u / 10) (by rw [Nat.pow_succ] at h; omega)
   simp; omega
def dP (k u : Nat) : UQ := List.replicate (k - (decDigits u).length) 48 ++ decDigits u
theorem Hu (k u : Nat) : (dP k u).all isD = true := by
 unfold dP
 rw [List.all_append, Hs, Bool.and_true, List.all_eq_true]
 intro b hb
 rw [List.eq_of_mem_replicate hb]; decide
theorem Pi (j : Nat) (l : UQ) : GV 0 (List.replicate j 48 ++ l) = GV 0 l := by
 induction j with
 | zero => rfl
 | succ j ih => rw [List.replicate_succ, List.cons_append, FP]; exact ih
theorem Pt (k u : Nat) : Fa (dP k u) = u := by
 unfold dP Fa
 rw [Pi]
 exact Kf u
theorem L7 (k u : Nat) : k <= (dP k u).length /\ 1 <= (dP k u).length := by
 unfold dP
 have := L6 u
 rw [List.length_append, List.length_replicate]
 omega
theorem Ht {k j u : Nat} (h : u < 10 ^ (j + 1)) : (dP k u).length <= max k (j + 1) := by
 unfold dP
 have := Hr j u h
 rw [List.length_append, List.length_replicate]
 omega
theorem PK : ∀ n, Go.Lib.repeatL [48] n = List.replicate n 48
 | 0 => rfl
 | n + 1 => by unfold Go.Lib.repeatL; rw [PK n]; rfl
section
variable {N : Nat}
theorem LW (u : Nat) (h : u <= 1000000000) : strconv_Itoa N (u : Int) = some (decDigits u) := by
 unfold strconv_Itoa
 rw [if_pos (by omega), Go.Lib.itoa_nonneg]
theorem LU (u k : Nat) (h : u <= 1000000000) (hk : k <= 100) : BG N (u : Int) (k : Int) = some (dP k u) := by
 unfold BG
 rw [LW u h, Option.bind_some]
 have hl : (decDigits u).length <= 10 := Hr 9 u (by omega)
 rw [E6 (by omega) (by omega)]
 have e : max (0 : Int) ((k : Int) - ((decDigits u).length : Int)) = ((k - (decDigits u).length : Nat) : Int) := by omega
 rw [e]
 unfold strings_Repeat
 rw [if_pos (by simp; omega), Option.bind_some, Int.toNat_natCast, PK]
 rw [CD (by simp; omega)]
 rfl
end
end
end Go.Proofs.YthljkpeimofbbaaGreatDoor
