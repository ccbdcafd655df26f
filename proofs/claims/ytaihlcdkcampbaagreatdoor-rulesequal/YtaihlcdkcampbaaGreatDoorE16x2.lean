/- Lemmas of the claim RulesEqual, printed by a program of the claimant and by hand. No statement of the seat is proved here. -/
import Derived.Test.YtaihlcdkcampbaaGreatDoorE16x1
set_option linter.unusedVariables false
set_option linter.unusedSimpArgs false
set_option linter.unusedSectionVars false
set_option maxHeartbeats 4000000
set_option maxRecDepth 100000
namespace Go.Proofs.YtaihlcdkcampbaaGreatDoor
def opOf (R : Array Oper) (i : Nat) : Op := match R[i]? with | some o => o.op | none => .alloc 0
def tyOf (R : Array Oper) (i : Nat) : TypeId := match R[i]? with | some o => o.type | none => 0
def dsOf (R : Array Oper) (i : Nat) : Option Nat := match R[i]? with | some o => o.dst | none => none
def gdOf (R : Array Oper) (i : Nat) : Option (Nat × Bool) := match R[i]? with | some o => o.guard | none => none
def ung (R : Array Oper) (i : Nat) : Bool := match R[i]? with | some o => (match o.guard with | none => true | some _ => false) | none => false
theorem opq_ung {R : Array Oper} {i : Nat} (h : ung R i = true) : opq R i = some (dsOf R i, opOf R i, tyOf R i, none) := by
 unfold ung at h; unfold opq dsOf opOf tyOf
 cases hr : R[i]? with
 | none => simp [hr] at h
 | some o =>
  simp only [hr] at h
  cases hg : o.guard with
  | none => simp [hg]
  | some p => simp [hg] at h
def ung' (R : Array Oper) (j : Nat) (b : Bool) (i : Nat) : Bool := match R[i]? with | some o => (match o.guard with | none => true | some (j', b') => Nat.beq j j' && (b == b')) | none => false
theorem opq_ung' {R : Array Oper} {i j : Nat} {b : Bool} (h : ung' R j b i = true) : opq R i = some (dsOf R i, opOf R i, tyOf R i, none) ∨ opq R i = some (dsOf R i, opOf R i, tyOf R i, some (j, b)) := by
 unfold ung' at h; unfold opq dsOf opOf tyOf
 cases hr : R[i]? with
 | none => simp [hr] at h
 | some o =>
  simp only [hr] at h
  cases hg : o.guard with
  | none => simp [hg]
  | some p =>
   obtain ⟨j', b'⟩ := p
   simp only [hg, Bool.and_eq_true, beq_iff_eq] at h
   have e1 := Nat.eq_of_beq_eq_true h.1
   have e2 := h.2
   subst e1; subst e2
   simp [hg]
def slQ (P : Program) (t : TypeId) : Bool := match elemOf' P t with | some _ => true | none => false
def pvI (op : BinOp) (k : IntKind) (a b : Int) : Option Value := match op with
 | .add => some (.int k (k.wrap (a + b))) | .sub => some (.int k (k.wrap (a - b))) | .mul => some (.int k (k.wrap (a * b)))
 | .lss => some (.bool (decide (a < b))) | .leq => some (.bool (decide (a ≤ b))) | .gtr => some (.bool (decide (a > b))) | .geq => some (.bool (decide (a ≥ b)))
 | .eql => some (.bool (a == b)) | .neq => some (.bool (a != b))
 | .quo => (match decide (b = 0) with | false => some (.int k (k.wrap (a.tdiv b))) | true => none)
 | .rem => (match decide (b = 0) with | false => some (.int k (a.tmod b)) | true => none)
 | _ => none
def pvS (op : BinOp) (a b : List UInt8) : Option Value := match op with
 | .eql => some (.bool (a == b)) | .neq => some (.bool (a != b)) | .lss => some (.bool (sless a b)) | .leq => some (.bool (sless a b || a == b))
 | .gtr => some (.bool (!(sless a b || a == b))) | .geq => some (.bool (!sless a b)) | _ => none
def pvBin (P : Program) (t : TypeId) (op : BinOp) : Value → Value → Option Value
 | .int k a, .int k' b => (match decide (k = k') with | true => pvI op k a b | false => none)
 | .string a, .string b => pvS op a.data.toList b.data.toList
 | .bool a, .bool b => (match P.underlying t with | some .bool => (match op with | .eql => some (.bool (a == b)) | .neq => some (.bool (!(a == b))) | _ => none) | _ => none)
 | .agg xs, .agg ys => (match P.eqGuardType P.depth t with
  | false => (match eqV P 8 t (.agg xs) (.agg ys) with | some b => (match op with | .eql => some (.bool b) | .neq => some (.bool (!b)) | _ => none) | none => none)
  | true => none)
 | _, _ => none
def pvCall (P : Program) (ρ : Operand → Value) (c : Call) : Option Value := match c.callee with
 | .builtin .len => (match c.args.toList with
  | [x] => (match c.argTypes[0]? with
   | some t => (match ρ x with
    | .slice _ n _ => (match slQ P t with | true => some (.int .i64 (n : Int)) | false => none)
    | .string s => (match P.underlying t with | some .string => some (.int .i64 (s.data.toList.length : Int)) | _ => none)
    | _ => none)
   | none => none)
  | _ => none)
 | .builtin .max => (match c.args.toList with | [x, y] => (match ρ x, ρ y with | .int .i64 a, .int .i64 b => some (.int .i64 (max a b)) | _, _ => none) | _ => none)
 | .builtin .min => (match c.args.toList with | [x, y] => (match ρ x, ρ y with | .int .i64 a, .int .i64 b => some (.int .i64 (min a b)) | _, _ => none) | _ => none)
 | _ => none
def pv (P : Program) (ρ : Operand → Value) : Op → Option Value
 | .move x => some (ρ x)
 | .assign x => some (ρ x)
 | .binOp op t x y _ => pvBin P t op (ρ x) (ρ y)
 | .unOp op _ x => (match op, ρ x with | .not, .bool b => some (.bool (!b)) | .neg, .int k a => some (.int k (k.wrap (0 - a))) | _, _ => none)
 | .extract x i => (match ρ x with | .tuple vs => vs[i]? | _ => none)
 | .fieldAddr s x i => (match ρ x with
  | .pointer (some ⟨b, o, none⟩) => (match fieldOf P s i with | some (off, k) => (match decide (k = 0) with | false => some (.pointer (some ⟨b, o + off, none⟩)) | true => none) | none => none)
  | _ => none)
 | .field s x i => (match ρ x with
  | .agg cs => (match fieldT P s i with
   | some (o, t) => (match tiOf P t with
    | some (gg, k) => (match Nat.beq (cellsAt cs o k).length k && (gg || k == 1) with | true => some (mkV gg (cellsAt cs o k)) | false => none)
    | none => none)
   | none => none)
  | _ => none)
 | .build t parts => (match buildF P t (parts.toList.map fun p => (p.1, ρ p.2)) with | some cs => some (.agg cs.toArray) | none => none)
 | .makeFunc fn fi ca => some (.func fn (fi.toList.map ρ).toArray (ca.toList.map ρ).toArray)
 | .nilCheck x => (match ρ x with | .pointer (some a) => some (.pointer (some a)) | _ => none)
 | .convert s d x => (match ρ x with | .int _ a => (match (P.underlying s).isSome, P.underlying d with | true, some (.int k) => some (.int k (k.wrap a)) | _, _ => none) | _ => none)
 | .call c => pvCall P ρ c
 | _ => none
theorem str_eta (s : ByteArray) : s = ⟨s.data.toList.toArray⟩ := by cases s; rfl
section
variable {P : Program} {ρ : Operand → Value} {w : World} {ty : TypeId}
theorem pvI_run {op : BinOp} {k : IntKind} {a b : Int} {x y : Operand} {t t' : TypeId} {v : Value} (hx : ρ x = .int k a) (hy : ρ y = .int k b) (h : pvI op k a b = some v) : (execB ρ (.binOp op t x y t') ty).run P w = .ok (.value v) w := by
  cases op <;> simp only [pvI, Option.some.injEq, reduceCtorEq] at h <;> first
    | (subst h; first | exact run_add hx hy | exact run_sub hx hy | exact run_mul hx hy | exact run_lss hx hy | exact run_leq hx hy | exact run_gtr hx hy | exact run_geq hx hy | exact run_eql hx hy | exact run_neq hx hy)
    | (split at h
       · rename_i hb; cases h; first | exact run_quo hx hy hb | exact run_rem hx hy hb
       · cases h)
theorem pvS_run {op : BinOp} {a b : List UInt8} {x y : Operand} {t t' : TypeId} {v : Value} (hx : ρ x = .string ⟨a.toArray⟩) (hy : ρ y = .string ⟨b.toArray⟩) (h : pvS op a b = some v) : (execB ρ (.binOp op t x y t') ty).run P w = .ok (.value v) w := by
 cases op <;> simp only [pvS, Option.some.injEq, reduceCtorEq] at h <;> subst h <;> exact run_scmp hx hy rfl
theorem pvBin_run {op : BinOp} {x y : Operand} {t t' : TypeId} {v : Value} (h : pvBin P t op (ρ x) (ρ y) = some v) : (execB ρ (.binOp op t x y t') ty).run P w = .ok (.value v) w := by
 generalize hx : ρ x = a at h
 generalize hy : ρ y = b at h
 unfold pvBin at h
 split at h
 ·split at h
  ·rename_i hk
   have := of_decide_eq_true hk; subst this
   exact pvI_run hx hy h
  ·cases h
 ·rename_i a b
  exact pvS_run (hx.trans (congrArg _ (str_eta a))) (hy.trans (congrArg _ (str_eta b))) h
 ·split at h
  ·rename_i hu
   split at h
   ·cases h; exact run_eqb hx hy hu
   ·cases h; exact run_neb hx hy hu
   ·cases h
  ·cases h
 ·split at h
  ·rename_i hg
   split at h
   ·rename_i b he
    split at h
    ·cases h; exact run_eqs hx hy hg he
    ·cases h; exact run_nes hx hy hg he
    ·cases h
   ·cases h
  ·cases h
 ·cases h
theorem pvCall_run {c : Call} {v : Value} (h : pvCall P ρ c = some v) : (execB ρ (.call c) ty).run P w = .ok (.value v) w := by
 obtain ⟨callee, args, ats⟩ := c
 unfold pvCall at h
 simp only at h
 split at h
 ·split at h
  ·rename_i x ha
   have : args = #[x] := by cases args; simpa using ha
   subst this
   split at h
   ·rename_i t ht
    split at h
    ·rename_i a n c hx
     split at h
     ·rename_i hs
      unfold slQ at hs
      split at hs
      ·rename_i q hq; obtain ⟨E, s, by_⟩ := q
       cases h; exact run_len_slice' hx ht hq
      ·cases hs
     ·cases h
    ·rename_i s hx
     split at h
     ·rename_i hu; cases h; exact run_slen (hx.trans (congrArg _ (str_eta s))) ht hu
     ·cases h
    ·cases h
   ·cases h
  ·cases h
 ·split at h
  ·rename_i x y ha
   have : args = #[x, y] := by cases args; simpa using ha
   subst this
   split at h
   ·rename_i hx hy; cases h; exact run_max2 hx hy
   ·cases h
  ·cases h
 ·split at h
  ·rename_i x y ha
   have : args = #[x, y] := by cases args; simpa using ha
   subst this
   split at h
   ·rename_i hx hy; cases h; exact run_min2 hx hy
   ·cases h
  ·cases h
 ·cases h
theorem pv_run {op : Op} {v : Value} (h : pv P ρ op = some v) : (execB ρ op ty).run P w = .ok (.value v) w := by
 unfold pv at h
 split at h
 ·cases h; exact run_move rfl
 ·cases h; exact run_assign rfl
 ·exact pvBin_run h
 ·split at h
  ·rename_i hx; cases h; exact run_not hx
  ·rename_i hx; cases h; exact run_neg hx
  ·cases h
 ·split at h
  ·rename_i hx; exact run_extract hx h
  ·cases h
 ·split at h
  ·rename_i hx
   split at h
   ·rename_i hf
    split at h
    ·rename_i hk; cases h; exact run_fieldAddr hx hf hk rfl
    ·cases h
   ·cases h
  ·cases h
 ·split at h
  ·rename_i hx
   split at h
   ·rename_i hf
    split at h
    ·rename_i ht
     split at h
     ·rename_i hk
      simp only [Bool.and_eq_true] at hk
      cases h; exact run_field2 hx hf ht (Nat.eq_of_beq_eq_true hk.1) hk.2 rfl
     ·cases h
    ·cases h
   ·cases h
  ·cases h
 ·split at h
  ·rename_i hb; cases h; exact run_build2 rfl hb
  ·cases h
 ·cases h; exact run_makeFunc rfl rfl
 ·split at h
  ·rename_i hx; cases h; exact run_nilCheck hx
  ·cases h
 ·split at h
  ·rename_i hx
   split at h
   ·rename_i hs hd; cases h; exact run_convInt hx hs hd
   ·cases h
  ·cases h
 ·exact pvCall_run h
 ·cases h
variable {ro : Option Nat} {n : Nat} {R : Array Oper} {Q : Exit → Fr → World → Prop}
def pst (P : Program) (R : Array Oper) : List Nat → Nat → Fr → Fr
 | _, 0, f => f
 | [], _ + 1, f => f
 | i :: l, m + 1, f => pst P R l m (updo f (dsOf R i) ((pv P (fev f) (opOf R i)).getD undef))
def isS {α : Type} : Option α → Bool | some _ => true | none => false
theorem isS_spec {α : Type} {o : Option α} {d : α} (h : isS o = true) : o = some (o.getD d) := by cases o <;> simp_all [isS]
def pok (P : Program) (R : Array Oper) : List Nat → Nat → Fr → Bool
 | _, 0, _ => true
 | [], _ + 1, _ => false
 | i :: l, m + 1, f => ung R i && (isS (pv P (fev f) (opOf R i)) && pok P R l m (updo f (dsOf R i) ((pv P (fev f) (opOf R i)).getD undef)))
theorem Vs_aux : ∀ (m : Nat) {l : List Nat} {f : Fr}, RWP P ro n R Q (l.drop m) (pst P R l m f) w → pok P R l m f = true → RWP P ro n R Q l f w
 | 0, l, f, k, _ => by cases l <;> exact k
 | m + 1, [], f, k, h => by simp [pok] at h
 | m + 1, i :: l, f, k, h => by
  simp only [pok, Bool.and_eq_true] at h
  exact RWP.val (opq_ung h.1) rfl (pv_run (isS_spec h.2.1)) (Vs_aux m k h.2.2)
theorem Vs (m : Nat) {l : List Nat} {f : Fr} (k : RWP P ro n R Q (l.drop m) (pst P R l m f) w) (h : pok P R l m f = true := by kernel_rfl) : RWP P ro n R Q l f w := Vs_aux m k h
def pokG (P : Program) (R : Array Oper) (j : Nat) (b : Bool) (q : Nat) : List Nat → Nat → Fr → Bool
 | _, 0, _ => true
 | [], _ + 1, _ => false
 | i :: l, m + 1, f => ung' R j b i && ((match dsOf R i with | some d => !Nat.beq q d | none => true) && (isS (pv P (fev f) (opOf R i)) && pokG P R j b q l m (updo f (dsOf R i) ((pv P (fev f) (opOf R i)).getD undef))))
theorem updo_ne {f : Fr} {d : Option Nat} {v : Value} {q : Nat} (h : (match d with | some d => !Nat.beq q d | none => true) = true) : (updo f d v) q = f q := by
 cases d with
 | none => rfl
 | some d => simp only [Bool.not_eq_true'] at h; simp only [updo, upd, h, cond_false]
theorem VsG_aux {j q : Nat} {b : Bool} (hj : dstq R j = some q) : ∀ (m : Nat) {l : List Nat} {f : Fr}, f q = .bool b → RWP P ro n R Q (l.drop m) (pst P R l m f) w → pokG P R j b q l m f = true → RWP P ro n R Q l f w
 | 0, l, f, _, k, _ => by cases l <;> exact k
 | m + 1, [], f, _, k, h => by simp [pokG] at h
 | m + 1, i :: l, f, hf, k, h => by
  simp only [pokG, Bool.and_eq_true] at h
  have hf' := (updo_ne (f := f) (v := (pv P (fev f) (opOf R i)).getD undef) h.2.1).trans hf
  rcases opq_ung' h.1 with e | e
  ·exact RWP.val e rfl (pv_run (isS_spec h.2.2.1)) (VsG_aux hj m hf' k h.2.2.2)
  ·exact RWP.val e (gd_y hj hf rfl) (pv_run (isS_spec h.2.2.1)) (VsG_aux hj m hf' k h.2.2.2)
def gj (R : Array Oper) : List Nat → Nat
 | i :: _ => (match gdOf R i with | some (j, _) => j | none => 0)
 | [] => 0
def gq (R : Array Oper) (l : List Nat) : Nat := match dstq R (gj R l) with | some q => q | none => 0
theorem Vgs {b c : Bool} (hc : c = b) (m : Nat) {l : List Nat} {f : Fr} (k : RWP P ro n R Q (l.drop m) (pst P R l m f) w) (h : pokG P R (gj R l) b (gq R l) l m f = true := by kernel_rfl)
  (hj : dstq R (gj R l) = some (gq R l) := by kernel_rfl) (hf : f (gq R l) = .bool c := by kernel_rfl) : RWP P ro n R Q l f w :=
 VsG_aux hj m (by rw [hf, hc]) k h
def sst (R : Array Oper) : List Nat → Nat → Fr → Fr
 | _, 0, f => f
 | [], _ + 1, f => f
 | i :: l, m + 1, f => sst R l m (updo f (dsOf R i) undef)
def sok (R : Array Oper) (j : Nat) (b : Bool) (q : Nat) : List Nat → Nat → Bool
 | _, 0 => true
 | [], _ + 1 => false
 | i :: l, m + 1 => (match R[i]? with | some o => (match o.guard with | some (j', b') => Nat.beq j j' && (b == b') | none => false) | none => false) && ((match dsOf R i with | some d => !Nat.beq q d | none => true) && sok R j b q l m)
theorem opq_gd {i j : Nat} {b : Bool} (h : (match R[i]? with | some o => (match o.guard with | some (j', b') => Nat.beq j j' && (b == b') | none => false) | none => false) = true) : opq R i = some (dsOf R i, opOf R i, tyOf R i, some (j, b)) := by
 unfold opq dsOf opOf tyOf
 cases hr : R[i]? with
 | none => simp [hr] at h
 | some o =>
  simp only [hr] at h
  cases hg : o.guard with
  | none => simp [hg] at h
  | some p =>
   obtain ⟨j', b'⟩ := p
   simp only [hg, Bool.and_eq_true, beq_iff_eq] at h
   have e1 := Nat.eq_of_beq_eq_true h.1
   have e2 := h.2
   subst e1; subst e2
   simp [hg]
theorem sk_aux {j q : Nat} {b : Bool} (hg : ∀ f' : Fr, f' q = f' q → True) (hgd : ∀ f' : Fr, ∀ v, f' q = v → v = undef ∨ v = .bool (!b) → gd R f' (some (j, b)) = false) : ∀ (m : Nat) {l : List Nat} {f : Fr}, (f q = undef ∨ f q = .bool (!b)) → RWP P ro n R Q (l.drop m) (sst R l m f) w → sok R j b q l m = true → RWP P ro n R Q l f w
 | 0, l, f, _, k, _ => by cases l <;> exact k
 | m + 1, [], f, _, k, h => by simp [sok] at h
 | m + 1, i :: l, f, hf, k, h => by
  simp only [sok, Bool.and_eq_true] at h
  have hf' : (updo f (dsOf R i) undef) q = f q := updo_ne h.2.1
  exact RWP.skip (opq_gd h.1) (hgd f _ rfl hf) (sk_aux hg hgd m (by rw [hf']; exact hf) k h.2.2)
def gb (R : Array Oper) : List Nat → Bool
 | i :: _ => (match gdOf R i with | some (_, b) => b | none => false)
 | [] => false
theorem Ss {b c : Bool} (hc : c = b) (m : Nat) {l : List Nat} {f : Fr} (k : RWP P ro n R Q (l.drop m) (sst R l m f) w) (h : sok R (gj R l) (!b) (gq R l) l m = true := by kernel_rfl)
  (hj : dstq R (gj R l) = some (gq R l) := by kernel_rfl) (hf : f (gq R l) = .bool c := by kernel_rfl) : RWP P ro n R Q l f w :=
 sk_aux (fun _ _ => trivial) (fun f' v e hv => by
  rcases hv with hv | hv
  ·exact gd_u hj (e.trans hv)
  ·exact gd_n hj (e.trans hv) rfl) m (.inr (by rw [hf, hc]; simp)) k h
theorem Su' (m : Nat) {l : List Nat} {f : Fr} (k : RWP P ro n R Q (l.drop m) (sst R l m f) w) (h : sok R (gj R l) (gb R l) (gq R l) l m = true := by kernel_rfl)
  (hj : dstq R (gj R l) = some (gq R l) := by kernel_rfl) (hf : f (gq R l) = undef := by kernel_rfl) : RWP P ro n R Q l f w :=
 sk_aux (fun _ _ => trivial) (fun f' v e hv => by
  rcases hv with hv | hv
  ·exact gd_u hj (e.trans hv)
  ·exact gd_n hj (e.trans hv) rfl) m (.inl hf) k h
end
end Go.Proofs.YtaihlcdkcampbaaGreatDoor
namespace Go.Proofs.YtaihlcdkcampbaaGreatDoor
def ups (g : Fr) (d : List Deferred) : List (Nat × Value) → Fr
 | [] => ⟨g.v, d⟩
 | (i, v) :: l => upd (ups g d l) i v
def FI (f : Fr) (d : List Deferred) (l : List (Nat × Value)) : Prop := ∃ g, f = ups g d l
theorem upd_self {f : Fr} {i : Nat} {v : Value} (h : f i = v) : upd f i v = f := by
 subst h
 cases f with
 | mk fv fd =>
  simp only [upd, Fr.mk.injEq, and_true]
  funext j
  cases hb : Nat.beq j i with
  | false => rfl
  | true => rw [Nat.eq_of_beq_eq_true hb]; rfl
def Eqs (f : Fr) : List (Nat × Value) → Prop
 | [] => True
 | (i, v) :: l => f i = v ∧ Eqs f l
theorem ups_self {f : Fr} {d : List Deferred} (hd : f.d = d) : ∀ {l : List (Nat × Value)}, Eqs f l → f = ups f d l
 | [], _ => by subst hd; rfl
 | (i, v) :: l, h => by
  show f = upd (ups f d l) i v
  rw [← ups_self hd h.2]; exact (upd_self h.1).symm
theorem eqs_of {f : Fr} : ∀ {l : List (Nat × Value)}, l.map (fun p => f p.1) = l.map (·.2) → Eqs f l
 | [], _ => trivial
 | (i, v) :: l, h => by
  simp only [List.map_cons, List.cons.injEq] at h
  exact ⟨h.1, eqs_of h.2⟩
theorem kq {α : Type} {a : α} (b : α) {c : α} (h : b = c) (k : a = b := by kernel_rfl) : a = c := k.trans h
theorem fI {f : Fr} {d : List Deferred} {l : List (Nat × Value)} (h : l.map (fun p => f p.1) = l.map (·.2) := by kernel_rfl) (hd : f.d = d := by kernel_rfl) : FI f d l := ⟨f, ups_self hd (eqs_of h)⟩
theorem fJ {f : Fr} {d : List Deferred} {l : List (Nat × Value)} (h : Eqs f l) (hd : f.d = d := by kernel_rfl) : FI f d l := ⟨f, ups_self hd h⟩
def pkC : Op → Operand | .pick c _ _ => c | _ => .tmp 0
def pkA : Op → Operand | .pick _ a _ => a | _ => .tmp 0
def pkB : Op → Operand | .pick _ _ b => b | _ => .tmp 0
def isPk : Op → Bool | .pick _ _ _ => true | _ => false
theorem isPk_spec {op : Op} (h : isPk op = true) : op = .pick (pkC op) (pkA op) (pkB op) := by cases op <;> simp_all [isPk, pkC, pkA, pkB]
def ldX : Op → Operand | .load _ x => x | _ => .tmp 0
def ldT : Op → TypeId | .load t _ => t | _ => 0
def isLd : Op → Bool | .load _ _ => true | _ => false
theorem isLd_spec {op : Op} (h : isLd op = true) : op = .load (ldT op) (ldX op) := by cases op <;> simp_all [isLd, ldX, ldT]
def pO : Value → Nat | .pointer (some ⟨_, o, _⟩) => o | _ => 0
def sB : Value → Nat | .slice (some ⟨b, _, _⟩) _ _ => b | _ => 0
def sO : Value → Nat | .slice (some ⟨_, o, _⟩) _ _ => o | _ => 0
def sC : Value → Nat | .slice _ _ c => c | _ => 0
def iK : Value → IntKind | .int k _ => k | _ => .i64
def ixX : Op → Operand | .indexAddr _ x _ => x | _ => .tmp 0
def ixY : Op → Operand | .indexAddr _ _ y => y | _ => .tmp 0
def ixT : Op → TypeId | .indexAddr t _ _ => t | _ => 0
def isIx : Op → Bool | .indexAddr _ _ _ => true | _ => false
theorem isIx_spec {op : Op} (h : isIx op = true) : op = .indexAddr (ixT op) (ixX op) (ixY op) := by cases op <;> simp_all [isIx, ixT, ixX, ixY]
def stX : Op → Operand | .store _ x _ => x | _ => .tmp 0
def stY : Op → Operand | .store _ _ y => y | _ => .tmp 0
def stT : Op → TypeId | .store t _ _ => t | _ => 0
def isSt : Op → Bool | .store _ _ _ => true | _ => false
theorem isSt_spec {op : Op} (h : isSt op = true) : op = .store (stT op) (stX op) (stY op) := by cases op <;> simp_all [isSt, stT, stX, stY]
def isAl (t : TypeId) : Op → Bool | .alloc t' => Nat.beq t t' | _ => false
theorem isAl_spec {t : TypeId} {op : Op} (h : isAl t op = true) : op = .alloc t := by
 cases op <;> simp only [isAl, Bool.false_eq_true] at h
 rw [Nat.eq_of_beq_eq_true h]
def bxX : Op → Operand | .box _ x => x | _ => .tmp 0
def isBx (t : TypeId) : Op → Bool | .box t' _ => Nat.beq t t' | _ => false
theorem isBx_spec {t : TypeId} {op : Op} (h : isBx t op = true) : op = .box t (bxX op) := by
 cases op <;> simp only [isBx, Bool.false_eq_true] at h
 rw [Nat.eq_of_beq_eq_true h]; rfl
def bsV (P : Program) (f : Fr) : Op → Option (TypeId × List Value) | .buildSlice t len parts => buildSF P t len (parts.toList.map fun p => (p.1, fev f p.2)) | _ => none
def bsL : Op → Nat | .buildSlice _ len _ => len | _ => 0
def clV (f : Fr) : Op → Option (FuncId × List Value)
 | .call c => (match c.callee with
  | .value f0 => (match fev f f0 with
   | .func (.func g) fi ca => some (g, fi.toList ++ c.args.toList.map (fev f) ++ ca.toList)
   | _ => none)
  | _ => none)
 | _ => none
theorem clV_spec {P : Program} {w : World} {f : Fr} {op : Op} {ty : TypeId} {g : FuncId} {args : List Value} (h : clV f op = some (g, args)) (hok : CallOk P g) : (execB (fev f) op ty).run P w = .ok (.enter g args.toArray) w := by
 unfold clV at h
 split at h
 ·rename_i c
  obtain ⟨callee, aos, ats⟩ := c
  simp only at h
  split at h
  ·split at h
   ·rename_i hf
    simp only [Option.some.injEq, Prod.mk.injEq] at h
    obtain ⟨rfl, rfl⟩ := h
    exact run_call hf hok rfl
   ·cases h
  ·cases h
 ·cases h
section
variable {P : Program} {ro : Option Nat} {n : Nat} {R : Array Oper} {Q : Exit → Fr → World → Prop} {i : Nat} {rest : List Nat} {f : Fr} {w w' w0 : World} {F0 F : Mem} {L : List (Option Nat × Obj)}
theorem RWP.valU {v : Value} (ho : ung R i = true) (hy : (execB (fev f) (opOf R i) (tyOf R i)).run P w = .ok (.value v) w') (k : RWP P ro n R Q rest (updo f (dsOf R i) v) w') : RWP P ro n R Q (i :: rest) f w := RWP.val (opq_ung ho) rfl hy k
theorem Pk1 {t : Bool} (ht : t = true) (k : RWP P ro n R Q rest (updo f (dsOf R i) (fev f (pkA (opOf R i)))) w) (hc : fev f (pkC (opOf R i)) = .bool t := by kernel_rfl) (ho : (ung R i && isPk (opOf R i)) = true := by kernel_rfl) : RWP P ro n R Q (i :: rest) f w := by
 simp only [Bool.and_eq_true] at ho
 refine RWP.valU ho.1 ?_ k
 have := isPk_spec ho.2
 rw [this] at hc ⊢; exact run_pick1 hc ht rfl
theorem Pk0 {t : Bool} (ht : t = false) (k : RWP P ro n R Q rest (updo f (dsOf R i) (fev f (pkB (opOf R i)))) w) (hc : fev f (pkC (opOf R i)) = .bool t := by kernel_rfl) (ho : (ung R i && isPk (opOf R i)) = true := by kernel_rfl) : RWP P ro n R Q (i :: rest) f w := by
 simp only [Bool.and_eq_true] at ho
 refine RWP.valU ho.1 ?_ k
 have := isPk_spec ho.2
 rw [this] at hc ⊢; exact run_pick0 hc ht rfl
def ldV (P : Program) (t : TypeId) (C : Array Value) (o : Nat) : Value := match tiOf P t with | some (g, s) => mkV g (cellsAt C o s) | none => undef
def ldK (P : Program) (t : TypeId) (C : Array Value) (o : Nat) : Bool := match tiOf P t with | some (g, s) => Nat.beq (cellsAt C o s).length s && (g || s == 1) | none => false
theorem run_ld {ρ : Operand → Value} {t ty : TypeId} {x : Operand} {b o : Nat} {C : Array Value} {E : TypeId} {fz : Nat × Nat} (hx : ρ x = .pointer (some ⟨b, o, none⟩)) (hp : w.heap[b]? = some (.cells C E fz)) (hk : ldK P t C o = true) :
  (execB ρ (.load t x) ty).run P w = .ok (.value (ldV P t C o)) w := by
 unfold ldK at hk; unfold ldV
 split at hk
 ·rename_i g s ht
  simp only [Bool.and_eq_true] at hk
  exact run_load' hx ht hp (Nat.eq_of_beq_eq_true hk.1) hk.2 rfl
 ·cases hk
theorem Ld {b : Nat} {C : Array Value} {E : TypeId} {fz : Nat × Nat} (hp : w.heap[b]? = some (.cells C E fz)) (k : RWP P ro n R Q rest (updo f (dsOf R i) (ldV P (ldT (opOf R i)) C (pO (fev f (ldX (opOf R i)))))) w)
  (hx : fev f (ldX (opOf R i)) = .pointer (some ⟨b, pO (fev f (ldX (opOf R i))), none⟩) := by kernel_rfl) (ho : (ung R i && (isLd (opOf R i) && ldK P (ldT (opOf R i)) C (pO (fev f (ldX (opOf R i)))))) = true := by kernel_rfl) : RWP P ro n R Q (i :: rest) f w := by
 simp only [Bool.and_eq_true] at ho
 refine RWP.valU ho.1 ?_ k
 have := isLd_spec ho.2.1
 rw [this]; exact run_ld hx hp ho.2.2
def lxV (P : Program) (t : TypeId) (cs : List Value) (j : Nat) : Value := match tiOf P t with | some (g, s) => mkV g ((cs.drop j).take s) | none => undef
def lxK (P : Program) (t : TypeId) (cs : List Value) (j kk : Nat) : Bool := match tiOf P t with | some (g, s) => decide (j + s ≤ kk) && (Nat.beq ((cs.drop j).take s).length s && (g || s == 1)) | none => false
theorem run_lx {ρ : Operand → Value} {t ty : TypeId} {x : Operand} {j b o kk : Nat} {C : Array Value} {E : TypeId} {fz : Nat × Nat} {cs : List Value} (hx : ρ x = .pointer (some ⟨b, o + j, none⟩)) (hp : w.heap[b]? = some (.cells C E fz)) (hc : cellsAt C o kk = cs) (hk : lxK P t cs j kk = true) :
  (execB ρ (.load t x) ty).run P w = .ok (.value (lxV P t cs j)) w := by
 unfold lxK at hk; unfold lxV
 split at hk
 ·rename_i g s ht
  simp only [Bool.and_eq_true] at hk
  exact run_loadE hx ht hp hc hk.1 ⟨Nat.eq_of_beq_eq_true hk.2.1, trivial⟩ hk.2.2 rfl
 ·cases hk
theorem Lx (j : Nat) {b o kk : Nat} {C : Array Value} {E : TypeId} {fz : Nat × Nat} {cs : List Value} (hp : w.heap[b]? = some (.cells C E fz)) (hc : cellsAt C o kk = cs) (k : RWP P ro n R Q rest (updo f (dsOf R i) (lxV P (ldT (opOf R i)) cs j)) w)
  (hx : fev f (ldX (opOf R i)) = .pointer (some ⟨b, o + j, none⟩) := by kernel_rfl) (ho : (ung R i && (isLd (opOf R i) && lxK P (ldT (opOf R i)) cs j kk)) = true := by kernel_rfl) : RWP P ro n R Q (i :: rest) f w := by
 simp only [Bool.and_eq_true] at ho
 refine RWP.valU ho.1 ?_ k
 have := isLd_spec ho.2.1
 rw [this]; exact run_lx hx hp hc ho.2.2
def elS (P : Program) (t : TypeId) : Nat := match elemOf' P t with | some (_, s, _) => s | none => 0
theorem Ix {m : Nat} {y : Int} (hi : 0 ≤ y ∧ y < (m : Int)) (k : RWP P ro n R Q rest (updo f (dsOf R i) (.pointer (some ⟨sB (fev f (ixX (opOf R i))), sO (fev f (ixX (opOf R i))) + y.toNat * elS P (ixT (opOf R i)), none⟩))) w)
  (hx : fev f (ixX (opOf R i)) = .slice (some ⟨sB (fev f (ixX (opOf R i))), sO (fev f (ixX (opOf R i))), none⟩) m (sC (fev f (ixX (opOf R i)))) := by kernel_rfl) (hy : fev f (ixY (opOf R i)) = .int (iK (fev f (ixY (opOf R i)))) y := by kernel_rfl)
  (ho : (ung R i && (isIx (opOf R i) && slQ P (ixT (opOf R i)))) = true := by kernel_rfl) : RWP P ro n R Q (i :: rest) f w := by
 simp only [Bool.and_eq_true] at ho
 obtain ⟨h1, h2, h3⟩ := ho
 refine RWP.valU h1 ?_ k
 unfold slQ at h3
 split at h3
 ·rename_i q hq; obtain ⟨E, s, by_⟩ := q
  have es : elS P (ixT (opOf R i)) = s := by simp [elS, hq]
  rw [es]
  have e := isIx_spec h2
  have := run_index (P := P) (w := w) (ty := tyOf R i) hx hy hq hi
  rw [← e] at this; exact this
 ·cases h3
theorem Ix0 {m : Nat} {y : Int} (hi : 0 ≤ y ∧ y < (m : Int)) (k : RWP P ro n R Q rest (updo f (dsOf R i) (.pointer (some ⟨sB (fev f (ixX (opOf R i))), y.toNat * elS P (ixT (opOf R i)), none⟩))) w)
  (hx : fev f (ixX (opOf R i)) = .slice (some ⟨sB (fev f (ixX (opOf R i))), 0, none⟩) m (sC (fev f (ixX (opOf R i)))) := by kernel_rfl) (hy : fev f (ixY (opOf R i)) = .int (iK (fev f (ixY (opOf R i)))) y := by kernel_rfl)
  (ho : (ung R i && (isIx (opOf R i) && slQ P (ixT (opOf R i)))) = true := by kernel_rfl) : RWP P ro n R Q (i :: rest) f w := by
 simp only [Bool.and_eq_true] at ho
 obtain ⟨h1, h2, h3⟩ := ho
 refine RWP.valU h1 ?_ k
 unfold slQ at h3
 split at h3
 ·rename_i q hq; obtain ⟨E, s, by_⟩ := q
  have es : elS P (ixT (opOf R i)) = s := by simp [elS, hq]
  rw [es]
  have e := isIx_spec h2
  have := run_index0 (P := P) (w := w) (ty := tyOf R i) hx hy hq hi
  rw [← e] at this; exact this
 ·cases h3
theorem run_ix {ρ : Operand → Value} {t ty : TypeId} {x y : Operand} {m : Nat} {q : Int} (hi : 0 ≤ q ∧ q < (m : Int)) (hx : ρ x = .slice (some ⟨sB (ρ x), sO (ρ x), none⟩) m (sC (ρ x))) (hy : ρ y = .int (iK (ρ y)) q) (h3 : slQ P t = true) :
  (execB ρ (.indexAddr t x y) ty).run P w = .ok (.value (.pointer (some ⟨sB (ρ x), sO (ρ x) + q.toNat * elS P t, none⟩))) w := by
 unfold slQ at h3
 split at h3
 ·rename_i a hq; obtain ⟨E, s, by_⟩ := a
  have es : elS P t = s := by simp [elS, hq]
  rw [es]; exact run_index hx hy hq hi
 ·cases h3
theorem run_ix0 {t ty : TypeId} {x y : Operand} {m : Nat} {q : Int} (hi : 0 ≤ q ∧ q < (m : Int)) (hx : fev f x = .slice (some ⟨sB (fev f x), 0, none⟩) m (sC (fev f x))) (hy : fev f y = .int (iK (fev f y)) q) (h3 : slQ P t = true) :
  (execB (fev f) (.indexAddr t x y) ty).run P w = .ok (.value (.pointer (some ⟨sB (fev f x), q.toNat * elS P t, none⟩))) w := by
 unfold slQ at h3
 split at h3
 ·rename_i a hq; obtain ⟨E, s, by_⟩ := a
  have es : elS P t = s := by simp [elS, hq]
  rw [es]; exact run_index0 hx hy hq hi
 ·cases h3
theorem RWP.valG {gb' gc : Bool} (hg : gc = gb') {v : Value} (hy : (execB (fev f) (opOf R i) (tyOf R i)).run P w = .ok (.value v) w') (k : RWP P ro n R Q rest (updo f (dsOf R i) v) w')
  (ho2 : ung' R (gj R [i]) gb' i = true) (hj : dstq R (gj R [i]) = some (gq R [i])) (hf : f (gq R [i]) = .bool gc) : RWP P ro n R Q (i :: rest) f w := by
 rcases opq_ung' ho2 with e | e
 ·exact RWP.val e rfl hy k
 ·exact RWP.val e (gd_y hj hf hg) hy k
theorem Pg1 {gb' gc : Bool} (hg : gc = gb') {t : Bool} (ht : t = true) (k : RWP P ro n R Q rest (updo f (dsOf R i) (fev f (pkA (opOf R i)))) w) (hc : fev f (pkC (opOf R i)) = .bool t := by kernel_rfl) (ho : isPk (opOf R i) = true := by kernel_rfl)
  (ho2 : ung' R (gj R [i]) gb' i = true := by kernel_rfl) (hj : dstq R (gj R [i]) = some (gq R [i]) := by kernel_rfl) (hf : f (gq R [i]) = .bool gc := by kernel_rfl) : RWP P ro n R Q (i :: rest) f w := by
 refine RWP.valG hg ?_ k ho2 hj hf
 have := isPk_spec ho
 rw [this] at hc ⊢; exact run_pick1 hc ht rfl
theorem Pg0 {gb' gc : Bool} (hg : gc = gb') {t : Bool} (ht : t = false) (k : RWP P ro n R Q rest (updo f (dsOf R i) (fev f (pkB (opOf R i)))) w) (hc : fev f (pkC (opOf R i)) = .bool t := by kernel_rfl) (ho : isPk (opOf R i) = true := by kernel_rfl)
  (ho2 : ung' R (gj R [i]) gb' i = true := by kernel_rfl) (hj : dstq R (gj R [i]) = some (gq R [i]) := by kernel_rfl) (hf : f (gq R [i]) = .bool gc := by kernel_rfl) : RWP P ro n R Q (i :: rest) f w := by
 refine RWP.valG hg ?_ k ho2 hj hf
 have := isPk_spec ho
 rw [this] at hc ⊢; exact run_pick0 hc ht rfl
theorem Lg {gb' gc : Bool} (hg : gc = gb') {b : Nat} {C : Array Value} {E : TypeId} {fz : Nat × Nat} (hp : w.heap[b]? = some (.cells C E fz)) (k : RWP P ro n R Q rest (updo f (dsOf R i) (ldV P (ldT (opOf R i)) C (pO (fev f (ldX (opOf R i)))))) w)
  (hx : fev f (ldX (opOf R i)) = .pointer (some ⟨b, pO (fev f (ldX (opOf R i))), none⟩) := by kernel_rfl) (ho : (isLd (opOf R i) && ldK P (ldT (opOf R i)) C (pO (fev f (ldX (opOf R i))))) = true := by kernel_rfl)
  (ho2 : ung' R (gj R [i]) gb' i = true := by kernel_rfl) (hj : dstq R (gj R [i]) = some (gq R [i]) := by kernel_rfl) (hf : f (gq R [i]) = .bool gc := by kernel_rfl) : RWP P ro n R Q (i :: rest) f w := by
 simp only [Bool.and_eq_true] at ho
 refine RWP.valG hg ?_ k ho2 hj hf
 have := isLd_spec ho.1
 rw [this]; exact run_ld hx hp ho.2
theorem Lxg {gb' gc : Bool} (hg : gc = gb') (j : Nat) {b o kk : Nat} {C : Array Value} {E : TypeId} {fz : Nat × Nat} {cs : List Value} (hp : w.heap[b]? = some (.cells C E fz)) (hcs : cellsAt C o kk = cs) (k : RWP P ro n R Q rest (updo f (dsOf R i) (lxV P (ldT (opOf R i)) cs j)) w)
  (hx : fev f (ldX (opOf R i)) = .pointer (some ⟨b, o + j, none⟩) := by kernel_rfl) (ho : (isLd (opOf R i) && lxK P (ldT (opOf R i)) cs j kk) = true := by kernel_rfl)
  (ho2 : ung' R (gj R [i]) gb' i = true := by kernel_rfl) (hj : dstq R (gj R [i]) = some (gq R [i]) := by kernel_rfl) (hf : f (gq R [i]) = .bool gc := by kernel_rfl) : RWP P ro n R Q (i :: rest) f w := by
 simp only [Bool.and_eq_true] at ho
 refine RWP.valG hg ?_ k ho2 hj hf
 have := isLd_spec ho.1
 rw [this]; exact run_lx hx hp hcs ho.2
theorem Ixg {gb' gc : Bool} (hg : gc = gb') {m : Nat} {y : Int} (hi : 0 ≤ y ∧ y < (m : Int)) (k : RWP P ro n R Q rest (updo f (dsOf R i) (.pointer (some ⟨sB (fev f (ixX (opOf R i))), sO (fev f (ixX (opOf R i))) + y.toNat * elS P (ixT (opOf R i)), none⟩))) w)
  (hx : fev f (ixX (opOf R i)) = .slice (some ⟨sB (fev f (ixX (opOf R i))), sO (fev f (ixX (opOf R i))), none⟩) m (sC (fev f (ixX (opOf R i)))) := by kernel_rfl) (hy : fev f (ixY (opOf R i)) = .int (iK (fev f (ixY (opOf R i)))) y := by kernel_rfl)
  (ho : (isIx (opOf R i) && slQ P (ixT (opOf R i))) = true := by kernel_rfl)
  (ho2 : ung' R (gj R [i]) gb' i = true := by kernel_rfl) (hj : dstq R (gj R [i]) = some (gq R [i]) := by kernel_rfl) (hf : f (gq R [i]) = .bool gc := by kernel_rfl) : RWP P ro n R Q (i :: rest) f w := by
 simp only [Bool.and_eq_true] at ho
 refine RWP.valG hg ?_ k ho2 hj hf
 have e := isIx_spec ho.1
 have := run_ix (P := P) (w := w) (ty := tyOf R i) hi hx hy ho.2
 rw [← e] at this; exact this
theorem Al' (t : TypeId) (C : Array Value) (hs : HS w0 F0 w F L) (k : ∀ b w', HS w0 F0 w' F ((some b, .cells C t (0, 0)) :: L) → RWP P ro n R Q rest (updo f (dsOf R i) (.pointer (some ⟨b, 0, none⟩))) w')
  (hC : (zeroOf P t).map Value.cells = some C := by kernel_rfl) (ho : (ung R i && isAl t (opOf R i)) = true := by kernel_rfl) : RWP P ro n R Q (i :: rest) f w := by
 simp only [Bool.and_eq_true] at ho
 cases hz : zeroOf P t with
 | none => rw [hz] at hC; cases hC
 | some z =>
  rw [hz] at hC; simp only [Option.map_some, Option.some.injEq] at hC
  have e := isAl_spec ho.2
  have := opq_ung ho.1
  rw [e] at this
  exact RWP.alloc this rfl hz hC hs k
theorem Bx' (t : TypeId) (C : Array Value) (hs : HS w0 F0 w F L) (k : ∀ b w', HS w0 F0 w' F ((some b, .cells C t (0, 0)) :: L) → RWP P ro n R Q rest (updo f (dsOf R i) (.pointer (some ⟨b, 0, none⟩))) w')
  (hC : (fev f (bxX (opOf R i))).cells = C := by kernel_rfl) (ho : (ung R i && isBx t (opOf R i)) = true := by kernel_rfl) : RWP P ro n R Q (i :: rest) f w := by
 simp only [Bool.and_eq_true] at ho
 have e := isBx_spec ho.2
 have := opq_ung ho.1
 rw [e] at this
 exact RWP.box this rfl rfl hC hs k
theorem Bs (E : TypeId) (cs : List Value) (hs : HS w0 F0 w F L) (k : ∀ b w', HS w0 F0 w' F ((some b, .cells cs.toArray E (0, 0)) :: L) → RWP P ro n R Q rest (updo f (dsOf R i) (.slice (some ⟨b, 0, none⟩) (bsL (opOf R i)) (bsL (opOf R i)))) w')
  (hb : bsV P f (opOf R i) = some (E, cs) := by kernel_rfl) (ho : ung R i = true := by kernel_rfl) : RWP P ro n R Q (i :: rest) f w := by
 have := opq_ung ho
 cases e : opOf R i with
 | buildSlice t len parts =>
  rw [e] at hb this k
  exact RWP.buildSlice this rfl rfl hb hs k
 | _ => rw [e] at hb; simp [bsV] at hb
def storeK (P : Program) (t : TypeId) (v : Value) (o : Nat) (C : Array Value) : Bool := match tiOf P t with | some (_, s) => Nat.beq v.cells.size s && (decide (o + s ≤ C.size) && v.cells.toList.all (·.oneCell')) | none => false
theorem run_st {ρ : Operand → Value} {t ty : TypeId} {x y : Operand} {b o : Nat} {C C' : Array Value} {E : TypeId} (hx : ρ x = .pointer (some ⟨b, o, none⟩)) (hp : w.heap[b]? = some (.cells C E (0, 0))) (hk : storeK P t (ρ y) o C = true) (hC : blit C o (ρ y).cells.toList = C') :
  (execB ρ (.store t x y) ty).run P w = .ok .skip (putB w b (.cells C' E (0, 0))) := by
 unfold storeK at hk
 split at hk
 ·rename_i g s ht
  simp only [Bool.and_eq_true] at hk
  exact run_store' hx rfl ht hp (Nat.eq_of_beq_eq_true hk.1) hk.2.1 hk.2.2 hC
 ·cases hk
theorem St_aux {b : Nat} {C C' : Array Value} {E : TypeId} (hp : w.heap[b]? = some (.cells C E (0, 0))) (k : RWP P ro n R Q rest f (putB w b (.cells C' E (0, 0))))
  (hx : fev f (stX (opOf R i)) = .pointer (some ⟨b, pO (fev f (stX (opOf R i))), none⟩)) (hC : blit C (pO (fev f (stX (opOf R i)))) (fev f (stY (opOf R i))).cells.toList = C')
  (ho : (ung R i && (isSt (opOf R i) && (storeK P (stT (opOf R i)) (fev f (stY (opOf R i))) (pO (fev f (stX (opOf R i)))) C && (match dsOf R i with | none => true | some _ => false)))) = true) : RWP P ro n R Q (i :: rest) f w := by
 simp only [Bool.and_eq_true] at ho
 obtain ⟨h1, h2, h3, h4⟩ := ho
 have e := isSt_spec h2
 have := opq_ung h1
 cases hd : dsOf R i with
 | some d => rw [hd] at h4; cases h4
 | none =>
  rw [hd] at this
  refine RWP.unit this rfl ?_ k
  rw [e]; exact run_st hx hp h3 hC
theorem Cl' {fid : FuncId} {args : List Value} {post : Mem → Value → Prop} (hok : CallOk P fid) (hs : HS w0 F0 w F L) (hc : Calls P fid args.toArray w (FRet w F post))
  (k : ∀ v F1 w1, HS w0 F0 w1 F1 L → Mem.le F F1 → post F1 v → RWP P ro n R Q rest (updo f (dsOf R i) v) w1) (ha : clV f (opOf R i) = some (fid, args) := by kernel_rfl) (ho : ung R i = true := by kernel_rfl) : RWP P ro n R Q (i :: rest) f w := by
 refine RWP.enter (opq_ung ho) rfl (clV_spec ha hok) hc ?_
 rintro e w' ⟨r, F', rfl, h1, h2⟩
 exact k r F' w' (hs.call h1) h1.le h2
theorem Cg {fid : FuncId} {args : List Value} {post : Mem → Value → Prop} {b c : Bool} (hg : c = b) (hok : CallOk P fid) (hs : HS w0 F0 w F L) (hc : Calls P fid args.toArray w (FRet w F post))
  (k : ∀ v F1 w1, HS w0 F0 w1 F1 L → Mem.le F F1 → post F1 v → RWP P ro n R Q rest (updo f (dsOf R i) v) w1) (ha : clV f (opOf R i) = some (fid, args) := by kernel_rfl)
  (ho : ung' R (gj R [i]) b i = true := by kernel_rfl) (hj : dstq R (gj R [i]) = some (gq R [i]) := by kernel_rfl) (hf : f (gq R [i]) = .bool c := by kernel_rfl) : RWP P ro n R Q (i :: rest) f w := by
 have hE : ∀ e w', FRet w F post e w' → match e with
   | .returned v => RWP P ro n R Q rest (updo f (dsOf R i) v) w'
   | .panicked chain => Q (.panic chain) f w'
   | .outgrown => False := by
  rintro e w' ⟨r, F', rfl, h1, h2⟩
  exact k r F' w' (hs.call h1) h1.le h2
 rcases opq_ung' ho with e | e
 ·exact RWP.enter e rfl (clV_spec ha hok) hc hE
 ·exact RWP.enter e (gd_y hj hf hg) (clV_spec ha hok) hc hE
theorem CB {fid : FuncId} {args : List Value} {wb : World} {Fb : Mem} {post : Mem → Value → Own → Prop} (hok : CallOk P fid) (hc : Calls P fid args.toArray w (BRet wb Fb F post))
  (k : ∀ v F1 w1 L', HS wb Fb w1 F1 L' → Mem.le F F1 → post F1 v L' → RWP P ro n R Q rest (updo f (dsOf R i) v) w1) (ha : clV f (opOf R i) = some (fid, args) := by kernel_rfl) (ho : ung R i = true := by kernel_rfl) : RWP P ro n R Q (i :: rest) f w := by
 refine RWP.enter (opq_ung ho) rfl (clV_spec ha hok) hc ?_
 rintro e w' ⟨F', r, L', rfl, h1, h2, h3⟩
 exact k r F' w' L' h1 h2 h3
theorem CP {fid : FuncId} {args : List Value} {wb : World} {Fb : Mem} {α β : Type} {Lf : Own} {res : β ⊕ α} {bv : β → Value} {post : α → Mem → Value → Own → Prop} (hok : CallOk P fid) (hc : Calls P fid args.toArray w (BRetP wb Fb F Lf res bv post))
  (k : ∀ r v F1 w1 L', res = .inr r → HS wb Fb w1 F1 L' → Mem.le F F1 → post r F1 v L' → RWP P ro n R Q rest (updo f (dsOf R i) v) w1)
  (kp : ∀ b F1 w1, res = .inl b → HS wb Fb w1 F1 Lf → Mem.le F F1 → Q (.panic [{ v := bv b, recovered := false }]) f w1) (ha : clV f (opOf R i) = some (fid, args) := by kernel_rfl) (ho : ung R i = true := by kernel_rfl) : RWP P ro n R Q (i :: rest) f w := by
 refine RWP.enter (opq_ung ho) rfl (clV_spec ha hok) hc ?_
 rintro e w' (⟨r, F', v, L', h0, rfl, h1, h2, h3⟩ | ⟨b, F', h0, rfl, h1, h2⟩)
 ·exact k r v F' w' L' h0 h1 h2 h3
 ·exact kp b F' w' h0 h1 h2
def clQ (f : Fr) : Op → Option (FuncId × List Value)
 | .call c => (match c.callee with
  | .value f0 => (match fev f f0 with
   | .func (.func g) fi ca => some (g, fi.toList ++ (c.args.toList.map (fev f) ++ ca.toList))
   | _ => none)
  | _ => none)
 | _ => none
theorem clQ_eq (f : Fr) (op : Op) : clQ f op = clV f op := by
 unfold clQ clV
 split <;> try rfl
 split <;> try rfl
 split <;> try rfl
 simp [List.append_assoc]
theorem Cq {fid : FuncId} {args : List Value} {post : Mem → Value → Prop} (hok : CallOk P fid) (hs : HS w0 F0 w F L) (hc : Calls P fid args.toArray w (FRet w F post))
  (k : ∀ v F1 w1, HS w0 F0 w1 F1 L → Mem.le F F1 → post F1 v → RWP P ro n R Q rest (updo f (dsOf R i) v) w1) (ha : clQ f (opOf R i) = some (fid, args) := by kernel_rfl) (ho : ung R i = true := by kernel_rfl) : RWP P ro n R Q (i :: rest) f w := Cl' hok hs hc k (clQ_eq f _ ▸ ha) ho
theorem CPq {fid : FuncId} {args : List Value} {wb : World} {Fb : Mem} {α β : Type} {Lf : Own} {res : β ⊕ α} {bv : β → Value} {post : α → Mem → Value → Own → Prop} (hok : CallOk P fid) (hc : Calls P fid args.toArray w (BRetP wb Fb F Lf res bv post))
  (k : ∀ r v F1 w1 L', res = .inr r → HS wb Fb w1 F1 L' → Mem.le F F1 → post r F1 v L' → RWP P ro n R Q rest (updo f (dsOf R i) v) w1)
  (kp : ∀ b F1 w1, res = .inl b → HS wb Fb w1 F1 Lf → Mem.le F F1 → Q (.panic [{ v := bv b, recovered := false }]) f w1) (ha : clQ f (opOf R i) = some (fid, args) := by kernel_rfl) (ho : ung R i = true := by kernel_rfl) : RWP P ro n R Q (i :: rest) f w := CP hok hc k kp (clQ_eq f _ ▸ ha) ho
theorem Go (m : Nat) {fid : FuncId} {fn : Func} {args : List Value} {S : Ending → World → Prop} (hf : P.funcs[fid]? = some fn) (h : CWP P none m (bodyOf fn) (retQ P fn.results S) (f0 args) w)
  (hk : (Nat.beq fn.ntmps m && (decide (args.length ≤ m) && isS fn.body)) = true := by kernel_rfl) : Calls P fid args.toArray w S := by
 simp only [Bool.and_eq_true] at hk
 have h1 := isS_spec (d := .skip) hk.2.2
 exact calls_of hf h1 (Nat.eq_of_beq_eq_true hk.1) hk.2.1 h
theorem Sd {α : Type} {t : Bool} {x y r : α} (h : (bif t then x else y) = r) {PQ : List PanicEntry → List Deferred → World → Prop} {Post : Fr → World → Prop} {z : Nat} {Sw : Bool → World → Prop} {fuel : Nat} {l : List Bool}
  (ht : t = true → x = r → DWP P n R PQ Post z Sw fuel l f w) (hf : t = false → y = r → DWP P n R PQ Post z Sw fuel l f w) : DWP P n R PQ Post z Sw fuel l f w :=
 DWP.split t (fun e => ht e (cond_t h e)) (fun e => hf e (cond_f h e))
variable {c : Code} {Q' : Exit → Fr → World → Prop}
theorem Cd {α : Type} {t : Bool} {x y r : α} (h : (bif t then x else y) = r) (ht : t = true → x = r → CWP P ro n (cthn c) Q f w) (hf : t = false → y = r → CWP P ro n (cels c) Q f w) (hc : fev f (copd c) = .bool t := by kernel_rfl) (hk : kin c = 4 := by kernel_rfl) : CWP P ro n c Q f w :=
 CWP.cond hk hc (fun e => ht e (cond_t h e)) (fun e => hf e (cond_f h e))
theorem Cp (t : Bool) (ht : t = true → CWP P ro n (cthn c) Q f w) (hf : t = false → CWP P ro n (cels c) Q f w) (hc : fev f (copd c) = .bool t := by kernel_rfl) (hk : kin c = 4 := by kernel_rfl) : CWP P ro n c Q f w := CWP.cond hk hc ht hf
theorem C1 {t : Bool} (e : t = true) (h : CWP P ro n (cthn c) Q f w) (hc : fev f (copd c) = .bool t := by kernel_rfl) (hk : kin c = 4 := by kernel_rfl) : CWP P ro n c Q f w := CWP.cond1 hk hc e h
theorem C0 {t : Bool} (e : t = false) (h : CWP P ro n (cels c) Q f w) (hc : fev f (copd c) = .bool t := by kernel_rfl) (hk : kin c = 4 := by kernel_rfl) : CWP P ro n c Q f w := CWP.cond0 hk hc e h
theorem Sp {α : Type} {t : Bool} {x y r : α} (h : (bif t then x else y) = r) {l : List Nat} (ht : t = true → x = r → RWP P ro n R Q l f w) (hf : t = false → y = r → RWP P ro n R Q l f w) : RWP P ro n R Q l f w :=
 RWP.split t (fun e => ht e (cond_t h e)) (fun e => hf e (cond_f h e))
theorem Rt (h : Q .ret f w) (hk : kin c = 8 := by kernel_rfl) : CWP P ro n c Q f w := CWP.ret hk h
theorem Ex (h : Q (.exit (cid c)) f w) (hk : kin c = 7 := by kernel_rfl) : CWP P ro n c Q f w := CWP.exit hk h
end
def resT (f : Fr) : List ResultVar → Option (List Value)
 | [] => some []
 | .tmp t :: rs => (match resT f rs with | some l => some (f t :: l) | none => none)
 | _ => none
theorem resT_spec {P : Program} {w : World} {f : Fr} : ∀ {rs : List ResultVar} {vs : List Value}, resT f rs = some vs → ResL P w f rs vs
 | [], _, h => by cases h; trivial
 | .tmp t :: rs, vs, h => by
  unfold resT at h
  split at h
  ·rename_i l hl; cases h; exact ⟨rfl, resT_spec hl⟩
  ·cases h
 | .cell _ _ :: rs, vs, h => by simp [resT] at h
theorem Re {P : Program} {rs : Array ResultVar} {w w0 : World} {F0 F : Mem} {f : Fr} {L : List (Option Nat × Obj)} {post : Mem → Value → Prop} (vs : List Value) (hs : HS w0 F0 w F L) (hp : post F (single vs)) (hr : resT f rs.toList = some vs := by kernel_rfl) (hd : f.d = [] := by kernel_rfl) :
  f.d = [] ∧ ∃ v, (resultsF rs f).run P w = .ok v w ∧ FRet w0 F0 post (.returned v) w :=
 ⟨hd, single vs, res_of rfl (resT_spec hr), single vs, F, rfl, hs.clear, hp⟩
theorem ReB {P : Program} {rs : Array ResultVar} {w wb : World} {Fb F0 F : Mem} {f : Fr} {L : Own} {post : Mem → Value → Own → Prop} (vs : List Value) (hs : HS wb Fb w F L) (hl : Mem.le F0 F) (hp : post F (single vs) L) (hr : resT f rs.toList = some vs := by kernel_rfl) (hd : f.d = [] := by kernel_rfl) :
  f.d = [] ∧ ∃ v, (resultsF rs f).run P w = .ok v w ∧ BRet wb Fb F0 post (.returned v) w :=
 ⟨hd, single vs, res_of rfl (resT_spec hr), F, single vs, L, rfl, hs, hl, hp⟩
theorem ReP {P : Program} {rs : Array ResultVar} {w wb : World} {Fb F0 F : Mem} {f : Fr} {L Lf : Own} {α β : Type} {a : α} {bv : β → Value} {post : α → Mem → Value → Own → Prop} (vs : List Value) (hs : HS wb Fb w F L) (hl : Mem.le F0 F) (hp : post a F (single vs) L) (hr : resT f rs.toList = some vs := by kernel_rfl) (hd : f.d = [] := by kernel_rfl) :
  f.d = [] ∧ ∃ v, (resultsF rs f).run P w = .ok v w ∧ BRetP wb Fb F0 Lf (.inr a) bv post (.returned v) w :=
 ⟨hd, single vs, res_of rfl (resT_spec hr), .inl ⟨a, F, single vs, L, rfl, rfl, hs, hl, hp⟩⟩
theorem RePi {w wb : World} {Fb F0 F : Mem} {f : Fr} {Lf : Own} {α β : Type} {b : β} {bv : β → Value} {post : α → Mem → Value → Own → Prop} (hs : HS wb Fb w F Lf) (hl : Mem.le F0 F) (hd : f.d = [] := by kernel_rfl) :
  f.d = [] ∧ BRetP wb Fb F0 Lf (.inl b) bv post (.panicked [{ v := bv b, recovered := false }]) w := ⟨hd, .inr ⟨b, F, rfl, rfl, hs, hl⟩⟩
section
variable {w0 w : World} {F0 F : Mem} {L : List (Option Nat × Obj)} {e : Option Nat × Obj}
theorem HS.dr0 (h : HS w0 F0 w F (e :: L)) : HS w0 F0 w F (L) := h.drop 0
theorem HS.at0 {b : Nat} {o : Obj} (h : HS w0 F0 w F ((some b, o) :: L)) : w.heap[b]? = some o := h.ownAt (k := 0) rfl
theorem HS.fc0 {b : Nat} {o : Obj} (h : HS w0 F0 w F ((some b, o) :: L)) : ∃ F1, HS w0 F0 w F1 (L) ∧ Mem.le F F1 ∧ F1 b = some o := h.freezeC (k := 0) rfl
theorem HS.fr0 {α : Type} {T : Ty α} {E : TypeId} {a : Option Addr} {cap : Nat} {l : List α} (h : HS w0 F0 w F (e :: L)) (hr : RowR T E F a cap l e) : ∃ F1, HS w0 F0 w F1 (L) ∧ Mem.le F F1 ∧ SlA T F1 a l := h.freezeRow (k := 0) rfl hr
theorem HS.rd0 {α : Type} {T : Ty α} {E : TypeId} {a : Option Addr} {cap : Nat} {l : List α} (h : HS w0 F0 w F (e :: L)) (hr : RowR T E F a cap l e) : Rd T F w a l := RowR.rd h (k := 0) rfl hr
theorem HS.dr1 {e0 : Option Nat × Obj} (h : HS w0 F0 w F (e0 :: e :: L)) : HS w0 F0 w F (e0 :: L) := h.drop 1
theorem HS.pk1 {e0 : Option Nat × Obj} (h : HS w0 F0 w F (e0 :: e :: L)) : HS w0 F0 w F (e :: e0 :: L) := h.pick (k := 1) rfl
theorem HS.at1 {e0 : Option Nat × Obj} {b : Nat} {o : Obj} (h : HS w0 F0 w F (e0 :: (some b, o) :: L)) : w.heap[b]? = some o := h.ownAt (k := 1) rfl
theorem HS.fc1 {e0 : Option Nat × Obj} {b : Nat} {o : Obj} (h : HS w0 F0 w F (e0 :: (some b, o) :: L)) : ∃ F1, HS w0 F0 w F1 (e0 :: L) ∧ Mem.le F F1 ∧ F1 b = some o := h.freezeC (k := 1) rfl
theorem HS.fr1 {e0 : Option Nat × Obj} {α : Type} {T : Ty α} {E : TypeId} {a : Option Addr} {cap : Nat} {l : List α} (h : HS w0 F0 w F (e0 :: e :: L)) (hr : RowR T E F a cap l e) : ∃ F1, HS w0 F0 w F1 (e0 :: L) ∧ Mem.le F F1 ∧ SlA T F1 a l := h.freezeRow (k := 1) rfl hr
theorem HS.dr2 {e0 e1 : Option Nat × Obj} (h : HS w0 F0 w F (e0 :: e1 :: e :: L)) : HS w0 F0 w F (e0 :: e1 :: L) := h.drop 2
theorem HS.pk2 {e0 e1 : Option Nat × Obj} (h : HS w0 F0 w F (e0 :: e1 :: e :: L)) : HS w0 F0 w F (e :: e0 :: e1 :: L) := h.pick (k := 2) rfl
theorem HS.at2 {e0 e1 : Option Nat × Obj} {b : Nat} {o : Obj} (h : HS w0 F0 w F (e0 :: e1 :: (some b, o) :: L)) : w.heap[b]? = some o := h.ownAt (k := 2) rfl
theorem HS.dr3 {e0 e1 e2 : Option Nat × Obj} (h : HS w0 F0 w F (e0 :: e1 :: e2 :: e :: L)) : HS w0 F0 w F (e0 :: e1 :: e2 :: L) := h.drop 3
theorem HS.pk3 {e0 e1 e2 : Option Nat × Obj} (h : HS w0 F0 w F (e0 :: e1 :: e2 :: e :: L)) : HS w0 F0 w F (e :: e0 :: e1 :: e2 :: L) := h.pick (k := 3) rfl
theorem HS.at3 {e0 e1 e2 : Option Nat × Obj} {b : Nat} {o : Obj} (h : HS w0 F0 w F (e0 :: e1 :: e2 :: (some b, o) :: L)) : w.heap[b]? = some o := h.ownAt (k := 3) rfl
theorem HS.fr3 {e0 e1 e2 : Option Nat × Obj} {α : Type} {T : Ty α} {E : TypeId} {a : Option Addr} {cap : Nat} {l : List α} (h : HS w0 F0 w F (e0 :: e1 :: e2 :: e :: L)) (hr : RowR T E F a cap l e) : ∃ F1, HS w0 F0 w F1 (e0 :: e1 :: e2 :: L) ∧ Mem.le F F1 ∧ SlA T F1 a l := h.freezeRow (k := 3) rfl hr
theorem HS.pk4 {e0 e1 e2 e3 : Option Nat × Obj} (h : HS w0 F0 w F (e0 :: e1 :: e2 :: e3 :: e :: L)) : HS w0 F0 w F (e :: e0 :: e1 :: e2 :: e3 :: L) := h.pick (k := 4) rfl
theorem HS.at4 {e0 e1 e2 e3 : Option Nat × Obj} {b : Nat} {o : Obj} (h : HS w0 F0 w F (e0 :: e1 :: e2 :: e3 :: (some b, o) :: L)) : w.heap[b]? = some o := h.ownAt (k := 4) rfl
theorem HS.pk5 {e0 e1 e2 e3 e4 : Option Nat × Obj} (h : HS w0 F0 w F (e0 :: e1 :: e2 :: e3 :: e4 :: e :: L)) : HS w0 F0 w F (e :: e0 :: e1 :: e2 :: e3 :: e4 :: L) := h.pick (k := 5) rfl
theorem HS.at5 {e0 e1 e2 e3 e4 : Option Nat × Obj} {b : Nat} {o : Obj} (h : HS w0 F0 w F (e0 :: e1 :: e2 :: e3 :: e4 :: (some b, o) :: L)) : w.heap[b]? = some o := h.ownAt (k := 5) rfl
theorem HS.pk6 {e0 e1 e2 e3 e4 e5 : Option Nat × Obj} (h : HS w0 F0 w F (e0 :: e1 :: e2 :: e3 :: e4 :: e5 :: e :: L)) : HS w0 F0 w F (e :: e0 :: e1 :: e2 :: e3 :: e4 :: e5 :: L) := h.pick (k := 6) rfl
theorem HS.pk7 {e0 e1 e2 e3 e4 e5 e6 : Option Nat × Obj} (h : HS w0 F0 w F (e0 :: e1 :: e2 :: e3 :: e4 :: e5 :: e6 :: e :: L)) : HS w0 F0 w F (e :: e0 :: e1 :: e2 :: e3 :: e4 :: e5 :: e6 :: L) := h.pick (k := 7) rfl
variable {P : Program} {ro : Option Nat} {n : Nat} {R : Array Oper} {Q : Exit → Fr → World → Prop} {i : Nat} {rest : List Nat} {f : Fr} {α : Type} {T : Ty α} {E : TypeId} {a : Option Addr} {cap : Nat} {l m : List α}
def apX : Op → Operand | .call c => c.args[0]?.getD (.tmp 0) | _ => .tmp 0
def apY : Op → Operand | .call c => c.args[1]?.getD (.tmp 0) | _ => .tmp 0
def apK (P : Program) (E : TypeId) (sz : Nat) : Op → Bool
 | .call c => (match c.callee with
  | .builtin .append => (match c.args.toList, c.argTypes.toList with
   | [_, _], [t, t2] => (match elemOf' P t, zeroOf P E with
    | some (E', s, by_), some z => Nat.beq E E' && (Nat.beq s sz && (decide (by_ ≤ 1024) && (isSl P t2 && Nat.beq z.cells.size sz)))
    | _, _ => false)
   | _, _ => false)
  | _ => false)
 | _ => false
theorem apK_spec {op : Op} {sz : Nat} (h : apK P E sz op = true) : ∃ t t2 by_ z, op = .call { callee := .builtin .append, args := #[apX op, apY op], argTypes := #[t, t2] } ∧ elemOf' P t = some (E, sz, by_) ∧ decide (by_ ≤ 1024) = true ∧ isSl P t2 = true ∧ zeroOf P E = some z ∧ z.cells.size = sz := by
 unfold apK at h
 split at h
 ·rename_i c
  obtain ⟨callee, aos, ats⟩ := c
  simp only at h
  split at h
  ·split at h
   ·rename_i x y t t2 h1 h2
    split at h
    ·rename_i E' s by_ z he hz
     simp only [Bool.and_eq_true] at h
     obtain ⟨e1, e2, e3, e4, e5⟩ := h
     have e1 := Nat.eq_of_beq_eq_true e1
     have e2 := Nat.eq_of_beq_eq_true e2
     subst e1; subst e2
     have ha : aos = #[x, y] := by cases aos; simpa using h1
     have hb : ats = #[t, t2] := by cases ats; simpa using h2
     subst ha; subst hb
     exact ⟨t, t2, by_, z, rfl, he, e3, e4, hz, Nat.eq_of_beq_eq_true e5⟩
    ·cases h
   ·cases h
  ·cases h
 ·cases h
theorem St0 {b : Nat} {C : Array Value} {E : TypeId} (C' : Array Value) (hs : HS w0 F0 w F ((some b, .cells C E (0, 0)) :: L)) (k : ∀ w', HS w0 F0 w' F ((some b, .cells C' E (0, 0)) :: L) → RWP P ro n R Q rest f w')
  (hx : fev f (stX (opOf R i)) = .pointer (some ⟨b, pO (fev f (stX (opOf R i))), none⟩) := by kernel_rfl) (hC : blit C (pO (fev f (stX (opOf R i)))) (fev f (stY (opOf R i))).cells.toList = C' := by kernel_rfl)
  (ho : (ung R i && (isSt (opOf R i) && (storeK P (stT (opOf R i)) (fev f (stY (opOf R i))) (pO (fev f (stX (opOf R i)))) C && (match dsOf R i with | none => true | some _ => false)))) = true := by kernel_rfl) : RWP P ro n R Q (i :: rest) f w :=
 St_aux (hs.ownAt (k := 0) rfl) (k _ (hs.put (k := 0) rfl _)) hx hC ho
theorem Ap0 {a2 : Option Addr} (h1 : T.One) (hs : HS w0 F0 w F (e :: L)) (hr : RowR T E F a cap l e) (hm : Rd T F w a2 m) {r : List α} (hap : apnd l m = some r)
  (k : ∀ a' cap' e' w', HS w0 F0 w' F (e' :: L) → RowR T E F a' cap' r e' → RWP P ro n R Q rest (updo f (dsOf R i) (.slice a' r.length cap')) w')
  (hx : fev f (apX (opOf R i)) = .slice a l.length cap := by kernel_rfl) (hy : fev f (apY (opOf R i)) = .slice a2 m.length (sC (fev f (apY (opOf R i)))) := by kernel_rfl) (ho : (ung R i && apK P E T.sz (opOf R i)) = true := by kernel_rfl) : RWP P ro n R Q (i :: rest) f w := by
 simp only [Bool.and_eq_true] at ho
 obtain ⟨t, t2, by_, z, e1, he, hb, hni, hz, hzs⟩ := apK_spec ho.2
 have := opq_ung ho.1
 rw [e1] at this
 exact RWP.append this rfl hx hy he hb hni hz hzs h1 hs (k := 0) rfl hr hm hap k
theorem St1 {e0 : Option Nat × Obj} {b : Nat} {C : Array Value} {E : TypeId} (C' : Array Value) (hs : HS w0 F0 w F (e0 :: (some b, .cells C E (0, 0)) :: L)) (k : ∀ w', HS w0 F0 w' F (e0 :: (some b, .cells C' E (0, 0)) :: L) → RWP P ro n R Q rest f w')
  (hx : fev f (stX (opOf R i)) = .pointer (some ⟨b, pO (fev f (stX (opOf R i))), none⟩) := by kernel_rfl) (hC : blit C (pO (fev f (stX (opOf R i)))) (fev f (stY (opOf R i))).cells.toList = C' := by kernel_rfl)
  (ho : (ung R i && (isSt (opOf R i) && (storeK P (stT (opOf R i)) (fev f (stY (opOf R i))) (pO (fev f (stX (opOf R i)))) C && (match dsOf R i with | none => true | some _ => false)))) = true := by kernel_rfl) : RWP P ro n R Q (i :: rest) f w :=
 St_aux (hs.ownAt (k := 1) rfl) (k _ (hs.put (k := 1) rfl _)) hx hC ho
theorem Ap1 {e0 : Option Nat × Obj} {a2 : Option Addr} (h1 : T.One) (hs : HS w0 F0 w F (e0 :: e :: L)) (hr : RowR T E F a cap l e) (hm : Rd T F w a2 m) {r : List α} (hap : apnd l m = some r)
  (k : ∀ a' cap' e' w', HS w0 F0 w' F (e0 :: e' :: L) → RowR T E F a' cap' r e' → RWP P ro n R Q rest (updo f (dsOf R i) (.slice a' r.length cap')) w')
  (hx : fev f (apX (opOf R i)) = .slice a l.length cap := by kernel_rfl) (hy : fev f (apY (opOf R i)) = .slice a2 m.length (sC (fev f (apY (opOf R i)))) := by kernel_rfl) (ho : (ung R i && apK P E T.sz (opOf R i)) = true := by kernel_rfl) : RWP P ro n R Q (i :: rest) f w := by
 simp only [Bool.and_eq_true] at ho
 obtain ⟨t, t2, by_, z, e1, he, hb, hni, hz, hzs⟩ := apK_spec ho.2
 have := opq_ung ho.1
 rw [e1] at this
 exact RWP.append this rfl hx hy he hb hni hz hzs h1 hs (k := 1) rfl hr hm hap k
theorem St2 {e0 e1 : Option Nat × Obj} {b : Nat} {C : Array Value} {E : TypeId} (C' : Array Value) (hs : HS w0 F0 w F (e0 :: e1 :: (some b, .cells C E (0, 0)) :: L)) (k : ∀ w', HS w0 F0 w' F (e0 :: e1 :: (some b, .cells C' E (0, 0)) :: L) → RWP P ro n R Q rest f w')
  (hx : fev f (stX (opOf R i)) = .pointer (some ⟨b, pO (fev f (stX (opOf R i))), none⟩) := by kernel_rfl) (hC : blit C (pO (fev f (stX (opOf R i)))) (fev f (stY (opOf R i))).cells.toList = C' := by kernel_rfl)
  (ho : (ung R i && (isSt (opOf R i) && (storeK P (stT (opOf R i)) (fev f (stY (opOf R i))) (pO (fev f (stX (opOf R i)))) C && (match dsOf R i with | none => true | some _ => false)))) = true := by kernel_rfl) : RWP P ro n R Q (i :: rest) f w :=
 St_aux (hs.ownAt (k := 2) rfl) (k _ (hs.put (k := 2) rfl _)) hx hC ho
theorem Ap2 {e0 e1 : Option Nat × Obj} {a2 : Option Addr} (h1 : T.One) (hs : HS w0 F0 w F (e0 :: e1 :: e :: L)) (hr : RowR T E F a cap l e) (hm : Rd T F w a2 m) {r : List α} (hap : apnd l m = some r)
  (k : ∀ a' cap' e' w', HS w0 F0 w' F (e0 :: e1 :: e' :: L) → RowR T E F a' cap' r e' → RWP P ro n R Q rest (updo f (dsOf R i) (.slice a' r.length cap')) w')
  (hx : fev f (apX (opOf R i)) = .slice a l.length cap := by kernel_rfl) (hy : fev f (apY (opOf R i)) = .slice a2 m.length (sC (fev f (apY (opOf R i)))) := by kernel_rfl) (ho : (ung R i && apK P E T.sz (opOf R i)) = true := by kernel_rfl) : RWP P ro n R Q (i :: rest) f w := by
 simp only [Bool.and_eq_true] at ho
 obtain ⟨t, t2, by_, z, e1, he, hb, hni, hz, hzs⟩ := apK_spec ho.2
 have := opq_ung ho.1
 rw [e1] at this
 exact RWP.append this rfl hx hy he hb hni hz hzs h1 hs (k := 2) rfl hr hm hap k
theorem St3 {e0 e1 e2 : Option Nat × Obj} {b : Nat} {C : Array Value} {E : TypeId} (C' : Array Value) (hs : HS w0 F0 w F (e0 :: e1 :: e2 :: (some b, .cells C E (0, 0)) :: L)) (k : ∀ w', HS w0 F0 w' F (e0 :: e1 :: e2 :: (some b, .cells C' E (0, 0)) :: L) → RWP P ro n R Q rest f w')
  (hx : fev f (stX (opOf R i)) = .pointer (some ⟨b, pO (fev f (stX (opOf R i))), none⟩) := by kernel_rfl) (hC : blit C (pO (fev f (stX (opOf R i)))) (fev f (stY (opOf R i))).cells.toList = C' := by kernel_rfl)
  (ho : (ung R i && (isSt (opOf R i) && (storeK P (stT (opOf R i)) (fev f (stY (opOf R i))) (pO (fev f (stX (opOf R i)))) C && (match dsOf R i with | none => true | some _ => false)))) = true := by kernel_rfl) : RWP P ro n R Q (i :: rest) f w :=
 St_aux (hs.ownAt (k := 3) rfl) (k _ (hs.put (k := 3) rfl _)) hx hC ho
theorem St4 {e0 e1 e2 e3 : Option Nat × Obj} {b : Nat} {C : Array Value} {E : TypeId} (C' : Array Value) (hs : HS w0 F0 w F (e0 :: e1 :: e2 :: e3 :: (some b, .cells C E (0, 0)) :: L)) (k : ∀ w', HS w0 F0 w' F (e0 :: e1 :: e2 :: e3 :: (some b, .cells C' E (0, 0)) :: L) → RWP P ro n R Q rest f w')
  (hx : fev f (stX (opOf R i)) = .pointer (some ⟨b, pO (fev f (stX (opOf R i))), none⟩) := by kernel_rfl) (hC : blit C (pO (fev f (stX (opOf R i)))) (fev f (stY (opOf R i))).cells.toList = C' := by kernel_rfl)
  (ho : (ung R i && (isSt (opOf R i) && (storeK P (stT (opOf R i)) (fev f (stY (opOf R i))) (pO (fev f (stX (opOf R i)))) C && (match dsOf R i with | none => true | some _ => false)))) = true := by kernel_rfl) : RWP P ro n R Q (i :: rest) f w :=
 St_aux (hs.ownAt (k := 4) rfl) (k _ (hs.put (k := 4) rfl _)) hx hC ho
theorem St6 {e0 e1 e2 e3 e4 e5 : Option Nat × Obj} {b : Nat} {C : Array Value} {E : TypeId} (C' : Array Value) (hs : HS w0 F0 w F (e0 :: e1 :: e2 :: e3 :: e4 :: e5 :: (some b, .cells C E (0, 0)) :: L)) (k : ∀ w', HS w0 F0 w' F (e0 :: e1 :: e2 :: e3 :: e4 :: e5 :: (some b, .cells C' E (0, 0)) :: L) → RWP P ro n R Q rest f w')
  (hx : fev f (stX (opOf R i)) = .pointer (some ⟨b, pO (fev f (stX (opOf R i))), none⟩) := by kernel_rfl) (hC : blit C (pO (fev f (stX (opOf R i)))) (fev f (stY (opOf R i))).cells.toList = C' := by kernel_rfl)
  (ho : (ung R i && (isSt (opOf R i) && (storeK P (stT (opOf R i)) (fev f (stY (opOf R i))) (pO (fev f (stX (opOf R i)))) C && (match dsOf R i with | none => true | some _ => false)))) = true := by kernel_rfl) : RWP P ro n R Q (i :: rest) f w :=
 St_aux (hs.ownAt (k := 6) rfl) (k _ (hs.put (k := 6) rfl _)) hx hC ho
end
section
variable {P : Program} {n : Nat} {R : Array Oper} {Q : Exit → Fr → World → Prop} {PQ : List PanicEntry → List Deferred → World → Prop} {Post : Fr → World → Prop} {z fuel : Nat} {Sw : Bool → World → Prop} {i : Nat} {f : Fr} {w w' w0 : World} {F0 F Fs : Mem} {l : List Bool} {L Lc Lz : List (Option Nat × Obj)} {e : Option Nat × Obj}
def rdy (R : Array Oper) (z i : Nat) (l : List Bool) : Bool := Region.free .any R l.toArray i && ((Region.ready .any R l.toArray).contains i && waits R z i)
def dvf (P : Program) (R : Array Oper) : List Nat → Fr → Fr
 | [], f => f
 | i :: is, f => dvf P R is (updo f (dsOf R i) ((pv P (fev f) (opOf R i)).getD undef))
def dvl : List Nat → List Bool → List Bool
 | [], l => l
 | i :: is, l => dvl is (l.set i true)
def dvok (P : Program) (R : Array Oper) (z : Nat) : List Nat → List Bool → Fr → Bool
 | [], _, _ => true
 | i :: is, l, f => ung R i && (isS (pv P (fev f) (opOf R i)) && (rdy R z i l && dvok P R z is (l.set i true) (updo f (dsOf R i) ((pv P (fev f) (opOf R i)).getD undef))))
theorem Dv_aux : ∀ (is : List Nat) {l : List Bool} {f : Fr} {fuel : Nat}, DWP P n R PQ Post z Sw fuel (dvl is l) (dvf P R is f) w → dvok P R z is l f = true → DWP P n R PQ Post z Sw (fuel + is.length) l f w
 | [], _, _, _, k, _ => k
 | i :: is, l, f, fuel, k, h => by
  simp only [dvok, rdy, Bool.and_eq_true] at h
  obtain ⟨h1, h2, ⟨h3, h4, h5⟩, h6⟩ := h
  exact DWP.take (opq_ung h1) h3 h4 h5 rfl rfl (fun _ _ => pv_run (isS_spec h2)) rfl (Dv_aux is k h6)
theorem Dv (is : List Nat) {fu : Nat} (k : DWP P n R PQ Post z Sw (fu - is.length) (dvl is l) (dvf P R is f) w) (h : dvok P R z is l f = true := by kernel_rfl) (hfu : Nat.beq fu ((fu - is.length) + is.length) = true := by kernel_rfl) : DWP P n R PQ Post z Sw fu l f w := by
 have := Nat.eq_of_beq_eq_true hfu; rw [this]
 exact Dv_aux is k h
theorem Dvl (is : List Nat) (l' : List Bool) {fu : Nat} (k : DWP P n R PQ Post z Sw (fu - is.length) l' (dvf P R is f) w) (h : dvok P R z is l f = true := by kernel_rfl) (hl : dvl is l = l' := by kernel_rfl) (hfu : Nat.beq fu ((fu - is.length) + is.length) = true := by kernel_rfl) : DWP P n R PQ Post z Sw fu l f w := by
 subst hl; exact Dv is k h hfu
theorem DWP.tk {v : Value} (i : Nat) {fu : Nat} (hy : ∀ w', Sw (l.toArray.getD z true) w' → (execB (fev f) (opOf R i) (tyOf R i)).run P w' = .ok (.value v) w') (k : DWP P n R PQ Post z Sw (fu - 1) (l.set i true) (updo f (dsOf R i) v) w) (ho : ung R i = true) (hr : rdy R z i l = true)
  (hfu : Nat.beq fu ((fu - 1) + 1) = true) : DWP P n R PQ Post z Sw fu l f w := by
 simp only [rdy, Bool.and_eq_true] at hr
 have := Nat.eq_of_beq_eq_true hfu; rw [this]
 exact DWP.take (opq_ung ho) hr.1 hr.2.1 hr.2.2 rfl rfl hy rfl k
theorem Dl (i : Nat) {fu : Nat} {b : Nat} {C : Array Value} {E : TypeId} {fz : Nat × Nat} (hp : ∀ w', Sw (l.toArray.getD z true) w' → w'.heap[b]? = some (.cells C E fz)) (k : DWP P n R PQ Post z Sw (fu - 1) (l.set i true) (updo f (dsOf R i) (ldV P (ldT (opOf R i)) C (pO (fev f (ldX (opOf R i)))))) w)
  (hx : fev f (ldX (opOf R i)) = .pointer (some ⟨b, pO (fev f (ldX (opOf R i))), none⟩) := by kernel_rfl) (ho : (ung R i && (isLd (opOf R i) && ldK P (ldT (opOf R i)) C (pO (fev f (ldX (opOf R i)))))) = true := by kernel_rfl) (hr : rdy R z i l = true := by kernel_rfl)
  (hfu : Nat.beq fu ((fu - 1) + 1) = true := by kernel_rfl) : DWP P n R PQ Post z Sw fu l f w := by
 simp only [Bool.and_eq_true] at ho
 refine DWP.tk i (fun w' hw => ?_) k ho.1 hr hfu
 have := isLd_spec ho.2.1
 rw [this]; exact run_ld hx (hp w' hw) ho.2.2
theorem Dx (i j : Nat) {fu : Nat} {b o kk : Nat} {C : Array Value} {E : TypeId} {fz : Nat × Nat} {cs : List Value} (hp : ∀ w', Sw (l.toArray.getD z true) w' → w'.heap[b]? = some (.cells C E fz)) (hc : cellsAt C o kk = cs) (k : DWP P n R PQ Post z Sw (fu - 1) (l.set i true) (updo f (dsOf R i) (lxV P (ldT (opOf R i)) cs j)) w)
  (hx : fev f (ldX (opOf R i)) = .pointer (some ⟨b, o + j, none⟩) := by kernel_rfl) (ho : (ung R i && (isLd (opOf R i) && lxK P (ldT (opOf R i)) cs j kk)) = true := by kernel_rfl) (hr : rdy R z i l = true := by kernel_rfl)
  (hfu : Nat.beq fu ((fu - 1) + 1) = true := by kernel_rfl) : DWP P n R PQ Post z Sw fu l f w := by
 simp only [Bool.and_eq_true] at ho
 refine DWP.tk i (fun w' hw => ?_) k ho.1 hr hfu
 have := isLd_spec ho.2.1
 rw [this]; exact run_lx hx (hp w' hw) hc ho.2.2
theorem Di (i : Nat) {fu m : Nat} {q : Int} (hi : 0 ≤ q ∧ q < (m : Int)) (k : DWP P n R PQ Post z Sw (fu - 1) (l.set i true) (updo f (dsOf R i) (.pointer (some ⟨sB (fev f (ixX (opOf R i))), sO (fev f (ixX (opOf R i))) + q.toNat * elS P (ixT (opOf R i)), none⟩))) w)
  (hx : fev f (ixX (opOf R i)) = .slice (some ⟨sB (fev f (ixX (opOf R i))), sO (fev f (ixX (opOf R i))), none⟩) m (sC (fev f (ixX (opOf R i)))) := by kernel_rfl) (hy : fev f (ixY (opOf R i)) = .int (iK (fev f (ixY (opOf R i)))) q := by kernel_rfl)
  (ho : (ung R i && (isIx (opOf R i) && slQ P (ixT (opOf R i)))) = true := by kernel_rfl) (hr : rdy R z i l = true := by kernel_rfl) (hfu : Nat.beq fu ((fu - 1) + 1) = true := by kernel_rfl) : DWP P n R PQ Post z Sw fu l f w := by
 simp only [Bool.and_eq_true] at ho
 refine DWP.tk i (fun w' hw => ?_) k ho.1 hr hfu
 have e := isIx_spec ho.2.1
 have := run_ix (P := P) (w := w') (ty := tyOf R i) hi hx hy ho.2.2
 rw [← e] at this; exact this
theorem Dj (i : Nat) {fu m : Nat} {q : Int} (hi : 0 ≤ q ∧ q < (m : Int)) (k : DWP P n R PQ Post z Sw (fu - 1) (l.set i true) (updo f (dsOf R i) (.pointer (some ⟨sB (fev f (ixX (opOf R i))), q.toNat * elS P (ixT (opOf R i)), none⟩))) w)
  (hx : fev f (ixX (opOf R i)) = .slice (some ⟨sB (fev f (ixX (opOf R i))), 0, none⟩) m (sC (fev f (ixX (opOf R i)))) := by kernel_rfl) (hy : fev f (ixY (opOf R i)) = .int (iK (fev f (ixY (opOf R i)))) q := by kernel_rfl)
  (ho : (ung R i && (isIx (opOf R i) && slQ P (ixT (opOf R i)))) = true := by kernel_rfl) (hr : rdy R z i l = true := by kernel_rfl) (hfu : Nat.beq fu ((fu - 1) + 1) = true := by kernel_rfl) : DWP P n R PQ Post z Sw fu l f w := by
 simp only [Bool.and_eq_true] at ho
 refine DWP.tk i (fun w' hw => ?_) k ho.1 hr hfu
 have e := isIx_spec ho.2.1
 have := run_ix0 (P := P) (w := w') (ty := tyOf R i) hi hx hy ho.2.2
 rw [← e] at this; exact this
theorem D1 (i : Nat) {fu : Nat} (h : DStep P n R PQ Post z Sw (fu - 1) l i f w) (hr : Region.ready .any R l.toArray = [i] := by kernel_rfl) (hfu : Nat.beq fu ((fu - 1) + 1) = true := by kernel_rfl) : DWP P n R PQ Post z Sw fu l f w := by
 have := Nat.eq_of_beq_eq_true hfu; rw [this]
 exact DWP.one hr h
theorem zdT {zd : Bool} {A : Prop} (h : zd = true) : zd = false → A := fun e => by rw [h] at e; cases e
theorem DCl {fid : FuncId} {args : List Value} {post : Mem → Value → Prop} (hok : CallOk P fid) (hs : HS w0 F0 w F L) (hc : Calls P fid args.toArray w (FRet w F post))
  (k : ∀ v F1 w1, HS w0 F0 w1 F1 L → Mem.le F F1 → post F1 v → DWP P n R PQ Post z (DZ Fs Lc Lz) fuel (l.set i true) (updo f (dsOf R i) v) w1) (ha : clV f (opOf R i) = some (fid, args) := by kernel_rfl) (ho : ung R i = true := by kernel_rfl)
  (hz : ((l.set i true).toArray.getD z true == l.toArray.getD z true) = true := by kernel_rfl) : DStep P n R PQ Post z (DZ Fs Lc Lz) fuel l i f w := by
 cases e : opOf R i with
 | call c =>
  obtain ⟨callee, aos, ats⟩ := c
  have ho' := opq_ung ho
  rw [e] at ha ho'
  unfold clV at ha
  simp only at ha
  split at ha
  ·split at ha
   ·rename_i hf
    simp only [Option.some.injEq, Prod.mk.injEq] at ha
    obtain ⟨rfl, rfl⟩ := ha
    exact DStep.call rfl (by simpa using hz) rfl ho' rfl hf hok rfl hs hc k
   ·cases ha
  ·cases ha
 | _ => rw [e] at ha; simp [clV] at ha
theorem DBs (E : TypeId) (cs : List Value) (hs : HS w0 F0 w F L) (hle : Mem.le Fs F) (k : ∀ b w', HS w0 F0 w' F ((some b, .cells cs.toArray E (0, 0)) :: L) → DWP P n R PQ Post z (DZ Fs Lc Lz) fuel (l.set i true) (updo f (dsOf R i) (.slice (some ⟨b, 0, none⟩) (bsL (opOf R i)) (bsL (opOf R i)))) w')
  (hb : bsV P f (opOf R i) = some (E, cs) := by kernel_rfl) (ho : ung R i = true := by kernel_rfl) (hL : ∀ p, p ∈ Lc → p ∈ L := by simp) (hLz : (l.set i true).toArray.getD z true = false → ∀ p, p ∈ Lz → p ∈ L := by first | (intro _; simp; done) | exact zdT (by kernel_rfl)) : DStep P n R PQ Post z (DZ Fs Lc Lz) fuel l i f w := by
 have := opq_ung ho
 cases e : opOf R i with
 | buildSlice t len parts =>
  rw [e] at hb this k
  exact DStep.buildSlice rfl rfl this rfl rfl hb hs hle hL hLz k
 | _ => rw [e] at hb; simp [bsV] at hb
theorem DCP {fid : FuncId} {args : List Value} {wb : World} {Fb : Mem} {α β : Type} {Lf : Own} {res : β ⊕ α} {bv : β → Value} {post : α → Mem → Value → Own → Prop} (hok : CallOk P fid) (hc : Calls P fid args.toArray w (BRetP wb Fb F Lf res bv post))
  (k : ∀ r v F1 w1 L', res = .inr r → HS wb Fb w1 F1 L' → Mem.le F F1 → post r F1 v L' → DZ Fs Lc Lz ((l.set i true).toArray.getD z true) w1 ∧ DWP P n R PQ Post z (DZ Fs Lc Lz) fuel (l.set i true) (updo f (dsOf R i) v) w1)
  (kp : ∀ b F1 w1, res = .inl b → HS wb Fb w1 F1 Lf → Mem.le F F1 → PQ [{ v := bv b, recovered := false }] f.d w1) (ha : clV f (opOf R i) = some (fid, args) := by kernel_rfl) (ho : ung R i = true := by kernel_rfl) : DStep P n R PQ Post z (DZ Fs Lc Lz) fuel l i f w := by
 cases e : opOf R i with
 | call c =>
  obtain ⟨callee, aos, ats⟩ := c
  have ho' := opq_ung ho
  rw [e] at ha ho'
  unfold clV at ha
  simp only at ha
  split at ha
  ·split at ha
   ·rename_i hf
    simp only [Option.some.injEq, Prod.mk.injEq] at ha
    obtain ⟨rfl, rfl⟩ := ha
    exact DStep.callBP rfl rfl ho' rfl hf hok rfl hc k kp
   ·cases ha
  ·cases ha
 | _ => rw [e] at ha; simp [clV] at ha
def fls : Nat → List Bool
 | 0 => []
 | n + 1 => false :: fls n
variable {c : Code}
def ndef (R : Array Oper) : Bool := R.all fun o => !isDefer o.op
def rgok (P : Program) (n m : Nat) (c : Code) : Bool := Nat.beq (kin c) 2 && (okR n (cops c) && (Region.noSelect (cops c) && (ndef (cops c) && Nat.beq (cops c).size m)))
theorem fls_eq : ∀ n, Array.replicate n false = (fls n).toArray := fun n => by
 have : List.replicate n false = fls n := by induction n with
  | zero => rfl
  | succ n ih => rw [List.replicate_succ, ih]; rfl
 rw [← this]; simp
theorem opIn_ro {R : Array Oper} (hd : ndef R = true) (ro : Option Nat) {Q : Exit → Act → World → Prop} {i : Nat} {K K' : Act → World → Prop} (hK : ∀ a w, K a w → K' a w) {a : Act} {w : World} (h : wpOpIn (FW none) 0 P R Q i K a w) : wpOpIn (FW ro) 0 P R Q i K' a w := by
 have h := wpOpIn_mono hK h
 unfold wpOpIn at h ⊢
 cases ho : R[i]? with
 | none => simp only [ho] at h ⊢; exact h
 | some o =>
  simp only [ho] at h ⊢
  split
  ·rename_i hw
   simp only [hw, if_true] at h
   have hi : i < R.size := by
    rcases Nat.lt_or_ge i R.size with h' | h'
    ·exact h'
    ·simp [Array.getElem?_eq_none h'] at ho
   have hnd : isDefer o.op = false := by
    unfold ndef at hd
    rw [Array.all_eq_true] at hd
    have := hd i hi
    have e : R[i] = o := by simpa [Array.getElem?_eq_getElem hi] using ho
    rw [e] at this; simpa using this
   unfold Oper.wpIn at h ⊢
   refine ⟨fun _ _ => trivial, ?_⟩
   have e : ∀ r, Oper.semAt r a.eval o = execOp a.eval o := fun r => semAt_of hnd r a.eval o rfl
   have h2 := h.2
   rw [e] at h2 ⊢
   exact h2
  ·rename_i hw
   simp only [hw, if_false] at h
   exact ⟨fun _ _ => trivial, h.2⟩
theorem any_ro {R : Array Oper} (hd : ndef R = true) (ro : Option Nat) {Q : Exit → Act → World → Prop} : ∀ (fuel : Nat) (l : Array Bool) (a : Act) (w : World), wpAnyIn (FW none) 0 P .any R Q fuel l a w → wpAnyIn (FW ro) 0 P .any R Q fuel l a w
 | 0, _, _, _, h => h
 | fuel + 1, _, _, _, h => ⟨h.1, fun i hi => opIn_ro hd ro (fun a w => any_ro hd ro fuel _ a w) (h.2 i hi)⟩
variable {ro : Option Nat}
theorem RDP (z m : Nat) (Lc Lz : List (Option Nat × Obj)) (hs : HS w0 F0 w F L) (PQ : List PanicEntry → List Deferred → World → Prop) (Post : Fr → World → Prop)
  (h : ∀ w', HS w0 F0 w' F L → DWP P n (cops c) PQ Post z (DZ F Lc Lz) m (fls m) f w') (k : ∀ f w, Post f w → Q .normal f w) (kp : ∀ c f w, PQ c f.d w → Q (.panic c) f w) (hm : P.follows .mixedOrders = true := by kernel_rfl) (ho : rgok P n m c = true := by kernel_rfl) (hc : ∀ p, p ∈ Lc → p ∈ L := by simp) (hz : ∀ p, p ∈ Lz → p ∈ L := by simp) : CWP P ro n c Q f w := by
 simp only [rgok, Bool.and_eq_true] at ho
 obtain ⟨hk, hok, hns, hnd, hfu⟩ := ho
 replace hk := Nat.eq_of_beq_eq_true hk
 replace hfu := Nat.eq_of_beq_eq_true hfu
 subst hfu
 cases c <;> simp [kin] at hk
 rename_i id ops d
 cases d <;> simp [kin] at hk
 intro a ha
 have hs' : HS w0 F0 { w with drawn := w.drawn + 1 } F L := hs.heap rfl
 refine wpIn_mono (wpIn_region_any hm (any_ro hnd ro _ _ _ _ (wpAny_of_L (z := z) (S := DZ F Lc Lz) _ _ _ _ ?_))) (Q := lq n (nq PQ Post)) ?_
 ·simp only [cops] at *
  rw [fls_eq]
  exact h _ hs' hok hns (dz_of hs' (Mem.le.refl F) hc fun _ => hz) a ha
 ·rintro e a w ⟨f, hf, hP⟩
  cases e with
  | normal => exact ⟨f, hf, k _ _ hP⟩
  | panic c => exact ⟨f, hf, kp _ _ _ hP⟩
  | _ => exact hP.elim
theorem RD (z m : Nat) (Lc Lz : List (Option Nat × Obj)) (hs : HS w0 F0 w F L) (Post : Fr → World → Prop)
  (h : ∀ w', HS w0 F0 w' F L → DWP P n (cops c) (fun _ _ _ => False) Post z (DZ F Lc Lz) m (fls m) f w') (k : ∀ f w, Post f w → Q .normal f w) (hm : P.follows .mixedOrders = true := by kernel_rfl) (ho : rgok P n m c = true := by kernel_rfl) (hc : ∀ p, p ∈ Lc → p ∈ L := by simp) (hz : ∀ p, p ∈ Lz → p ∈ L := by simp) : CWP P ro n c Q f w :=
 RDP z m Lc Lz hs (fun _ _ _ => False) Post h k (fun _ _ _ h => h.elim) hm ho hc hz
variable {α : Type} {T : Ty α} {E : TypeId} {a : Option Addr} {cap : Nat} {ls m : List α}
theorem DSt2 {e0 e1 : Option Nat × Obj} {b : Nat} {C : Array Value} {E : TypeId} (C' : Array Value) (hs : HS w0 F0 w F (e0 :: e1 :: (some b, .cells C E (0, 0)) :: L)) (hle : Mem.le Fs F) (k : ∀ w', HS w0 F0 w' F (e0 :: e1 :: (some b, .cells C' E (0, 0)) :: L) → DWP P n R PQ Post z (DZ Fs Lc Lz) fuel (l.set i true) f w')
  (hx : fev f (stX (opOf R i)) = .pointer (some ⟨b, pO (fev f (stX (opOf R i))), none⟩) := by kernel_rfl) (hC : blit C (pO (fev f (stX (opOf R i)))) (fev f (stY (opOf R i))).cells.toList = C' := by kernel_rfl)
  (ho : (ung R i && (isSt (opOf R i) && (storeK P (stT (opOf R i)) (fev f (stY (opOf R i))) (pO (fev f (stX (opOf R i)))) C && (match dsOf R i with | none => true | some _ => false)))) = true := by kernel_rfl)
  (hL : ∀ p, p ∈ Lc → p ∈ e0 :: e1 :: (some b, .cells C' E (0, 0)) :: L := by simp) (hLz : (l.set i true).toArray.getD z true = false → ∀ p, p ∈ Lz → p ∈ e0 :: e1 :: (some b, .cells C' E (0, 0)) :: L := by first | (intro _; simp; done) | exact zdT (by kernel_rfl)) : DStep P n R PQ Post z (DZ Fs Lc Lz) fuel l i f w := by
 simp only [Bool.and_eq_true] at ho
 obtain ⟨h1, h2, h3, h4⟩ := ho
 have e := isSt_spec h2
 have := opq_ung h1
 cases hd : dsOf R i with
 | some d => rw [hd] at h4; cases h4
 | none =>
  rw [hd] at this
  have hp := hs.put (k := 2) rfl (.cells C' E (0, 0))
  refine DStep.unit rfl rfl this rfl ?_ (dz_of hp hle hL hLz) (k _ hp)
  have hr := run_st (P := P) (ty := tyOf R i) (w := w) hx (hs.ownAt (k := 2) rfl) h3 hC
  rw [← e] at hr; exact hr
theorem DAp2 {e0 e1 : Option Nat × Obj} {a2 : Option Addr} (h1 : T.One) (hs : HS w0 F0 w F (e0 :: e1 :: e :: L)) (hr : RowR T E F a cap ls e) (hm : Rd T F w a2 m) {r : List α} (hap : apnd ls m = some r) (hle : Mem.le Fs F)
  (k : ∀ a' cap' e' w', HS w0 F0 w' F (e0 :: e1 :: e' :: L) → RowR T E F a' cap' r e' → DWP P n R PQ Post z (DZ Fs Lc Lz) fuel (l.set i true) (updo f (dsOf R i) (.slice a' r.length cap')) w')
  (hx : fev f (apX (opOf R i)) = .slice a ls.length cap := by kernel_rfl) (hy : fev f (apY (opOf R i)) = .slice a2 m.length (sC (fev f (apY (opOf R i)))) := by kernel_rfl) (ho : (ung R i && apK P E T.sz (opOf R i)) = true := by kernel_rfl)
  (hL : ∀ e' p, p ∈ Lc → p ∈ e0 :: e1 :: e' :: L := by (intro _; simp)) (hLz : (l.set i true).toArray.getD z true = false → ∀ e' p, p ∈ Lz → p ∈ e0 :: e1 :: e' :: L := by first | (intro _ _; simp; done) | exact zdT (by kernel_rfl)) : DStep P n R PQ Post z (DZ Fs Lc Lz) fuel l i f w := by
 simp only [Bool.and_eq_true] at ho
 obtain ⟨t, t2, by_, zz, e1, he, hb, hni, hz, hzs⟩ := apK_spec ho.2
 have := opq_ung ho.1
 rw [e1] at this
 exact DStep.append rfl rfl this rfl hx hy he hb hni hz hzs h1 hs (k := 2) rfl hr hm hap hle hL hLz k
theorem DSt3 {e0 e1 e2 : Option Nat × Obj} {b : Nat} {C : Array Value} {E : TypeId} (C' : Array Value) (hs : HS w0 F0 w F (e0 :: e1 :: e2 :: (some b, .cells C E (0, 0)) :: L)) (hle : Mem.le Fs F) (k : ∀ w', HS w0 F0 w' F (e0 :: e1 :: e2 :: (some b, .cells C' E (0, 0)) :: L) → DWP P n R PQ Post z (DZ Fs Lc Lz) fuel (l.set i true) f w')
  (hx : fev f (stX (opOf R i)) = .pointer (some ⟨b, pO (fev f (stX (opOf R i))), none⟩) := by kernel_rfl) (hC : blit C (pO (fev f (stX (opOf R i)))) (fev f (stY (opOf R i))).cells.toList = C' := by kernel_rfl)
  (ho : (ung R i && (isSt (opOf R i) && (storeK P (stT (opOf R i)) (fev f (stY (opOf R i))) (pO (fev f (stX (opOf R i)))) C && (match dsOf R i with | none => true | some _ => false)))) = true := by kernel_rfl)
  (hL : ∀ p, p ∈ Lc → p ∈ e0 :: e1 :: e2 :: (some b, .cells C' E (0, 0)) :: L := by simp) (hLz : (l.set i true).toArray.getD z true = false → ∀ p, p ∈ Lz → p ∈ e0 :: e1 :: e2 :: (some b, .cells C' E (0, 0)) :: L := by first | (intro _; simp; done) | exact zdT (by kernel_rfl)) : DStep P n R PQ Post z (DZ Fs Lc Lz) fuel l i f w := by
 simp only [Bool.and_eq_true] at ho
 obtain ⟨h1, h2, h3, h4⟩ := ho
 have e := isSt_spec h2
 have := opq_ung h1
 cases hd : dsOf R i with
 | some d => rw [hd] at h4; cases h4
 | none =>
  rw [hd] at this
  have hp := hs.put (k := 3) rfl (.cells C' E (0, 0))
  refine DStep.unit rfl rfl this rfl ?_ (dz_of hp hle hL hLz) (k _ hp)
  have hr := run_st (P := P) (ty := tyOf R i) (w := w) hx (hs.ownAt (k := 3) rfl) h3 hC
  rw [← e] at hr; exact hr
theorem DSt4 {e0 e1 e2 e3 : Option Nat × Obj} {b : Nat} {C : Array Value} {E : TypeId} (C' : Array Value) (hs : HS w0 F0 w F (e0 :: e1 :: e2 :: e3 :: (some b, .cells C E (0, 0)) :: L)) (hle : Mem.le Fs F) (k : ∀ w', HS w0 F0 w' F (e0 :: e1 :: e2 :: e3 :: (some b, .cells C' E (0, 0)) :: L) → DWP P n R PQ Post z (DZ Fs Lc Lz) fuel (l.set i true) f w')
  (hx : fev f (stX (opOf R i)) = .pointer (some ⟨b, pO (fev f (stX (opOf R i))), none⟩) := by kernel_rfl) (hC : blit C (pO (fev f (stX (opOf R i)))) (fev f (stY (opOf R i))).cells.toList = C' := by kernel_rfl)
  (ho : (ung R i && (isSt (opOf R i) && (storeK P (stT (opOf R i)) (fev f (stY (opOf R i))) (pO (fev f (stX (opOf R i)))) C && (match dsOf R i with | none => true | some _ => false)))) = true := by kernel_rfl)
  (hL : ∀ p, p ∈ Lc → p ∈ e0 :: e1 :: e2 :: e3 :: (some b, .cells C' E (0, 0)) :: L := by simp) (hLz : (l.set i true).toArray.getD z true = false → ∀ p, p ∈ Lz → p ∈ e0 :: e1 :: e2 :: e3 :: (some b, .cells C' E (0, 0)) :: L := by first | (intro _; simp; done) | exact zdT (by kernel_rfl)) : DStep P n R PQ Post z (DZ Fs Lc Lz) fuel l i f w := by
 simp only [Bool.and_eq_true] at ho
 obtain ⟨h1, h2, h3, h4⟩ := ho
 have e := isSt_spec h2
 have := opq_ung h1
 cases hd : dsOf R i with
 | some d => rw [hd] at h4; cases h4
 | none =>
  rw [hd] at this
  have hp := hs.put (k := 4) rfl (.cells C' E (0, 0))
  refine DStep.unit rfl rfl this rfl ?_ (dz_of hp hle hL hLz) (k _ hp)
  have hr := run_st (P := P) (ty := tyOf R i) (w := w) hx (hs.ownAt (k := 4) rfl) h3 hC
  rw [← e] at hr; exact hr
theorem DSt5 {e0 e1 e2 e3 e4 : Option Nat × Obj} {b : Nat} {C : Array Value} {E : TypeId} (C' : Array Value) (hs : HS w0 F0 w F (e0 :: e1 :: e2 :: e3 :: e4 :: (some b, .cells C E (0, 0)) :: L)) (hle : Mem.le Fs F) (k : ∀ w', HS w0 F0 w' F (e0 :: e1 :: e2 :: e3 :: e4 :: (some b, .cells C' E (0, 0)) :: L) → DWP P n R PQ Post z (DZ Fs Lc Lz) fuel (l.set i true) f w')
  (hx : fev f (stX (opOf R i)) = .pointer (some ⟨b, pO (fev f (stX (opOf R i))), none⟩) := by kernel_rfl) (hC : blit C (pO (fev f (stX (opOf R i)))) (fev f (stY (opOf R i))).cells.toList = C' := by kernel_rfl)
  (ho : (ung R i && (isSt (opOf R i) && (storeK P (stT (opOf R i)) (fev f (stY (opOf R i))) (pO (fev f (stX (opOf R i)))) C && (match dsOf R i with | none => true | some _ => false)))) = true := by kernel_rfl)
  (hL : ∀ p, p ∈ Lc → p ∈ e0 :: e1 :: e2 :: e3 :: e4 :: (some b, .cells C' E (0, 0)) :: L := by simp) (hLz : (l.set i true).toArray.getD z true = false → ∀ p, p ∈ Lz → p ∈ e0 :: e1 :: e2 :: e3 :: e4 :: (some b, .cells C' E (0, 0)) :: L := by first | (intro _; simp; done) | exact zdT (by kernel_rfl)) : DStep P n R PQ Post z (DZ Fs Lc Lz) fuel l i f w := by
 simp only [Bool.and_eq_true] at ho
 obtain ⟨h1, h2, h3, h4⟩ := ho
 have e := isSt_spec h2
 have := opq_ung h1
 cases hd : dsOf R i with
 | some d => rw [hd] at h4; cases h4
 | none =>
  rw [hd] at this
  have hp := hs.put (k := 5) rfl (.cells C' E (0, 0))
  refine DStep.unit rfl rfl this rfl ?_ (dz_of hp hle hL hLz) (k _ hp)
  have hr := run_st (P := P) (ty := tyOf R i) (w := w) hx (hs.ownAt (k := 5) rfl) h3 hC
  rw [← e] at hr; exact hr
theorem DAp5 {e0 e1 e2 e3 e4 : Option Nat × Obj} {a2 : Option Addr} (h1 : T.One) (hs : HS w0 F0 w F (e0 :: e1 :: e2 :: e3 :: e4 :: e :: L)) (hr : RowR T E F a cap ls e) (hm : Rd T F w a2 m) {r : List α} (hap : apnd ls m = some r) (hle : Mem.le Fs F)
  (k : ∀ a' cap' e' w', HS w0 F0 w' F (e0 :: e1 :: e2 :: e3 :: e4 :: e' :: L) → RowR T E F a' cap' r e' → DWP P n R PQ Post z (DZ Fs Lc Lz) fuel (l.set i true) (updo f (dsOf R i) (.slice a' r.length cap')) w')
  (hx : fev f (apX (opOf R i)) = .slice a ls.length cap := by kernel_rfl) (hy : fev f (apY (opOf R i)) = .slice a2 m.length (sC (fev f (apY (opOf R i)))) := by kernel_rfl) (ho : (ung R i && apK P E T.sz (opOf R i)) = true := by kernel_rfl)
  (hL : ∀ e' p, p ∈ Lc → p ∈ e0 :: e1 :: e2 :: e3 :: e4 :: e' :: L := by (intro _; simp)) (hLz : (l.set i true).toArray.getD z true = false → ∀ e' p, p ∈ Lz → p ∈ e0 :: e1 :: e2 :: e3 :: e4 :: e' :: L := by first | (intro _ _; simp; done) | exact zdT (by kernel_rfl)) : DStep P n R PQ Post z (DZ Fs Lc Lz) fuel l i f w := by
 simp only [Bool.and_eq_true] at ho
 obtain ⟨t, t2, by_, zz, e1, he, hb, hni, hz, hzs⟩ := apK_spec ho.2
 have := opq_ung ho.1
 rw [e1] at this
 exact DStep.append rfl rfl this rfl hx hy he hb hni hz hzs h1 hs (k := 5) rfl hr hm hap hle hL hLz k
theorem DAp7 {e0 e1 e2 e3 e4 e5 e6 : Option Nat × Obj} {a2 : Option Addr} (h1 : T.One) (hs : HS w0 F0 w F (e0 :: e1 :: e2 :: e3 :: e4 :: e5 :: e6 :: e :: L)) (hr : RowR T E F a cap ls e) (hm : Rd T F w a2 m) {r : List α} (hap : apnd ls m = some r) (hle : Mem.le Fs F)
  (k : ∀ a' cap' e' w', HS w0 F0 w' F (e0 :: e1 :: e2 :: e3 :: e4 :: e5 :: e6 :: e' :: L) → RowR T E F a' cap' r e' → DWP P n R PQ Post z (DZ Fs Lc Lz) fuel (l.set i true) (updo f (dsOf R i) (.slice a' r.length cap')) w')
  (hx : fev f (apX (opOf R i)) = .slice a ls.length cap := by kernel_rfl) (hy : fev f (apY (opOf R i)) = .slice a2 m.length (sC (fev f (apY (opOf R i)))) := by kernel_rfl) (ho : (ung R i && apK P E T.sz (opOf R i)) = true := by kernel_rfl)
  (hL : ∀ e' p, p ∈ Lc → p ∈ e0 :: e1 :: e2 :: e3 :: e4 :: e5 :: e6 :: e' :: L := by (intro _; simp)) (hLz : (l.set i true).toArray.getD z true = false → ∀ e' p, p ∈ Lz → p ∈ e0 :: e1 :: e2 :: e3 :: e4 :: e5 :: e6 :: e' :: L := by first | (intro _ _; simp; done) | exact zdT (by kernel_rfl)) : DStep P n R PQ Post z (DZ Fs Lc Lz) fuel l i f w := by
 simp only [Bool.and_eq_true] at ho
 obtain ⟨t, t2, by_, zz, e1, he, hb, hni, hz, hzs⟩ := apK_spec ho.2
 have := opq_ung ho.1
 rw [e1] at this
 exact DStep.append rfl rfl this rfl hx hy he hb hni hz hzs h1 hs (k := 7) rfl hr hm hap hle hL hLz k
end
end Go.Proofs.YtaihlcdkcampbaaGreatDoor
namespace Go.Proofs.YtaihlcdkcampbaaGreatDoor
def JInd {σ : Type} (J : σ → Mem → Own → Prop) : Prop := ∀ (s : σ) (F F' : Mem) (L : Own), J s F L → J s F' L
def SeqOkI {X α : Type} (P : Program) (gf : FuncId) (cap : List Value) (F : Mem) (B : Own) (enc : X → List Value) (ok : Mem → X → Prop) (px : X → α) (m : ∀ {σ : Type}, (σ → α → Option (Bool × σ)) → σ → Option σ) : Prop :=
 ∀ {σ : Type} (w0 w : World) (F0 F' : Mem) (l : Nat) (y : σ → α → Option (Bool × σ)) (J : σ → Mem → Own → Prop) (s r : σ) (Lf : Own), Mem.le F F' → JInd J → HS w0 F0 w F' (B ++ Lf) → J s F' Lf →
  YOk P w0 F0 F' l enc ok px y J → m y s = some r → Calls P gf ((.func (.yield l) #[] #[]) :: cap).toArray w (fun e w' => ∃ F'' Lf', e = .returned (.tuple #[]) ∧ HS w0 F0 w' F'' Lf' ∧ Mem.le F' F'' ∧ J r F'' Lf')
def subF (F : Mem) (p : Option Nat × Obj) : Mem := fun b => if p.1 = some b then none else F b
theorem HS.thaw {w0 w w1 : World} {F0 F F1 : Mem} {e : Option Nat × Obj} {M M1 : Own} (h : HS w0 F0 w F (e :: M)) (k : HS w0 F0 w1 F1 M1) (hl : Mem.le (addF F e) F1) : HS w0 F0 w1 (subF F1 e) (e :: M1) ∧ Mem.le F (subF F1 e) := by
 obtain ⟨ob, o⟩ := e
 have hle : Mem.le F F1 := (h.freeze (k := 0) rfl).2.trans hl
 cases ob with
 | none =>
  have : subF F1 (Option.none, o) = F1 := by funext b; simp [subF]
  rw [this]; exact ⟨k.dummy o, hle⟩
 | some b =>
  obtain ⟨h1, h2, h3⟩ := h.own b o (List.mem_cons_self ..)
  have hb : F1 b = some o := hl b o (addF_same F b o)
  refine ⟨⟨k.base, k.fix, k.size, k.keep, fun c hc => ?_, fun c oc hF => ?_, fun c oc hm => ?_, ?_⟩, fun c oc hF => ?_⟩
  ·have : b ≠ c := by omega
   simp [subF, this, k.f0 c hc]
  ·simp only [subF] at hF
   split at hF
   ·cases hF
   ·exact k.pers c oc hF
  ·rcases List.mem_cons.1 hm with e | hm
   ·cases e; exact ⟨k.pers _ _ hb, by simp [subF], h3⟩
   ·obtain ⟨g1, g2, g3⟩ := k.own c oc hm
    exact ⟨g1, by simp only [subF]; split <;> first | rfl | exact g2, g3⟩
  ·simp only [List.filterMap_cons]
   refine List.nodup_cons.2 ⟨fun hm => ?_, k.nd⟩
   obtain ⟨o', hm⟩ := mem_fm hm
   have := (k.own _ _ hm).2.1
   rw [hb] at this; cases this
  ·have : b ≠ c := fun e => by rw [← e, h2] at hF; cases hF
   simp [subF, this, hle c oc hF]
theorem YP.mono {P : Program} {l : Nat} {args : List Value} {w : World} {S S' : Ending → World → Prop} (h : YP P l args w S) (hi : ∀ e w', S e w' → S' e w') : YP P l args w S' :=
 let ⟨fn, t, a, b, h1, h2⟩ := h; ⟨fn, t, a, b, h1, h2.mono hi⟩
theorem YOk.lent {X α σ β : Type} {P : Program} {w0 : World} {F0 F : Mem} {l : Nat} {enc : X → List Value} {ok : Mem → X → Prop} {px : X → α} {y : σ → α → Option (Bool × σ)} {J : σ → Mem → Own → Prop} {T : Ty β} {E : TypeId} {a : Option Addr} {cap : Nat} {ls : List β} {e : Option Nat × Obj}
  (hY : YOk P w0 F0 F l enc ok px y J) (hJm : JInd J) (s : σ) (x : X) (w' : World) (F' : Mem) (L Lf : Own) (r : Bool × σ) (hle : Mem.le F F') (hr : RowR T E F' a cap ls e) (hok : ∀ F2, LC ls.length cap → SlA T F2 a ls → ok F2 x) (hJ : J s F' Lf) (hs : HS w0 F0 w' F' ((e :: L) ++ Lf)) (hy : y s (px x) = some r) :
  YP P l (enc x) w' (fun q w'' => ∃ F'' Lf', q = .returned (.bool r.1) ∧ HS w0 F0 w'' F'' ((e :: L) ++ Lf') ∧ Mem.le F' F'' ∧ J r.2 F'' Lf') := by
 obtain ⟨h1, h2⟩ := hs.freeze (k := 0) rfl
 refine (hY s x w' (addF F' e) L Lf r (hle.trans h2) (hok _ hr.bound (hr.freeze h2)) (hJm _ _ _ _ hJ) h1 hy).mono ?_
 rintro q w'' ⟨F'', Lf', rfl, h3, h4, h5⟩
 obtain ⟨h6, h7⟩ := HS.thaw (M := L ++ Lf) hs h3 h4
 exact ⟨_, Lf', rfl, h6, h7, hJm _ _ _ _ h5⟩
section
variable {P : Program} {n : Nat} {R : Array Oper} {Q : Exit → Fr → World → Prop} {w w0 : World} {F0 F : Mem} {L : Own} {f : Fr} {i : Nat} {rest : List Nat} {dst : Option Nat} {ty : TypeId} {g : Option (Nat × Bool)} {ρ : Operand → Value}
theorem CWP.rangeFuncI3 {X α σ : Type} {enc : X → List Value} {ok : Mem → X → Prop} {px : X → α} {m : ∀ {σ : Type}, (σ → α → Option (Bool × σ)) → σ → Option σ} {c : Code} (hk : kin3 c = 1) {gf : FuncId} {cap : List Value} {B : Own} {jc : Code} {je : Exit} (hj : (jc = .ret ∧ je = .ret) ∨ ∃ i, jc = .exit i ∧ je = .exit i)
  (hg : fev f (rgop c) = .func (.func gf) #[] cap.toArray) (hgf : CallOk P gf) (hd : f.d = []) {ps : List Nat} (hps0 : rps c = ps) (hps : ps.all (· < n) = true) (hlen : ∀ x, (enc x).length = ps.length) (hs : HS w0 F0 w F (B ++ L)) (hseq : SeqOkI P gf cap F B enc ok px m)
  (y : σ → α → Option (Bool × σ)) (go : σ → Bool) (J : σ → Mem → Own → Prop) (hJm : JInd J) {s r : σ} (hJ : J s F L) (hgo : go s = true) (hm : m y s = some r) (hy : ∀ s x q, y s x = some q → go s = true ∧ q.1 = go q.2)
  (hround : ∀ (l : Nat) (s : σ) (x : X) (w' : World) (F' : Mem) (Lf Rf : Own) (q : Bool × σ), Mem.le F F' → ok F' x → J s F' Lf → HS w0 F0 w' F' (Lf ++ Rf) → y s (px x) = some q →
   CWP P (some l) n (rasg c) (fun e f1 w1 => e = .normal ∧ ∃ F1 Lu, HS w0 F0 w1 F1 (Lu ++ Rf) ∧ ∀ w2 Rg, HS w0 F0 w2 F1 (Lu ++ Rg) → CWP P (some l) n (rbody c) (fun e f2 w3 => ((e = .normal ∧ q.1 = true) ∨ (e = je ∧ q.1 = false)) ∧ ∃ F2 Lf2, HS w0 F0 w3 F2 (Lf2 ++ Rg) ∧ Mem.le F' F2 ∧ J q.2 F2 Lf2) f1 w2) (setps f ps (enc x)) w')
  (hdone : ∀ (D : Nat) (w' : World) (F' : Mem) (Lf : Own), go r = true → HS w0 F0 w' F' ((some D, .deferred (some [])) :: Lf) → Mem.le F F' → J r F' Lf → Q .normal ⟨f.v, [{ target := .collected D, args := #[] }]⟩ w')
  (hstop : ∀ (D : Nat) (w' : World) (F' : Mem) (Lf : Own), go r = false → HS w0 F0 w' F' ((some D, .deferred (some [])) :: Lf) → Mem.le F F' → J r F' Lf → Q je ⟨f.v, [{ target := .collected D, args := #[] }]⟩ w') : CWP P none n c Q f w := by
 cases c <;> simp [kin3] at hk
 rename_i g ps' assign body
 simp only [rgop, rps, rasg, rbody] at *
 subst hps0
 intro a ha
 refine wpIn_rangeFunc fun fn _ => ?_
 obtain ⟨rec, hrec⟩ : ∃ rec : LoopState → Option Code → Loop, rec = fun st pe => { state := st, pending := pe, fn, tmps := a.tmps, params := ps', assign, body, defers := w.heap.size } := ⟨_, rfl⟩
 obtain ⟨W1, hW1⟩ : ∃ W1, (w.alloc (.deferred (some []))).alloc (.loop (rec .ready none)) = W1 := ⟨_, rfl⟩
 have hs1 : HS w0 F0 W1 F (B ++ ([(some (w.heap.size + 1), .loop (rec .ready none)), (some w.heap.size, .deferred (some []))] ++ L)) := by
  rw [← hW1]
  have := (hs.alloc (.deferred (some []))).alloc (.loop (rec .ready none))
  rw [show (w.alloc (.deferred (some []))).heap.size = w.heap.size + 1 by simp] at this
  exact HS.perm (A := [(some (w.heap.size + 1), .loop (rec .ready none)), (some w.heap.size, .deferred (some []))]) this
 refine ⟨w.heap.size + 1, [{ target := .collected w.heap.size, args := #[] }], W1, { target := .fn (.func gf) cap.toArray, args := #[.func (.yield (w.heap.size + 1)) #[] #[]] }, W1, gf,
  #[.func (.yield (w.heap.size + 1)) #[] #[]] ++ cap.toArray, W1, ?_, ?_, fun _ _ => trivial, ?_, (fun h => by cases h), ?_⟩
 ·rw [← hW1, hrec]; exact run_enterLoop_outer _ _ _ _ _
 ·simp only [resolve, ha.eval, hg]
  simp [Deferred.ofValue, Act.eval]
 ·simp only [invoke]; rw [hgf]
 ·have h2 := hseq w0 W1 F0 F (w.heap.size + 1) y
   (fun s F Lq => ∃ L', Lq = [(some (w.heap.size + 1), .loop (bif go s then rec .ready none else rec .done (some jc))), (some w.heap.size, .deferred (some []))] ++ L' ∧ J s F L') s r _ (Mem.le.refl F)
   (fun s F F' Lq h => by obtain ⟨L', h1, h2⟩ := h; exact ⟨L', h1, hJm s F F' L' h2⟩) hs1 ⟨L, by rw [hgo]; rfl, hJ⟩ ?_ hm
  ·have e : (#[Value.func (.yield (w.heap.size + 1)) #[] #[]] ++ cap.toArray) = ((Value.func (.yield (w.heap.size + 1)) #[] #[]) :: cap).toArray := by apply Array.ext'; simp
   rw [e]
   refine (calls_wide h2).mono ?_
   rintro e w' ⟨F', Lf', rfl, hs', hle, L', rfl, hJ'⟩
   have hl := hs'.ownAt (k := 0) rfl
   cases hgr : go r with
   | true =>
    rw [hgr] at hl hs'
    simp only [cond_true] at hl hs'
    refine ⟨none, _, by have := run_endLoop (P := P) hl (by rw [hrec]; simp); rw [hrec] at this; exact this, ?_⟩
    have hs2 := (hs'.put (k := 0) rfl (.loop { rec .ready none with state := .exhausted })).drop 0
    refine ⟨⟨f.v, [{ target := .collected w.heap.size, args := #[] }]⟩, ⟨ha.size, ha.at_, ?_⟩, hdone w.heap.size _ F' L' hgr ?_ hle hJ'⟩
    ·simp [ha.defers, hd]
    ·rw [hrec] at hs2; exact hs2
   | false =>
    rw [hgr] at hl hs'
    simp only [cond_false] at hl hs'
    refine ⟨some jc, _, by have := run_endLoop (P := P) hl (by rw [hrec]; simp); rw [hrec] at this; exact this, ?_⟩
    have hs2 := (hs'.put (k := 0) rfl (.loop { rec .done (some jc) with state := .exhausted })).drop 0
    rcases hj with ⟨rfl, rfl⟩ | ⟨i, rfl, rfl⟩
    ·refine wpIn_ret ⟨⟨f.v, [{ target := .collected w.heap.size, args := #[] }]⟩, ⟨ha.size, ha.at_, ?_⟩, hstop w.heap.size _ F' L' hgr ?_ hle hJ'⟩
     ·simp [ha.defers, hd]
     ·rw [hrec] at hs2; exact hs2
    ·refine wpIn_exit ⟨⟨f.v, [{ target := .collected w.heap.size, args := #[] }]⟩, ⟨ha.size, ha.at_, ?_⟩, hstop w.heap.size _ F' L' hgr ?_ hle hJ'⟩
     ·simp [ha.defers, hd]
     ·rw [hrec] at hs2; exact hs2
  ·rintro s x w' F' Lq Lf q hle hok ⟨L', rfl, hJ'⟩ hs' hyq
   obtain ⟨hgs, hq⟩ := hy _ _ _ hyq
   obtain ⟨q1, q2⟩ := q
   simp only at hq
   subst hq
   rw [hgs] at hs'
   simp only [cond_true] at hs'
   have hl := hs'.swap.ownAt (k := 0) rfl
   have hyr := run_yield (P := P) (args := (enc x).toArray) hl (by rw [hrec]; simpa using hlen x)
   rw [hrec] at hyr
   refine ⟨fn, _, assign, body, hyr, roundIn_of_wpIn trivial ?_⟩
   have hsA : HS w0 F0 w' F' (L' ++ ([(some (w.heap.size + 1), .loop (rec .ready none)), (some w.heap.size, .deferred (some []))] ++ Lq)) := by
    have h3 : HS w0 F0 w' F' ([(some (w.heap.size + 1), .loop (rec .ready none)), (some w.heap.size, .deferred (some []))] ++ (L' ++ Lq)) := by
     have := hs'.swap; rwa [List.append_assoc] at this
    exact h3.perm
   have hfit : Fits n (setps f ps'.toList (enc x)) { tmps := (ps'.toList.zip (enc x)).foldl (fun t (p, v) => t.setIfInBounds p v) a.tmps, defers := f.d } :=
    Fits.setps ps'.toList (enc x) f a.tmps ⟨ha.size, ha.at_, rfl⟩ hps
   have e1 : ((ps'.zip (enc x).toArray).foldl (fun tmps (t, a) => tmps.setIfInBounds t a) a.tmps) = (ps'.toList.zip (enc x)).foldl (fun t (p, v) => t.setIfInBounds p v) a.tmps := by
    rw [← Array.foldl_toList, Array.toList_zip]
   simp only [e1]
   rw [hd] at hfit
   refine wpIn_mono (hround (w.heap.size + 1) s x w' F' L' _ (go q2, q2) hle hok hJ' hsA hyq _ hfit) ?_
   rintro e a1 w1 ⟨f1, hf1, rfl, F1, Lu, hsU, hbody⟩
   have hsU' := hsU.swap
   have hl1 := hsU'.ownAt (k := 0) rfl
   refine ⟨_, run_beginRound hl1 (by rw [hrec]), ?_⟩
   have hb1 := hbody _ ((some (w.heap.size + 1), .loop { rec .ready none with state := .busy }) :: (some w.heap.size, .deferred (some [])) :: Lq) (HS.swap (A := (some (w.heap.size + 1), .loop { rec .ready none with state := .busy }) :: (some w.heap.size, .deferred (some [])) :: Lq) (hsU'.put (k := 0) rfl (.loop { rec .ready none with state := .busy })))
   refine wpIn_mono (hb1 _ hf1) ?_
   have fin : ∀ (st : LoopState) (pe : Option Code) (w2 : World) (F2 : Mem) (Lf2 : Own), HS w0 F0 w2 F2 (Lf2 ++ ((some (w.heap.size + 1), .loop { rec .ready none with state := .busy }) :: (some w.heap.size, .deferred (some [])) :: Lq)) →
     HS w0 F0 (putB w2 (w.heap.size + 1) (.loop (rec st pe))) F2 (Lq ++ ([(some (w.heap.size + 1), .loop (rec st pe)), (some w.heap.size, .deferred (some []))] ++ Lf2)) := by
    intro st pe w2 F2 Lf2 hs2
    have hs3 := hs2.swap.put (k := 0) rfl (.loop (rec st pe))
    have h4 : HS w0 F0 (putB w2 (w.heap.size + 1) (.loop (rec st pe))) F2 ([(some (w.heap.size + 1), .loop (rec st pe)), (some w.heap.size, .deferred (some []))] ++ (Lq ++ Lf2)) := by
     have h5 : HS w0 F0 (putB w2 (w.heap.size + 1) (.loop (rec st pe))) F2 (((some (w.heap.size + 1), .loop (rec st pe)) :: (some w.heap.size, .deferred (some [])) :: Lq) ++ Lf2) := hs3
     exact h5
    exact h4.perm
   have endr : ∀ (jump : Option Code) (w2 : World) (F2 : Mem) (Lf2 : Own), HS w0 F0 w2 F2 (Lf2 ++ ((some (w.heap.size + 1), .loop { rec .ready none with state := .busy }) :: (some w.heap.size, .deferred (some [])) :: Lq)) →
     (Instr.endRound (w.heap.size + 1) jump).run P w2 = .ok (.bool jump.isNone) (putB w2 (w.heap.size + 1) (.loop (rec (if jump.isNone then .ready else .done) jump))) := by
    intro jump w2 F2 Lf2 hs2
    have hl2 := hs2.swap.ownAt (k := 0) rfl
    have := run_endRound (P := P) jump hl2
    rw [hrec] at this ⊢
    exact this
   rintro e a2 w2 ⟨f2, hf2, (⟨rfl, hgo2⟩ | ⟨rfl, hgo2⟩), F2, Lf2, hs2, hle2, hJ2⟩
   ·refine ⟨_, _, endr none w2 F2 Lf2 hs2, F2, _, ?_, fin .ready none w2 F2 Lf2 hs2, hle2, Lf2, ?_, hJ2⟩
    ·simp only at hgo2 ⊢; rw [hgo2]; rfl
    ·simp only at hgo2 ⊢; rw [hgo2]; rfl
   ·rcases hj with ⟨rfl, rfl⟩ | ⟨i, rfl, rfl⟩
    ·refine ⟨_, _, endr (some .ret) w2 F2 Lf2 hs2, F2, _, ?_, fin .done (some .ret) w2 F2 Lf2 hs2, hle2, Lf2, ?_, hJ2⟩
     ·simp only at hgo2 ⊢; rw [hgo2]; rfl
     ·simp only at hgo2 ⊢; rw [hgo2]; rfl
    ·refine ⟨_, _, endr (some (.exit i)) w2 F2 Lf2 hs2, F2, _, ?_, fin .done (some (.exit i)) w2 F2 Lf2 hs2, hle2, Lf2, ?_, hJ2⟩
     ·simp only at hgo2 ⊢; rw [hgo2]; rfl
     ·simp only at hgo2 ⊢; rw [hgo2]; rfl
theorem CWP.rangeFuncI {X α σ : Type} {enc : X → List Value} {ok : Mem → X → Prop} {px : X → α} {m : ∀ {σ : Type}, (σ → α → Option (Bool × σ)) → σ → Option σ} {c : Code} (hk : kin3 c = 1) {gf : FuncId} {cap : List Value} {B : Own}
  (hg : fev f (rgop c) = .func (.func gf) #[] cap.toArray) (hgf : CallOk P gf) (hd : f.d = []) {ps : List Nat} (hps0 : rps c = ps) (hps : ps.all (· < n) = true) (hlen : ∀ x, (enc x).length = ps.length) (hs : HS w0 F0 w F (B ++ L)) (hseq : SeqOkI P gf cap F B enc ok px m)
  (y : σ → α → Option (Bool × σ)) (J : σ → Mem → Own → Prop) (hJm : JInd J) {s r : σ} (hJ : J s F L) (hm : m y s = some r) (hy : ∀ s x q, y s x = some q → q.1 = true)
  (hround : ∀ (l : Nat) (s : σ) (x : X) (w' : World) (F' : Mem) (Lf Rf : Own) (q : Bool × σ), Mem.le F F' → ok F' x → J s F' Lf → HS w0 F0 w' F' (Lf ++ Rf) → y s (px x) = some q →
   CWP P (some l) n (rasg c) (fun e f1 w1 => e = .normal ∧ ∃ F1 Lu, HS w0 F0 w1 F1 (Lu ++ Rf) ∧ ∀ w2 Rg, HS w0 F0 w2 F1 (Lu ++ Rg) → CWP P (some l) n (rbody c) (fun e f2 w3 => e = .normal ∧ ∃ F2 Lf2, HS w0 F0 w3 F2 (Lf2 ++ Rg) ∧ Mem.le F' F2 ∧ J q.2 F2 Lf2) f1 w2) (setps f ps (enc x)) w')
  (hdone : ∀ (D : Nat) (w' : World) (F' : Mem) (Lf : Own), HS w0 F0 w' F' ((some D, .deferred (some [])) :: Lf) → Mem.le F F' → J r F' Lf → Q .normal ⟨f.v, [{ target := .collected D, args := #[] }]⟩ w') : CWP P none n c Q f w := by
 refine CWP.rangeFuncI3 hk (.inl ⟨rfl, rfl⟩) hg hgf hd hps0 hps hlen hs hseq y (fun _ => true) J hJm hJ rfl hm (fun s x q h => ⟨rfl, hy s x q h⟩) ?_ (fun D w' F' Lf _ => hdone D w' F' Lf) (fun D w' F' Lf h => by cases h)
 intro l s x w' F' Lf Rf q hle hok hJ hs hyq
 refine (hround l s x w' F' Lf Rf q hle hok hJ hs hyq).mono ?_
 rintro e f1 w1 ⟨rfl, F1, Lu, hs1, h⟩
 refine ⟨rfl, F1, Lu, hs1, fun w2 Rg hs2 => (h w2 Rg hs2).mono ?_⟩
 rintro e f2 w3 ⟨rfl, h⟩
 exact ⟨.inl ⟨rfl, hy _ _ _ hyq⟩, h⟩
end
end Go.Proofs.YtaihlcdkcampbaaGreatDoor
namespace Go.Proofs.YtaihlcdkcampbaaGreatDoor
structure Expr where
 Op : Int
 Value : Int
 Kids : (List Expr)
structure Clause where
 When : Expr
 Then : Expr
structure Book where
 Points : (List Clause)
 Multipliers : (List Clause)
 Penalties : (List Clause)
 Repeats : (List Expr)
structure Span where
 Lo : Int
 Hi : Int
 deriving DecidableEq
structure pileuplaw06_Which where
 I : Int
 K : Int
 deriving DecidableEq
structure rules_token where
 kind_ : Int
 at_ : Int
 text_ : (List UInt8)
 deriving DecidableEq
structure rules_parser where
 l_ : (List rules_token)
 open_ : Int
 deriving DecidableEq
structure pileupref06_token where
 Kind : Int
 At : Int
 Text : (List UInt8)
 deriving DecidableEq
structure pileupref06_reader where
 L : (List pileupref06_token)
 At : Int
 Open : Int
 Bad : Int
 Where : Int
 deriving DecidableEq
structure rules_placed where
 Expr : Expr
 at_ : Int
structure Key where
 Clause : Int
 Value : Int
 deriving DecidableEq
structure rules_bad where
 e_ : Int
 at_ : Int
 deriving DecidableEq
structure rules_sign where
 text_ : (List UInt8)
 rank_ : Int
 left_ : Int
 right_ : Int
 deriving DecidableEq
structure rules_form where
 most_ : Int
 own_ : Int
 kids_ : (List Int)
 deriving DecidableEq
inductive ExprR (F : Mem) : List Value → Expr → Prop
 | leaf (op value : Int) (a : Option Addr) (c : Nat) (hc : LC 0 c) : ExprR F [.int .i64 op, .int .i64 value, .slice a 0 c] ⟨op, value, []⟩
 | node (op value : Int) (b ob : Nat) (C : Array Value) (E : Nat) (fz : Nat × Nat) (c : Nat) (k : List Expr) (hc : LC k.length c) (hF : F b = some (.cells C E fz))
   (hk : ∀ i x, k[i]? = some x → ExprR F (cellsAt C (ob + i * 3) 3) x) : ExprR F [.int .i64 op, .int .i64 value, .slice (some ⟨b, ob, none⟩) k.length c] ⟨op, value, k⟩
theorem ExprR.len {F : Mem} {cs : List Value} {x : Expr} (h : ExprR F cs x) : cs.length = 3 := by cases h <;> rfl
theorem ExprR.mono {F F' : Mem} (hl : Mem.le F F') {cs : List Value} {x : Expr} (h : ExprR F cs x) : ExprR F' cs x := by
 induction h with
 | leaf op value a c hc => exact .leaf op value a c hc
 | node op value b ob C E fz c k hc hF hk ih => exact .node op value b ob C E fz c k hc (hl _ _ hF) ih
def tExpr : Ty Expr := ⟨3, true, ExprR, fun h => h.len, fun hl h => h.mono hl, rfl⟩
theorem tExpr_open {F : Mem} {cs : List Value} {x : Expr} (h : tExpr.R F cs x) : ∃ (a : Option Addr) (c : Nat), cs = [.int .i64 x.Op, .int .i64 x.Value, .slice a x.Kids.length c] ∧ LC x.Kids.length c ∧ SlA tExpr F a x.Kids := by
 cases h with
 | leaf op value a c hc => exact ⟨a, c, rfl, hc, .inl rfl⟩
 | node op value b ob C E fz c k hc hF hk => exact ⟨_, c, rfl, hc, .inr ⟨b, ob, C, E, fz, rfl, hF, hk⟩⟩
theorem tExpr_mk {F : Mem} {cs : List Value} {x : Expr} (h : ∃ (a : Option Addr) (c : Nat), cs = [.int .i64 x.Op, .int .i64 x.Value, .slice a x.Kids.length c] ∧ LC x.Kids.length c ∧ SlA tExpr F a x.Kids) : tExpr.R F cs x := by
 obtain ⟨a, c, rfl, hc, hs⟩ := h
 obtain ⟨op, value, k⟩ := x
 rcases hs with rfl | ⟨b, o, C, E, fz, rfl, hF, hx⟩
 ·exact .leaf op value a c hc
 ·exact .node op value b o C E fz c k hc hF hx
theorem oExpr : tExpr.One := fun h => by obtain ⟨a, c, rfl, _⟩ := tExpr_open h; rfl
def tClause : Ty Clause := ⟨6, true, fun F cs x => ∃ (a_2 : Option Addr) (n_2 : Nat) (a_5 : Option Addr) (n_5 : Nat), cs = [(.int .i64 x.When.Op), (.int .i64 x.When.Value), (.slice a_2 x.When.Kids.length n_2), (.int .i64 x.Then.Op), (.int .i64 x.Then.Value), (.slice a_5 x.Then.Kids.length n_5)] ∧ LC x.When.Kids.length n_2 ∧ SlA tExpr F a_2 x.When.Kids ∧ LC x.Then.Kids.length n_5 ∧ SlA tExpr F a_5 x.Then.Kids,
 fun h => by obtain ⟨a_2, n_2, a_5, n_5, rfl, _, _, _, _⟩ := h; rfl,
 fun hl h => by obtain ⟨a_2, n_2, a_5, n_5, hc, hb_2, hs_2, hb_5, hs_5⟩ := h; exact ⟨a_2, n_2, a_5, n_5, hc, hb_2, hs_2.mono hl, hb_5, hs_5.mono hl⟩, rfl⟩
theorem oClause : tClause.One := fun h => by first | (subst h; rfl) | (obtain ⟨a_2, n_2, a_5, n_5, rfl, _, _, _, _⟩ := h; rfl)
def tSpan : Ty Span := ⟨2, true, fun _ cs x => cs = [(.int .i64 x.Lo), (.int .i64 x.Hi)],
 fun h => by subst h; rfl,
 fun _ h => h, rfl⟩
def trules_token : Ty rules_token := ⟨3, true, fun _ cs x => cs = [(.int .i64 x.kind_), (.int .i64 x.at_), (.string ⟨(x.text_).toArray⟩)],
 fun h => by subst h; rfl,
 fun _ h => h, rfl⟩
theorem orules_token : trules_token.One := fun h => by first | (subst h; rfl) | (obtain rfl := h; rfl)
def Fn179 (F : Mem) (gq : FuncId) (fq kq : List Value) (q : Int → Option Bool) : Prop := ∀ (w' : World) (F' : Mem) (y0 : Int) (r : Bool), Mem.le F F' → (∀ b o, F' b = some o → w'.heap[b]? = some o) → q y0 = some r → Calls Tryz.prog gq ((fq : List Value) ++ (([(.int .i64 y0)] : List Value) ++ kq)).toArray w' (FRet w' F' fun F'' v => v = (.bool r))
theorem Fn179.mono {F F1 : Mem} {gq : FuncId} {fq kq : List Value} {q : Int → Option Bool} (h : Fn179 F gq fq kq q) (hl : Mem.le F F1) : Fn179 F1 gq fq kq q := fun w1 F2 y0 r le1 pe1 hr1 => h w1 F2 y0 r (hl.trans le1) pe1 hr1
def Fn148 (F : Mem) (gq : FuncId) (fq kq : List Value) (q : Clause → Option Bool) : Prop := ∀ (w' : World) (F' : Mem) (y0 : Clause) (ay0_2 : Option Addr) (ny0_2 : Nat) (hby0_2 : LC y0.When.Kids.length ny0_2) (hsy0_2 : SlA tExpr F' ay0_2 y0.When.Kids) (ay0_5 : Option Addr) (ny0_5 : Nat) (hby0_5 : LC y0.Then.Kids.length ny0_5) (hsy0_5 : SlA tExpr F' ay0_5 y0.Then.Kids) (r : Bool), Mem.le F F' → (∀ b o, F' b = some o → w'.heap[b]? = some o) → q y0 = some r → Calls Tryz.prog gq ((fq : List Value) ++ (([(.agg #[(.int .i64 y0.When.Op), (.int .i64 y0.When.Value), (.slice ay0_2 y0.When.Kids.length ny0_2), (.int .i64 y0.Then.Op), (.int .i64 y0.Then.Value), (.slice ay0_5 y0.Then.Kids.length ny0_5)])] : List Value) ++ kq)).toArray w' (FRet w' F' fun F'' v => v = (.bool r))
theorem Fn148.mono {F F1 : Mem} {gq : FuncId} {fq kq : List Value} {q : Clause → Option Bool} (h : Fn148 F gq fq kq q) (hl : Mem.le F F1) : Fn148 F1 gq fq kq q := fun w1 F2 y0 ay0_2 ny0_2 hby0_2 hsy0_2 ay0_5 ny0_5 hby0_5 hsy0_5 r le1 pe1 hr1 => h w1 F2 y0 ay0_2 ny0_2 hby0_2 hsy0_2 ay0_5 ny0_5 hby0_5 hsy0_5 r (hl.trans le1) pe1 hr1
def Fn36 (F : Mem) (gq : FuncId) (fq kq : List Value) (q : Expr → Expr → Option Bool) : Prop := ∀ (w' : World) (F' : Mem) (y0 : Expr) (ay0_2 : Option Addr) (ny0_2 : Nat) (hby0_2 : LC y0.Kids.length ny0_2) (hsy0_2 : SlA tExpr F' ay0_2 y0.Kids) (y1 : Expr) (ay1_2 : Option Addr) (ny1_2 : Nat) (hby1_2 : LC y1.Kids.length ny1_2) (hsy1_2 : SlA tExpr F' ay1_2 y1.Kids) (r : Bool), Mem.le F F' → (∀ b o, F' b = some o → w'.heap[b]? = some o) → q y0 y1 = some r → Calls Tryz.prog gq ((fq : List Value) ++ (([(.agg #[(.int .i64 y0.Op), (.int .i64 y0.Value), (.slice ay0_2 y0.Kids.length ny0_2)]), (.agg #[(.int .i64 y1.Op), (.int .i64 y1.Value), (.slice ay1_2 y1.Kids.length ny1_2)])] : List Value) ++ kq)).toArray w' (FRet w' F' fun F'' v => v = (.bool r))
theorem Fn36.mono {F F1 : Mem} {gq : FuncId} {fq kq : List Value} {q : Expr → Expr → Option Bool} (h : Fn36 F gq fq kq q) (hl : Mem.le F F1) : Fn36 F1 gq fq kq q := fun w1 F2 y0 ay0_2 ny0_2 hby0_2 hsy0_2 y1 ay1_2 ny1_2 hby1_2 hsy1_2 r le1 pe1 hr1 => h w1 F2 y0 ay0_2 ny0_2 hby0_2 hsy0_2 y1 ay1_2 ny1_2 hby1_2 hsy1_2 r (hl.trans le1) pe1 hr1
def Fn193 (F : Mem) (gq : FuncId) (fq kq : List Value) (q : Int → Int → Int → Option (List UInt8)) : Prop := ∀ (w' : World) (F' : Mem) (y0 : Int) (y1 : Int) (y2 : Int) (r : (List UInt8)), Mem.le F F' → (∀ b o, F' b = some o → w'.heap[b]? = some o) → q y0 y1 y2 = some r → Calls Tryz.prog gq ((fq : List Value) ++ (([(.int .i64 y0), (.int .u8 y1), (.int .u8 y2)] : List Value) ++ kq)).toArray w' (FRet w' F' fun F'' v => v = (.string ⟨(r).toArray⟩))
theorem Fn193.mono {F F1 : Mem} {gq : FuncId} {fq kq : List Value} {q : Int → Int → Int → Option (List UInt8)} (h : Fn193 F gq fq kq q) (hl : Mem.le F F1) : Fn193 F1 gq fq kq q := fun w1 F2 y0 y1 y2 r le1 pe1 hr1 => h w1 F2 y0 y1 y2 r (hl.trans le1) pe1 hr1
def Fn121 (F : Mem) (gq : FuncId) (fq kq : List Value) (q : (List Int) → Option Bool) : Prop := ∀ (w' : World) (F' : Mem) (y0 : (List Int)) (ay0_0 : Option Addr) (ny0_0 : Nat) (hby0_0 : LC y0.length ny0_0) (hsy0_0 : SlA tInt F' ay0_0 y0) (r : Bool), Mem.le F F' → (∀ b o, F' b = some o → w'.heap[b]? = some o) → q y0 = some r → Calls Tryz.prog gq ((fq : List Value) ++ (([(.slice ay0_0 y0.length ny0_0)] : List Value) ++ kq)).toArray w' (FRet w' F' fun F'' v => v = (.bool r))
theorem Fn121.mono {F F1 : Mem} {gq : FuncId} {fq kq : List Value} {q : (List Int) → Option Bool} (h : Fn121 F gq fq kq q) (hl : Mem.le F F1) : Fn121 F1 gq fq kq q := fun w1 F2 y0 ay0_0 ny0_0 hby0_0 hsy0_0 r le1 pe1 hr1 => h w1 F2 y0 ay0_0 ny0_0 hby0_0 hsy0_0 r (hl.trans le1) pe1 hr1
def EFn117 (bp : Nat) (gq : FuncId) (fq kq : List Value) (q : rules_parser → Option (rules_bad ⊕ (rules_parser × Expr))) : Prop := ∀ {wb w0 : World} {Fb F0 : Mem} {Lf : Own} (hG : Glob F0) (y : rules_parser) (ay_0 : Option Addr) (ny_0 : Nat) (hby_0 : LC y.l_.length ny_0) (hsy_0 : SlA trules_token F0 ay_0 y.l_) (hs0 : HS wb Fb w0 F0 ((some bp, (.cells #[(.slice ay_0 y.l_.length ny_0), (.int .i64 y.open_)] 100 (0, 0))) :: Lf)) (r : (rules_bad ⊕ (rules_parser × Expr))), q y = some r → Calls Tryz.prog gq ((fq : List Value) ++ (([] : List Value) ++ kq)).toArray w0 (BRetP wb Fb F0 Lf r (fun b => (.iface 158 (.agg #[(.int .i64 b.e_), (.int .i64 b.at_)]))) fun a F' v L' => ∃ (aq0_0 : Option Addr) (nq0_0 : Nat) (aq1_2 : Option Addr) (nq1_2 : Nat), v = (.agg #[(.int .i64 a.2.Op), (.int .i64 a.2.Value), (.slice aq1_2 a.2.Kids.length nq1_2)]) ∧ L' = (some bp, (.cells #[(.slice aq0_0 a.1.l_.length nq0_0), (.int .i64 a.1.open_)] 100 (0, 0))) :: Lf ∧ LC a.1.l_.length nq0_0 ∧ SlA trules_token F' aq0_0 a.1.l_ ∧ LC a.2.Kids.length nq1_2 ∧ SlA tExpr F' aq1_2 a.2.Kids)
abbrev kExpr (x : Expr) (a2 : Option Addr) (n2 : Nat) : Array Value := #[.int .i64 x.Op, .int .i64 x.Value, .slice a2 x.Kids.length n2]
abbrev kClause (x : Clause) (a2 : Option Addr) (n2 : Nat) (a5 : Option Addr) (n5 : Nat) : Array Value := #[.int .i64 x.When.Op, .int .i64 x.When.Value, .slice a2 x.When.Kids.length n2, .int .i64 x.Then.Op, .int .i64 x.Then.Value, .slice a5 x.Then.Kids.length n5]
abbrev kBook (x : Book) (a0 : Option Addr) (n0 : Nat) (a1 : Option Addr) (n1 : Nat) (a2 : Option Addr) (n2 : Nat) (a3 : Option Addr) (n3 : Nat) : Array Value := #[.slice a0 x.Points.length n0, .slice a1 x.Multipliers.length n1, .slice a2 x.Penalties.length n2, .slice a3 x.Repeats.length n3]
abbrev krules_token (x : rules_token) : Array Value := #[.int .i64 x.kind_, .int .i64 x.at_, .string ⟨(x.text_).toArray⟩]
abbrev krules_parser (x : rules_parser) (a0 : Option Addr) (n0 : Nat) : Array Value := #[.slice a0 x.l_.length n0, .int .i64 x.open_]
abbrev krules_placed (x : rules_placed) (a2 : Option Addr) (n2 : Nat) : Array Value := #[.int .i64 x.Expr.Op, .int .i64 x.Expr.Value, .slice a2 x.Expr.Kids.length n2, .int .i64 x.at_]
abbrev krules_bad (x : rules_bad) : Array Value := #[.int .i64 x.e_, .int .i64 x.at_]
abbrev krules_sign (x : rules_sign) : Array Value := #[.string ⟨(x.text_).toArray⟩, .int .i64 x.rank_, .int .i64 x.left_, .int .i64 x.right_]
abbrev krules_form (x : rules_form) (a2 : Option Addr) (n2 : Nat) : Array Value := #[.int .i64 x.most_, .int .i64 x.own_, .slice a2 x.kids_.length n2]
end Go.Proofs.YtaihlcdkcampbaaGreatDoor
namespace Go.Proofs.YtaihlcdkcampbaaGreatDoor
open Go.Proofs
abbrev enc121 : ((List Int) × Option Addr × Nat) → List Value := fun (y0, ay0_0, ny0_0) => [(.slice ay0_0 y0.length ny0_0)]
abbrev ok121 (F : Mem) : ((List Int) × Option Addr × Nat) → Prop := fun (y0, ay0_0, ny0_0) => LC y0.length ny0_0 ∧ SlA tInt F ay0_0 y0
abbrev px121 : ((List Int) × Option Addr × Nat) → (List Int) := fun (y0, ay0_0, ny0_0) => (y0)
abbrev enc194 (x : rules_token) : List Value := [(.agg #[(.int .i64 x.kind_), (.int .i64 x.at_), (.string ⟨(x.text_).toArray⟩)])]
abbrev ok194 (_ : Mem) (_ : rules_token) : Prop := True
abbrev px194 (x : rules_token) : rules_token := x
theorem kl9 : KL Tryz.prog 9 tStr := KL.ofString (by kernel_rfl)
end Go.Proofs.YtaihlcdkcampbaaGreatDoor
namespace Go.Proofs.YtaihlcdkcampbaaGreatDoor
open Go.Proofs
def rules_formOf (N : Nat) (x0 : Int) : Option (rules_form × Bool) :=
 (bif (x0 == 1) then some (({ most_ := 1000000, own_ := 1, kids_ := ([] : List Int) } : rules_form), true) else (bif (x0 == 2) then some (({ most_ := 13, own_ := 1, kids_ := ([] : List Int) } : rules_form), true) else (bif (x0 == 3) then some (({ most_ := 0, own_ := 2, kids_ := [2] } : rules_form), true) else (bif (bif (x0 == 4) then (x0 == 4) else (x0 == 5)) then some (({ most_ := 0, own_ := 2, kids_ := [2, 2] } : rules_form), true) else (bif (bif (x0 == 6) then (x0 == 6) else (x0 == 7)) then some (({ most_ := 0, own_ := 2, kids_ := [1, 1] } : rules_form), true) else (bif (bif (x0 == 8) then (x0 == 8) else (bif (x0 == 9) then (x0 == 9) else (x0 == 10))) then some (({ most_ := 0, own_ := 1, kids_ := [1, 1] } : rules_form), true) else (bif (x0 == 11) then some (({ most_ := 0, own_ := 1, kids_ := [2, 1, 1] } : rules_form), true) else some (({ most_ := 0, own_ := 0, kids_ := ([] : List Int) } : rules_form), false))))))))
theorem co_rules_formOf : CallOk Tryz.prog 168 := fun _ _ => by kernel_rfl
theorem c_rules_formOf (N : Nat) (w0 : World) (F0 : Mem) (hF : ∀ b o, F0 b = some o → w0.heap[b]? = some o) (x0 : Int) (r : (rules_form × Bool)) (h : rules_formOf N x0 = some r) :
  Calls Tryz.prog 168 ([(vi x0)] : List Value).toArray w0 (FRet w0 F0 fun F' v => ∃ (aq0_2 : Option Addr) (nq0_2 : Nat), v = (.tuple #[(.agg (krules_form r.1 aq0_2 nq0_2)), (.bool r.2)]) ∧ LC r.1.kids_.length nq0_2 ∧ SlA tInt F' aq0_2 r.1.kids_) := by
 have hs0 := HS.start hF
 refine Go 36 Tryz.func168 ?_
 refine Sq (Rg [0, 1] ?_)
 refine Al' 186 #[(vi 0), (vi 0), (.slice none ([] : List Int).length 0)] hs0 (fun b21 w22 hs23 => ?_)
 refine Vs 1 ?_
 refine Nss ?_
 refine Sq (Rg [0] ?_)
 refine Vs 1 ?_
 refine Nt ?_
 refine Bk ?_
 refine Sq (Rg [0, 1] ?_)
 refine Vs 2 ?_
 refine Nt ?_
 refine Cd h (fun hb24 h25 => ?_) (fun hb24 h26 => ?_)
 ·refine Sq (Rg [0, 1, 2] ?_)
  refine Vs 1 ?_
  refine St0 #[(vi 1000000), (vi 1), (.slice none ([] : List Int).length 0)] hs23 (fun w27 hs28 => ?_)
  refine Vs 1 ?_
  refine Nt ?_
  refine Rt ?_
  refine blockQ_ret ?_
  refine thenQ_ret ?_
  obtain rfl := some_inj h25
  exact ⟨rfl, (.tuple #[(.agg #[(vi 1000000), (vi 1), (.slice none ([] : List Int).length 0)]), (.bool true)]), res_of (l := [.cell 2 186, .tmp 3]) (by kernel_rfl) (vs := [(.agg #[(vi 1000000), (vi 1), (.slice none ([] : List Int).length 0)]), (.bool true)]) ⟨b21, 0, rfl, run_loadVar' (t := 186) (g := true) (s := 3) (by kernel_rfl) hs28.at0 rfl (by decide), ⟨rfl, trivial⟩⟩, (.tuple #[(.agg #[(vi 1000000), (vi 1), (.slice none ([] : List Int).length 0)]), (.bool true)]), F0, rfl, hs28.clear, ⟨none, 0, rfl, LC.nil, (.inl rfl)⟩⟩
 ·refine Sq (Rg [0, 1] ?_)
  refine Vs 2 ?_
  refine Nt ?_
  refine Cd h26 (fun hb29 h30 => ?_) (fun hb29 h31 => ?_)
  ·refine Sq (Rg [0, 1, 2] ?_)
   refine Vs 1 ?_
   refine St0 #[(vi 13), (vi 1), (.slice none ([] : List Int).length 0)] hs23 (fun w32 hs33 => ?_)
   refine Vs 1 ?_
   refine Nt ?_
   refine Rt ?_
   refine blockQ_ret ?_
   refine thenQ_ret ?_
   obtain rfl := some_inj h30
   exact ⟨rfl, (.tuple #[(.agg #[(vi 13), (vi 1), (.slice none ([] : List Int).length 0)]), (.bool true)]), res_of (l := [.cell 2 186, .tmp 3]) (by kernel_rfl) (vs := [(.agg #[(vi 13), (vi 1), (.slice none ([] : List Int).length 0)]), (.bool true)]) ⟨b21, 0, rfl, run_loadVar' (t := 186) (g := true) (s := 3) (by kernel_rfl) hs33.at0 rfl (by decide), ⟨rfl, trivial⟩⟩, (.tuple #[(.agg #[(vi 13), (vi 1), (.slice none ([] : List Int).length 0)]), (.bool true)]), F0, rfl, hs33.clear, ⟨none, 0, rfl, LC.nil, (.inl rfl)⟩⟩
  ·refine Sq (Rg [0, 1] ?_)
   refine Vs 2 ?_
   refine Nt ?_
   refine Cd h31 (fun hb34 h35 => ?_) (fun hb34 h36 => ?_)
   ·refine Sq (Rg [0, 1, 2, 3] ?_)
    refine Bs 3 [(vi 2)] hs23 (fun b37 w38 hs39 => ?_)
    have hr41 : RowR tInt 3 F0 (some ⟨b37, 0, none⟩) 1 [2] (some b37, .cells ([(vi 2)] : List Value).toArray 3 (0, 0)) := RowR.lit ⟨rfl, rfl⟩ (by simp)
    refine Vs 1 ?_
    refine St1 #[(vi 0), (vi 2), (.slice (some ⟨b37, 0, none⟩) [2].length 1)] hs39 (fun w42 hs43 => ?_)
    refine Vs 1 ?_
    refine Nt ?_
    refine Rt ?_
    refine blockQ_ret ?_
    refine thenQ_ret ?_
    have hb47 := RowR.bound hr41
    obtain ⟨F1, hs44, le45, hs46⟩ := hs43.fr0 hr41
    obtain rfl := some_inj h35
    exact ⟨rfl, (.tuple #[(.agg #[(vi 0), (vi 2), (.slice (some ⟨b37, 0, none⟩) [2].length 1)]), (.bool true)]), res_of (l := [.cell 2 186, .tmp 3]) (by kernel_rfl) (vs := [(.agg #[(vi 0), (vi 2), (.slice (some ⟨b37, 0, none⟩) [2].length 1)]), (.bool true)]) ⟨b21, 0, rfl, run_loadVar' (t := 186) (g := true) (s := 3) (by kernel_rfl) hs44.at0 rfl (by decide), ⟨rfl, trivial⟩⟩, (.tuple #[(.agg #[(vi 0), (vi 2), (.slice (some ⟨b37, 0, none⟩) [2].length 1)]), (.bool true)]), F1, rfl, hs44.clear, ⟨(some ⟨b37, 0, none⟩), 1, rfl, hb47, hs46⟩⟩
   ·refine Sq ?_
    refine Sq (Rg [0, 1] ?_)
    refine Vs 2 ?_
    refine Nt ?_
    refine CWP.cut (fun f w => ∃ (F2 : Mem), HS w0 F0 w F2 [(sb b21 #[(vi 0), (vi 0), (.slice none ([] : List Int).length 0)] 186)] ∧ Mem.le F0 F2 ∧ FI f [] [(2, (pt b21 0)), (4, (vi x0)), (15, (.bool (bif (x0 == 4) then (x0 == 4) else (x0 == 5))))]) ?_ ?_
    ·refine Cp (x0 == 4) (fun hb55 => ?_) (fun hb55 => ?_)
     ·refine Sc ?_
      exact .inl ⟨rfl, F0, hs23, (Mem.le.refl _), (fJ ⟨rfl, rfl, (congrArg Value.bool (bif_t hb55 (rfl))), trivial⟩)⟩
     ·refine Rg [0, 1] ?_
      refine Vs 2 ?_
      refine RWP.nil ?_
      exact .inl ⟨rfl, F0, hs23, (Mem.le.refl _), (fJ ⟨rfl, rfl, (congrArg Value.bool (bif_f hb55 (rfl))), trivial⟩)⟩
    ·rintro f w48 ⟨F2, hs49, le50, ⟨_, rfl⟩⟩
     refine thenQ_nrm ?_
     refine Cd h36 (fun hb56 h57 => ?_) (fun hb56 h58 => ?_)
     ·refine Sq (Rg [0, 1, 2, 3] ?_)
      refine Bs 3 [(vi 2), (vi 2)] hs49 (fun b59 w60 hs61 => ?_)
      have hr63 : RowR tInt 3 F2 (some ⟨b59, 0, none⟩) 2 [2, 2] (some b59, .cells ([(vi 2), (vi 2)] : List Value).toArray 3 (0, 0)) := RowR.lit ⟨rfl, ⟨rfl, rfl⟩⟩ (by simp)
      refine Vs 1 ?_
      refine St1 #[(vi 0), (vi 2), (.slice (some ⟨b59, 0, none⟩) [2, 2].length 2)] hs61 (fun w64 hs65 => ?_)
      refine Vs 1 ?_
      refine Nt ?_
      refine Rt ?_
      refine blockQ_ret ?_
      refine thenQ_ret ?_
      have hb69 := RowR.bound hr63
      obtain ⟨F3, hs66, le67, hs68⟩ := hs65.fr0 hr63
      obtain rfl := some_inj h57
      exact ⟨rfl, (.tuple #[(.agg #[(vi 0), (vi 2), (.slice (some ⟨b59, 0, none⟩) [2, 2].length 2)]), (.bool true)]), res_of (l := [.cell 2 186, .tmp 3]) (by kernel_rfl) (vs := [(.agg #[(vi 0), (vi 2), (.slice (some ⟨b59, 0, none⟩) [2, 2].length 2)]), (.bool true)]) ⟨b21, 0, rfl, run_loadVar' (t := 186) (g := true) (s := 3) (by kernel_rfl) hs66.at0 rfl (by decide), ⟨rfl, trivial⟩⟩, (.tuple #[(.agg #[(vi 0), (vi 2), (.slice (some ⟨b59, 0, none⟩) [2, 2].length 2)]), (.bool true)]), F3, rfl, hs66.clear, ⟨(some ⟨b59, 0, none⟩), 2, rfl, hb69, hs68⟩⟩
     ·refine Sq ?_
      refine Sq (Rg [0, 1] ?_)
      refine Vs 2 ?_
      refine Nt ?_
      refine CWP.cut (fun f w => ∃ (F4 : Mem), HS w0 F0 w F4 [(sb b21 #[(vi 0), (vi 0), (.slice none ([] : List Int).length 0)] 186)] ∧ Mem.le F2 F4 ∧ FI f [] [(2, (pt b21 0)), (4, (vi x0)), (20, (.bool (bif (x0 == 6) then (x0 == 6) else (x0 == 7))))]) ?_ ?_
      ·refine Cp (x0 == 6) (fun hb77 => ?_) (fun hb77 => ?_)
       ·refine Sc ?_
        exact .inl ⟨rfl, F2, hs49, (Mem.le.refl _), (fJ ⟨rfl, rfl, (congrArg Value.bool (bif_t hb77 (rfl))), trivial⟩)⟩
       ·refine Rg [0, 1] ?_
        refine Vs 2 ?_
        refine RWP.nil ?_
        exact .inl ⟨rfl, F2, hs49, (Mem.le.refl _), (fJ ⟨rfl, rfl, (congrArg Value.bool (bif_f hb77 (rfl))), trivial⟩)⟩
      ·rintro f w70 ⟨F4, hs71, le72, ⟨_, rfl⟩⟩
       refine thenQ_nrm ?_
       refine Cd h58 (fun hb78 h79 => ?_) (fun hb78 h80 => ?_)
       ·refine Sq (Rg [0, 1, 2, 3] ?_)
        refine Bs 3 [(vi 1), (vi 1)] hs71 (fun b81 w82 hs83 => ?_)
        have hr85 : RowR tInt 3 F4 (some ⟨b81, 0, none⟩) 2 [1, 1] (some b81, .cells ([(vi 1), (vi 1)] : List Value).toArray 3 (0, 0)) := RowR.lit ⟨rfl, ⟨rfl, rfl⟩⟩ (by simp)
        refine Vs 1 ?_
        refine St1 #[(vi 0), (vi 2), (.slice (some ⟨b81, 0, none⟩) [1, 1].length 2)] hs83 (fun w86 hs87 => ?_)
        refine Vs 1 ?_
        refine Nt ?_
        refine Rt ?_
        refine blockQ_ret ?_
        refine thenQ_ret ?_
        have hb91 := RowR.bound hr85
        obtain ⟨F5, hs88, le89, hs90⟩ := hs87.fr0 hr85
        obtain rfl := some_inj h79
        exact ⟨rfl, (.tuple #[(.agg #[(vi 0), (vi 2), (.slice (some ⟨b81, 0, none⟩) [1, 1].length 2)]), (.bool true)]), res_of (l := [.cell 2 186, .tmp 3]) (by kernel_rfl) (vs := [(.agg #[(vi 0), (vi 2), (.slice (some ⟨b81, 0, none⟩) [1, 1].length 2)]), (.bool true)]) ⟨b21, 0, rfl, run_loadVar' (t := 186) (g := true) (s := 3) (by kernel_rfl) hs88.at0 rfl (by decide), ⟨rfl, trivial⟩⟩, (.tuple #[(.agg #[(vi 0), (vi 2), (.slice (some ⟨b81, 0, none⟩) [1, 1].length 2)]), (.bool true)]), F5, rfl, hs88.clear, ⟨(some ⟨b81, 0, none⟩), 2, rfl, hb91, hs90⟩⟩
       ·refine Sq ?_
        refine Sq (Rg [0, 1] ?_)
        refine Vs 2 ?_
        refine Nt ?_
        refine CWP.cut (fun f w => ∃ (F6 : Mem), HS w0 F0 w F6 [(sb b21 #[(vi 0), (vi 0), (.slice none ([] : List Int).length 0)] 186)] ∧ Mem.le F4 F6 ∧ FI f [] [(2, (pt b21 0)), (4, (vi x0)), (25, (.bool (bif (x0 == 8) then (x0 == 8) else (bif (x0 == 9) then (x0 == 9) else (x0 == 10)))))]) ?_ ?_
        ·refine Cp (x0 == 8) (fun hb99 => ?_) (fun hb99 => ?_)
         ·refine Sc ?_
          exact .inl ⟨rfl, F4, hs71, (Mem.le.refl _), (fJ ⟨rfl, rfl, (congrArg Value.bool (bif_t hb99 (rfl))), trivial⟩)⟩
         ·refine Sq (Rg [0, 1] ?_)
          refine Vs 2 ?_
          refine Nt ?_
          refine CWP.cut (fun f w => ∃ (F7 : Mem), HS w0 F0 w F7 [(sb b21 #[(vi 0), (vi 0), (.slice none ([] : List Int).length 0)] 186)] ∧ Mem.le F4 F7 ∧ FI f [] [(2, (pt b21 0)), (4, (vi x0)), (25, (.bool (bif (x0 == 9) then (x0 == 9) else (x0 == 10))))]) ?_ ?_
          ·refine Cp (x0 == 9) (fun hb107 => ?_) (fun hb107 => ?_)
           ·refine Sc ?_
            exact .inl ⟨rfl, F4, hs71, (Mem.le.refl _), (fJ ⟨rfl, rfl, (congrArg Value.bool (bif_t hb107 (rfl))), trivial⟩)⟩
           ·refine Rg [0, 1] ?_
            refine Vs 2 ?_
            refine RWP.nil ?_
            exact .inl ⟨rfl, F4, hs71, (Mem.le.refl _), (fJ ⟨rfl, rfl, (congrArg Value.bool (bif_f hb107 (rfl))), trivial⟩)⟩
          ·rintro f w100 ⟨F7, hs101, le102, ⟨_, rfl⟩⟩
           exact .inl ⟨rfl, F7, hs101, le102, (fJ ⟨rfl, rfl, (congrArg Value.bool (bif_f hb99 (rfl))), trivial⟩)⟩
        ·rintro f w92 ⟨F6, hs93, le94, ⟨_, rfl⟩⟩
         refine thenQ_nrm ?_
         refine Cd h80 (fun hb108 h109 => ?_) (fun hb108 h110 => ?_)
         ·refine Sq (Rg [0, 1, 2, 3] ?_)
          refine Bs 3 [(vi 1), (vi 1)] hs93 (fun b111 w112 hs113 => ?_)
          have hr115 : RowR tInt 3 F6 (some ⟨b111, 0, none⟩) 2 [1, 1] (some b111, .cells ([(vi 1), (vi 1)] : List Value).toArray 3 (0, 0)) := RowR.lit ⟨rfl, ⟨rfl, rfl⟩⟩ (by simp)
          refine Vs 1 ?_
          refine St1 #[(vi 0), (vi 1), (.slice (some ⟨b111, 0, none⟩) [1, 1].length 2)] hs113 (fun w116 hs117 => ?_)
          refine Vs 1 ?_
          refine Nt ?_
          refine Rt ?_
          refine blockQ_ret ?_
          refine thenQ_ret ?_
          have hb121 := RowR.bound hr115
          obtain ⟨F8, hs118, le119, hs120⟩ := hs117.fr0 hr115
          obtain rfl := some_inj h109
          exact ⟨rfl, (.tuple #[(.agg #[(vi 0), (vi 1), (.slice (some ⟨b111, 0, none⟩) [1, 1].length 2)]), (.bool true)]), res_of (l := [.cell 2 186, .tmp 3]) (by kernel_rfl) (vs := [(.agg #[(vi 0), (vi 1), (.slice (some ⟨b111, 0, none⟩) [1, 1].length 2)]), (.bool true)]) ⟨b21, 0, rfl, run_loadVar' (t := 186) (g := true) (s := 3) (by kernel_rfl) hs118.at0 rfl (by decide), ⟨rfl, trivial⟩⟩, (.tuple #[(.agg #[(vi 0), (vi 1), (.slice (some ⟨b111, 0, none⟩) [1, 1].length 2)]), (.bool true)]), F8, rfl, hs118.clear, ⟨(some ⟨b111, 0, none⟩), 2, rfl, hb121, hs120⟩⟩
         ·refine Sq (Rg [0, 1] ?_)
          refine Vs 2 ?_
          refine Nt ?_
          refine Cd h110 (fun hb122 h123 => ?_) (fun hb122 h124 => ?_)
          ·refine Sq (Rg [0, 1, 2, 3] ?_)
           refine Bs 3 [(vi 2), (vi 1), (vi 1)] hs93 (fun b125 w126 hs127 => ?_)
           have hr129 : RowR tInt 3 F6 (some ⟨b125, 0, none⟩) 3 [2, 1, 1] (some b125, .cells ([(vi 2), (vi 1), (vi 1)] : List Value).toArray 3 (0, 0)) := RowR.lit ⟨rfl, ⟨rfl, ⟨rfl, rfl⟩⟩⟩ (by simp)
           refine Vs 1 ?_
           refine St1 #[(vi 0), (vi 1), (.slice (some ⟨b125, 0, none⟩) [2, 1, 1].length 3)] hs127 (fun w130 hs131 => ?_)
           refine Vs 1 ?_
           refine Nt ?_
           refine Rt ?_
           refine blockQ_ret ?_
           refine thenQ_ret ?_
           have hb135 := RowR.bound hr129
           obtain ⟨F9, hs132, le133, hs134⟩ := hs131.fr0 hr129
           obtain rfl := some_inj h123
           exact ⟨rfl, (.tuple #[(.agg #[(vi 0), (vi 1), (.slice (some ⟨b125, 0, none⟩) [2, 1, 1].length 3)]), (.bool true)]), res_of (l := [.cell 2 186, .tmp 3]) (by kernel_rfl) (vs := [(.agg #[(vi 0), (vi 1), (.slice (some ⟨b125, 0, none⟩) [2, 1, 1].length 3)]), (.bool true)]) ⟨b21, 0, rfl, run_loadVar' (t := 186) (g := true) (s := 3) (by kernel_rfl) hs132.at0 rfl (by decide), ⟨rfl, trivial⟩⟩, (.tuple #[(.agg #[(vi 0), (vi 1), (.slice (some ⟨b125, 0, none⟩) [2, 1, 1].length 3)]), (.bool true)]), F9, rfl, hs132.clear, ⟨(some ⟨b125, 0, none⟩), 3, rfl, hb135, hs134⟩⟩
          ·refine Sc ?_
           refine blockQ_nrm ?_
           refine thenQ_nrm ?_
           refine Sq (Rg [0, 1, 2] ?_)
           refine Vs 1 ?_
           refine St0 #[(vi 0), (vi 0), (.slice none ([] : List Int).length 0)] hs93 (fun w136 hs137 => ?_)
           refine Vs 1 ?_
           refine Nt ?_
           refine Rt ?_
           obtain rfl := some_inj h124
           exact ⟨rfl, (.tuple #[(.agg #[(vi 0), (vi 0), (.slice none ([] : List Int).length 0)]), (.bool false)]), res_of (l := [.cell 2 186, .tmp 3]) (by kernel_rfl) (vs := [(.agg #[(vi 0), (vi 0), (.slice none ([] : List Int).length 0)]), (.bool false)]) ⟨b21, 0, rfl, run_loadVar' (t := 186) (g := true) (s := 3) (by kernel_rfl) hs137.at0 rfl (by decide), ⟨rfl, trivial⟩⟩, (.tuple #[(.agg #[(vi 0), (vi 0), (.slice none ([] : List Int).length 0)]), (.bool false)]), F6, rfl, hs137.clear, ⟨none, 0, rfl, LC.nil, (.inl rfl)⟩⟩
end Go.Proofs.YtaihlcdkcampbaaGreatDoor
namespace Go.Proofs.YtaihlcdkcampbaaGreatDoor
open Go.Proofs
def Self113 (sR113 : Expr → Option Int) : Prop := ∀ (w0 : World) (F0 : Mem) (hF : ∀ b o, F0 b = some o → w0.heap[b]? = some o) (x0 : Expr) (a0_2 : Option Addr) (n0_2 : Nat) (hb0_2 : LC x0.Kids.length n0_2) (hs0_2 : SlA tExpr F0 a0_2 x0.Kids) (r : Int), sR113 x0 = some r → Calls Tryz.prog 113 ([(.agg #[(.int .i64 x0.Op), (.int .i64 x0.Value), (.slice a0_2 x0.Kids.length n0_2)])] : List Value).toArray w0 (FRet w0 F0 fun F' v => v = (.int .i64 r))
theorem co_rules_kindOf : CallOk Tryz.prog 113 := fun _ _ => by kernel_rfl
end Go.Proofs.YtaihlcdkcampbaaGreatDoor
namespace Go.Proofs.YtaihlcdkcampbaaGreatDoor
open Go.Proofs
def rules_kindOf_L0 (N : Nat) (sR113 : Expr → Option Int) (x0 : Expr) (r24 : (rules_form × Bool)) : Int → Option (Flow Int Int) := fun s53 =>
 (bif (decide (s53 < (x0.Kids.length : Int))) then ((idx x0.Kids s53).bind fun x77 => (((idx r24.1.kids_ s53).bind fun x110 => ((sR113 x77).bind fun r124 => some (r124 != x110))).bind fun j101 => (bif j101 then some (.ret 0) else some (.next (W64 (s53 + 1)))))) else some (.done s53))
def rules_kindOf_S (N : Nat) (sR113 : Expr → Option Int) (x0 : Expr) : Option Int :=
 ((rules_formOf N x0.Op).bind fun r24 => (bif ((!r24.2) || ((decide (x0.Value < 0)) || ((decide (x0.Value > r24.1.most_)) || ((x0.Kids.length : Int) != (r24.1.kids_.length : Int))))) then some 0 else ((iter (rules_kindOf_L0 N sR113 x0 r24) N 0).bind fun o => o.k (fun r => some r) (fun s62 => some r24.1.own_))))
theorem cS_rules_kindOf (N : Nat) (sR113 : Expr → Option Int) (hsR113 : Self113 sR113) (w0 : World) (F0 : Mem) (hF : ∀ b o, F0 b = some o → w0.heap[b]? = some o) (x0 : Expr) (a0_2 : Option Addr) (n0_2 : Nat) (hb0_2 : LC x0.Kids.length n0_2) (hs0_2 : SlA tExpr F0 a0_2 x0.Kids) (r : Int) (h : rules_kindOf_S N sR113 x0 = some r) :
  Calls Tryz.prog 113 ([(.agg (kExpr x0 a0_2 n0_2))] : List Value).toArray w0 (FRet w0 F0 fun F' v => v = (vi r)) := by
 have hs0 := HS.start hF
 refine Go 55 Tryz.func113 ?_
 refine Sq (Rg [0, 1] ?_)
 refine Bx' 33 (kExpr x0 a0_2 n0_2) hs0 (fun b21 w22 hs23 => ?_)
 refine Vs 1 ?_
 refine Nss (Rg [0, 1, 2, 3, 4, 5, 6, 7, 8] ?_)
 refine Vs 1 ?_
 refine Ld hs23.at0 ?_
 obtain ⟨r24, hr25, h26⟩ := bind_some h
 refine Cl' co_rules_formOf hs23 (c_rules_formOf N w22 F0 hs23.pers (x0.Op) _ hr25) ?_
 rintro _ F1 w28 hs29 le30 ⟨ar24_0_2, nr24_0_2, rfl, hbr24_0_2, hsr24_0_2⟩
 refine Vs 3 ?_
 refine Al' 186 #[(vi 0), (vi 0), (.slice none ([] : List Int).length 0)] hs29 (fun b32 w33 hs34 => ?_)
 refine St0 (krules_form r24.1 ar24_0_2 nr24_0_2) hs34 (fun w35 hs36 => ?_)
 refine Vs 1 ?_
 refine Nss ?_
 refine Sq (Rg [0, 1, 2, 3, 4, 5, 6, 7, 8, 9, 10, 11, 12, 13, 14, 15, 16, 17, 18, 19, 20, 21, 22] ?_)
 refine RWP.cut (fun f w => ∃ (F2 : Mem), HS w0 F0 w F2 [(sb b32 (krules_form r24.1 ar24_0_2 nr24_0_2) 186), (sb b21 (kExpr x0 a0_2 n0_2) 33)] ∧ Mem.le F1 F2 ∧ FI f [] [(1, (pt b21 0)), (3, (pt b32 0)), (35, (.bool ((!r24.2) || ((decide (x0.Value < 0)) || ((decide (x0.Value > r24.1.most_)) || ((x0.Kids.length : Int) != (r24.1.kids_.length : Int)))))))]) ?_ ?_
 ·refine Vs 3 ?_
  refine RWP.split (!r24.2) (fun hb44 => ?_) (fun hb44 => ?_)
  ·refine Ss hb44 3 ?_
   refine Pk1 hb44 ?_
   refine Vs 1 ?_
   refine Ss (rfl : true = true) 5 ?_
   refine Pk1 (rfl : true = true) ?_
   refine Vs 1 ?_
   refine Ss (rfl : true = true) 7 ?_
   refine Pk1 (rfl : true = true) ?_
   exact RWP.nil ⟨rfl, F1, hs36, (Mem.le.refl _), (fJ ⟨rfl, rfl, (congrArg Value.bool (or_t hb44 (rfl))), trivial⟩)⟩
  ·refine Vgs hb44 1 ?_
   refine Lg hb44 hs36.at1 ?_
   refine Vgs hb44 1 ?_
   refine Pk0 hb44 ?_
   refine Vs 1 ?_
   refine RWP.split (decide (x0.Value < 0)) (fun hb45 => ?_) (fun hb45 => ?_)
   ·refine Ss hb45 5 ?_
    refine Pk1 hb45 ?_
    refine Vs 1 ?_
    refine Ss (rfl : true = true) 7 ?_
    refine Pk1 (rfl : true = true) ?_
    exact RWP.nil ⟨rfl, F1, hs36, (Mem.le.refl _), (fJ ⟨rfl, rfl, (congrArg Value.bool (or_f hb44 (or_t hb45 (rfl)))), trivial⟩)⟩
   ·refine Vgs hb45 1 ?_
    refine Lg hb45 hs36.at1 ?_
    refine Vgs hb45 1 ?_
    refine Lg hb45 hs36.at0 ?_
    refine Vgs hb45 1 ?_
    refine Pk0 hb45 ?_
    refine Vs 1 ?_
    refine RWP.split (decide (x0.Value > r24.1.most_)) (fun hb46 => ?_) (fun hb46 => ?_)
    ·refine Ss hb46 7 ?_
     refine Pk1 hb46 ?_
     exact RWP.nil ⟨rfl, F1, hs36, (Mem.le.refl _), (fJ ⟨rfl, rfl, (congrArg Value.bool (or_f hb44 (or_f hb45 (or_t hb46 (rfl))))), trivial⟩)⟩
    ·refine Vgs hb46 1 ?_
     refine Lg hb46 hs36.at1 ?_
     refine Vgs hb46 2 ?_
     refine Lg hb46 hs36.at0 ?_
     refine Vgs hb46 2 ?_
     refine Pk0 hb46 ?_
     exact RWP.nil ⟨rfl, F1, hs36, (Mem.le.refl _), (fJ ⟨rfl, rfl, (congrArg Value.bool (or_f hb44 (or_f hb45 (or_f hb46 (rfl))))), trivial⟩)⟩
 ·rintro f w37 ⟨F2, hs38, le39, ⟨_, rfl⟩⟩
  refine thenQ_nrm ?_
  refine Cd h26 (fun hb47 h48 => ?_) (fun hb47 h49 => ?_)
  ·refine Sq (Rg [0] ?_)
   refine Vs 1 ?_
   refine Nt ?_
   refine Rt ?_
   refine thenQ_ret ?_
   obtain rfl := some_inj h48
   exact Re [(vi 0)] hs38 rfl
  ·refine Sc ?_
   refine thenQ_nrm ?_
   refine Sq ?_
   refine Sq (Rg [0, 1, 2, 3] ?_)
   refine Vs 1 ?_
   refine Ld hs38.at1 ?_
   refine Vs 2 ?_
   refine Nt ?_
   obtain ⟨o50, ho51, h52⟩ := bind_some h49
   refine CWP.cut (fun f w => ∃ (s62 : Int) (F4 : Mem), o50 = .done s62 ∧ HS w0 F0 w F4 [(sb b32 (krules_form r24.1 ar24_0_2 nr24_0_2) 186)] ∧ Mem.le F2 F4 ∧ FI f [] [(3, (pt b32 0))]) ?_ ?_
   ·refine Bk ?_
    refine CWP.loop (by kernel_rfl) (fun m f w => ∃ (s53 : Int) (F3 : Mem), iter (rules_kindOf_L0 N sR113 x0 r24) m s53 = some o50 ∧ HS w0 F0 w F3 [(sb b32 (krules_form r24.1 ar24_0_2 nr24_0_2) 186)] ∧ Mem.le F2 F3 ∧ FI f [] [(3, (pt b32 0)), (37, (.slice a0_2 x0.Kids.length n0_2)), (38, (vi (x0.Kids.length : Int))), (39, (vi s53))]) N ⟨0, F2, ho51, hs38.dr1, (Mem.le.refl _), fI⟩ ?_
    rintro m68 f w54 ⟨s53, F3, hit69, hs55, le56, ⟨_, rfl⟩⟩
    obtain ⟨m70, fl71, rfl, hb72, hnx73⟩ := iter_step hit69
    refine Sq (Rg [0] ?_)
    refine Vs 1 ?_
    refine Nss ?_
    refine Cd hb72 (fun hb74 h75 => ?_) (fun hb74 h76 => ?_)
    ·refine Sc ?_
     refine thenQ_nrm ?_
     refine Sq ?_
     refine Bk ?_
     refine Sq (Rg [0, 1, 2, 3, 4, 5] ?_)
     refine Vs 1 ?_
     obtain ⟨x77, hx78, h80⟩ := bind_some h75
     obtain ⟨hi79, hx78'⟩ := idx_spec hx78
     obtain ⟨b81, o82, C83, E84, fz85, rfl, hF87, hE88⟩ := SlA.open (SlA.mono hs0_2 ((le30.trans le39).trans le56)) hx78'
     obtain ⟨ae89_2, ne89_2, hc90, hbe89_2, hse89_2⟩ := (tExpr_open (hE88 _ _ hx78'))
     refine Ix hi79 ?_
     refine Lx 0 (hs55.pers _ _ hF87) hc90 ?_
     refine Al' 33 #[(vi 0), (vi 0), (.slice none ([] : List Expr).length 0)] hs55 (fun b91 w92 hs93 => ?_)
     refine Vs 1 ?_
     refine St0 (kExpr x77 ae89_2 ne89_2) hs93 (fun w94 hs95 => ?_)
     refine Nss ?_
     obtain ⟨j101, hj108, h109⟩ := bind_some h80
     refine RD 8 8 [(sb b91 (kExpr x77 ae89_2 ne89_2) 33), (sb b32 (krules_form r24.1 ar24_0_2 nr24_0_2) 186)] [] hs95 (fun f w => ∃ (F5 : Mem), HS w0 F0 w F5 [(sb b32 (krules_form r24.1 ar24_0_2 nr24_0_2) 186)] ∧ Mem.le F3 F5 ∧ FI f [] [(3, (pt b32 0)), (37, (.slice (some ⟨b81, o82, none⟩) x0.Kids.length n0_2)), (38, (vi (x0.Kids.length : Int))), (39, (vi s53)), (51, (.bool j101))]) (fun wd96 hw97 => ?_) ?_
     ·refine Dl 0 (fun _ hq => (hq.1.2 0 _ _ rfl)) ?_
      refine Dv [2] ?_
      refine Dl 3 (fun _ hq => (hq.1.2 1 _ _ rfl)) ?_
      refine Dv [4] ?_
      obtain ⟨x110, hx111, h113⟩ := bind_some hj108
      obtain ⟨hi112, hx111'⟩ := idx_spec hx111
      obtain ⟨b114, o115, C116, E117, fz118, rfl, hF120, hE121⟩ := SlA.open (SlA.mono hsr24_0_2 (le39.trans le56)) hx111'
      have hc123 := hE121 _ _ hx111'
      refine Di 5 hi112 ?_
      refine Dx 6 0 (fun _ hq => hq.1.1 _ _ hF120) hc123 ?_
      refine D1 1 ?_
      obtain ⟨r124, hr125, h126⟩ := bind_some h113
      refine DCl co_rules_kindOf hw97 (hsR113 wd96 F3 hw97.pers (x77) ae89_2 ne89_2 hbe89_2 hse89_2 _ hr125) ?_
      rintro _ F6 w128 hs129 le130 rfl
      refine Dv [7] ?_
      obtain rfl := some_inj h126
      exact DWP.done (by kernel_rfl) ⟨F6, hs129.dr0, le130, fI⟩
     ·rintro f w98 ⟨F5, hs99, le100, ⟨_, rfl⟩⟩
      refine thenQ_nrm ?_
      refine Cd h109 (fun hb132 h133 => ?_) (fun hb132 h134 => ?_)
      ·refine Sq (Rg [0] ?_)
       refine Vs 1 ?_
       refine Nt ?_
       refine Rt ?_
       refine blockQ_ret ?_
       refine thenQ_ret ?_
       refine thenQ_ret ?_
       refine blockQ_ret ?_
       have hret := iter_ret h133 hnx73
       subst hret
       refine .inr ?_
       refine thenQ_ret ?_
       obtain rfl := some_inj h52
       exact Re [(vi 0)] hs99 rfl
      ·refine Sc ?_
       refine blockQ_nrm ?_
       refine thenQ_nrm ?_
       refine Rg [0, 1] ?_
       refine Vs 2 ?_
       refine RWP.nil ?_
       have hn135 := iter_next h134 hnx73
       exact ⟨m70, Nat.lt_succ_self _, (W64 (s53 + 1)), F5, hn135, hs99, (le56.trans le100), fI⟩
    ·refine Ex ?_
     refine thenQ_ex ?_
     refine thenQ_ex ?_
     refine blockQ_hit rfl ?_
     have ho136 := iter_done h76 hnx73
     exact .inl ⟨rfl, s53, F3, ho136, hs55, le56, fI⟩
   ·rintro f w63 ⟨s62, F4, rfl, hs64, le65, ⟨_, rfl⟩⟩
    have h137 := k_done h52
    refine thenQ_nrm ?_
    refine Sq (Rg [0, 1, 2] ?_)
    refine Vs 1 ?_
    refine Ld hs64.at0 ?_
    refine Vs 1 ?_
    refine Nt ?_
    refine Rt ?_
    obtain rfl := some_inj h137
    exact Re [(vi r24.1.own_)] hs64 rfl
end Go.Proofs.YtaihlcdkcampbaaGreatDoor
namespace Go.Proofs.YtaihlcdkcampbaaGreatDoor
open Go.Proofs
structure Rec113 where
 q113 : Expr → Option Int
def rec113 (N : Nat) : Nat → Rec113
 | 0 => ⟨fun _ => none⟩
 | k + 1 => ⟨rules_kindOf_S N (rec113 N k).q113⟩
theorem rec113_ok (N : Nat) : ∀ k, Self113 (rec113 N k).q113
 | 0 => (by unfold Self113; intros; rename_i h; cases h)
 | k + 1 => by
  have ih := rec113_ok N k
  exact @cS_rules_kindOf N (rec113 N k).q113 ih
def rules_kindOf (N : Nat) (x0 : Expr) : Option Int := (rec113 N N).q113 x0
theorem c_rules_kindOf (N : Nat) (w0 : World) (F0 : Mem) (hF : ∀ b o, F0 b = some o → w0.heap[b]? = some o) (x0 : Expr) (a0_2 : Option Addr) (n0_2 : Nat) (hb0_2 : LC x0.Kids.length n0_2) (hs0_2 : SlA tExpr F0 a0_2 x0.Kids) (r : Int) (h : rules_kindOf N x0 = some r) :
  Calls Tryz.prog 113 ([(.agg #[(.int .i64 x0.Op), (.int .i64 x0.Value), (.slice a0_2 x0.Kids.length n0_2)])] : List Value).toArray w0 (FRet w0 F0 fun F' v => v = (.int .i64 r)) := (rec113_ok N N) w0 F0 hF x0 a0_2 n0_2 hb0_2 hs0_2 r h
end Go.Proofs.YtaihlcdkcampbaaGreatDoor
namespace Go.Proofs.YtaihlcdkcampbaaGreatDoor
open Go.Proofs
end Go.Proofs.YtaihlcdkcampbaaGreatDoor
namespace Go.Proofs.YtaihlcdkcampbaaGreatDoor
open Go.Proofs
end Go.Proofs.YtaihlcdkcampbaaGreatDoor
namespace Go.Proofs.YtaihlcdkcampbaaGreatDoor
open Go.Proofs
end Go.Proofs.YtaihlcdkcampbaaGreatDoor
namespace Go.Proofs.YtaihlcdkcampbaaGreatDoor
open Go.Proofs
end Go.Proofs.YtaihlcdkcampbaaGreatDoor
namespace Go.Proofs.YtaihlcdkcampbaaGreatDoor
open Go.Proofs
end Go.Proofs.YtaihlcdkcampbaaGreatDoor
namespace Go.Proofs.YtaihlcdkcampbaaGreatDoor
open Go.Proofs
def Self32 (sR32 : Expr → Option Int) : Prop := ∀ (w0 : World) (F0 : Mem) (hF : ∀ b o, F0 b = some o → w0.heap[b]? = some o) (x0 : Expr) (a0_2 : Option Addr) (n0_2 : Nat) (hb0_2 : LC x0.Kids.length n0_2) (hs0_2 : SlA tExpr F0 a0_2 x0.Kids) (r : Int), sR32 x0 = some r → Calls Tryz.prog 32 ([(.agg #[(.int .i64 x0.Op), (.int .i64 x0.Value), (.slice a0_2 x0.Kids.length n0_2)])] : List Value).toArray w0 (FRet w0 F0 fun F' v => v = (.int .i64 r))
theorem co_rules_Depth : CallOk Tryz.prog 32 := fun _ _ => by kernel_rfl
end Go.Proofs.YtaihlcdkcampbaaGreatDoor
namespace Go.Proofs.YtaihlcdkcampbaaGreatDoor
open Go.Proofs
def rules_Depth_L0 (N : Nat) (sR32 : Expr → Option Int) (x0 : Expr) : (Int × Int) → Option (Flow Int (Int × Int)) := fun s27 =>
 (bif (decide (s27.2 < (x0.Kids.length : Int))) then ((idx x0.Kids s27.2).bind fun x51 => ((sR32 x51).bind fun r70 => some (.next ((max s27.1 r70), (W64 (s27.2 + 1)))))) else some (.done (s27.1, s27.2)))
def rules_Depth_S (N : Nat) (sR32 : Expr → Option Int) (x0 : Expr) : Option Int :=
 ((iter (rules_Depth_L0 N sR32 x0) N (0, 0)).bind fun o => o.k (fun r => some r) (fun s36 => some (W64 (s36.1 + 1))))
theorem cS_rules_Depth (N : Nat) (sR32 : Expr → Option Int) (hsR32 : Self32 sR32) (w0 : World) (F0 : Mem) (hF : ∀ b o, F0 b = some o → w0.heap[b]? = some o) (x0 : Expr) (a0_2 : Option Addr) (n0_2 : Nat) (hb0_2 : LC x0.Kids.length n0_2) (hs0_2 : SlA tExpr F0 a0_2 x0.Kids) (r : Int) (h : rules_Depth_S N sR32 x0 = some r) :
  Calls Tryz.prog 32 ([(.agg (kExpr x0 a0_2 n0_2))] : List Value).toArray w0 (FRet w0 F0 fun F' v => v = (vi r)) := by
 have hs0 := HS.start hF
 refine Go 20 Tryz.func32 ?_
 refine Sq (Rg [0, 1] ?_)
 refine Bx' 33 (kExpr x0 a0_2 n0_2) hs0 (fun b21 w22 hs23 => ?_)
 refine Vs 1 ?_
 refine Nss (Rg [0] ?_)
 refine Vs 1 ?_
 refine Nss ?_
 refine Sq (Rg [0, 1, 2, 3] ?_)
 refine Vs 1 ?_
 refine Ld hs23.at0 ?_
 refine Vs 2 ?_
 refine Nt ?_
 obtain ⟨o24, ho25, h26⟩ := bind_some h
 refine CWP.cut (fun f w => ∃ (s36 : (Int × Int)) (F2 : Mem), o24 = .done s36 ∧ HS w0 F0 w F2 [] ∧ Mem.le F0 F2 ∧ FI f [] [(3, (vi s36.1))]) ?_ ?_
 ·refine Bk ?_
  refine CWP.loop (by kernel_rfl) (fun m f w => ∃ (s27 : (Int × Int)) (F1 : Mem), iter (rules_Depth_L0 N sR32 x0) m s27 = some o24 ∧ HS w0 F0 w F1 [] ∧ Mem.le F0 F1 ∧ FI f [] [(3, (vi s27.1)), (7, (.slice a0_2 x0.Kids.length n0_2)), (8, (vi (x0.Kids.length : Int))), (9, (vi s27.2))]) N ⟨(0, 0), F0, ho25, hs23.dr0, (Mem.le.refl _), fI⟩ ?_
  rintro m42 f w28 ⟨s27, F1, hit43, hs29, le30, ⟨_, rfl⟩⟩
  obtain ⟨m44, fl45, rfl, hb46, hnx47⟩ := iter_step hit43
  refine Sq (Rg [0] ?_)
  refine Vs 1 ?_
  refine Nss ?_
  refine Cd hb46 (fun hb48 h49 => ?_) (fun hb48 h50 => ?_)
  ·refine Sc ?_
   refine thenQ_nrm ?_
   refine Sq ?_
   refine Bk ?_
   refine Sq (Rg [0, 1, 2, 3] ?_)
   obtain ⟨x51, hx52, h54⟩ := bind_some h49
   obtain ⟨hi53, hx52'⟩ := idx_spec hx52
   obtain ⟨b55, o56, C57, E58, fz59, rfl, hF61, hE62⟩ := SlA.open (SlA.mono hs0_2 le30) hx52'
   obtain ⟨ae63_2, ne63_2, hc64, hbe63_2, hse63_2⟩ := (tExpr_open (hE62 _ _ hx52'))
   refine Ix hi53 ?_
   refine Lx 0 (hs29.pers _ _ hF61) hc64 ?_
   refine Al' 33 #[(vi 0), (vi 0), (.slice none ([] : List Expr).length 0)] hs29 (fun b65 w66 hs67 => ?_)
   refine St0 (kExpr x51 ae63_2 ne63_2) hs67 (fun w68 hs69 => ?_)
   refine Nt ?_
   refine Rg [0, 1, 2, 3, 4] ?_
   refine Vs 1 ?_
   refine Ld hs69.at0 ?_
   obtain ⟨r70, hr71, h72⟩ := bind_some h54
   refine Cl' co_rules_Depth hs69 (hsR32 w68 F1 hs69.pers (x51) ae63_2 ne63_2 hbe63_2 hse63_2 _ hr71) ?_
   rintro _ F3 w74 hs75 le76 rfl
   refine Vs 2 ?_
   refine RWP.nil ?_
   refine blockQ_nrm ?_
   refine thenQ_nrm ?_
   refine Rg [0, 1] ?_
   refine Vs 2 ?_
   refine RWP.nil ?_
   have hn78 := iter_next h72 hnx47
   exact ⟨m44, Nat.lt_succ_self _, ((max s27.1 r70), (W64 (s27.2 + 1))), F3, hn78, hs75.dr0, (le30.trans le76), fI⟩
  ·refine Ex ?_
   refine thenQ_ex ?_
   refine thenQ_ex ?_
   refine blockQ_hit rfl ?_
   have ho79 := iter_done h50 hnx47
   exact .inl ⟨rfl, (s27.1, s27.2), F1, ho79, hs29, le30, fI⟩
 ·rintro f w37 ⟨s36, F2, rfl, hs38, le39, ⟨_, rfl⟩⟩
  have h80 := k_done h26
  refine thenQ_nrm ?_
  refine Sq (Rg [0, 1, 2] ?_)
  refine Vs 3 ?_
  refine Nt ?_
  refine Rt ?_
  obtain rfl := some_inj h80
  exact Re [(vi (W64 (s36.1 + 1)))] hs38 rfl
end Go.Proofs.YtaihlcdkcampbaaGreatDoor
namespace Go.Proofs.YtaihlcdkcampbaaGreatDoor
open Go.Proofs
structure Rec32 where
 q32 : Expr → Option Int
def rec32 (N : Nat) : Nat → Rec32
 | 0 => ⟨fun _ => none⟩
 | k + 1 => ⟨rules_Depth_S N (rec32 N k).q32⟩
theorem rec32_ok (N : Nat) : ∀ k, Self32 (rec32 N k).q32
 | 0 => (by unfold Self32; intros; rename_i h; cases h)
 | k + 1 => by
  have ih := rec32_ok N k
  exact @cS_rules_Depth N (rec32 N k).q32 ih
def rules_Depth (N : Nat) (x0 : Expr) : Option Int := (rec32 N N).q32 x0
theorem c_rules_Depth (N : Nat) (w0 : World) (F0 : Mem) (hF : ∀ b o, F0 b = some o → w0.heap[b]? = some o) (x0 : Expr) (a0_2 : Option Addr) (n0_2 : Nat) (hb0_2 : LC x0.Kids.length n0_2) (hs0_2 : SlA tExpr F0 a0_2 x0.Kids) (r : Int) (h : rules_Depth N x0 = some r) :
  Calls Tryz.prog 32 ([(.agg #[(.int .i64 x0.Op), (.int .i64 x0.Value), (.slice a0_2 x0.Kids.length n0_2)])] : List Value).toArray w0 (FRet w0 F0 fun F' v => v = (.int .i64 r)) := (rec32_ok N N) w0 F0 hF x0 a0_2 n0_2 hb0_2 hs0_2 r h
end Go.Proofs.YtaihlcdkcampbaaGreatDoor
namespace Go.Proofs.YtaihlcdkcampbaaGreatDoor
open Go.Proofs
end Go.Proofs.YtaihlcdkcampbaaGreatDoor
namespace Go.Proofs.YtaihlcdkcampbaaGreatDoor
open Go.Proofs
end Go.Proofs.YtaihlcdkcampbaaGreatDoor
namespace Go.Proofs.YtaihlcdkcampbaaGreatDoor
open Go.Proofs
end Go.Proofs.YtaihlcdkcampbaaGreatDoor
namespace Go.Proofs.YtaihlcdkcampbaaGreatDoor
open Go.Proofs
def Self92 (sR92 : Expr → Option Int) : Prop := ∀ (w0 : World) (F0 : Mem) (hF : ∀ b o, F0 b = some o → w0.heap[b]? = some o) (x0 : Expr) (a0_2 : Option Addr) (n0_2 : Nat) (hb0_2 : LC x0.Kids.length n0_2) (hs0_2 : SlA tExpr F0 a0_2 x0.Kids) (r : Int), sR92 x0 = some r → Calls Tryz.prog 92 ([(.agg #[(.int .i64 x0.Op), (.int .i64 x0.Value), (.slice a0_2 x0.Kids.length n0_2)])] : List Value).toArray w0 (FRet w0 F0 fun F' v => v = (.int .i64 r))
theorem co_ref06_Nodes : CallOk Tryz.prog 92 := fun _ _ => by kernel_rfl
end Go.Proofs.YtaihlcdkcampbaaGreatDoor
namespace Go.Proofs.YtaihlcdkcampbaaGreatDoor
open Go.Proofs
def ref06_Nodes_L0 (N : Nat) (sR92 : Expr → Option Int) (x0 : Expr) : (Int × Int) → Option (Flow Int (Int × Int)) := fun s27 =>
 (bif (decide (s27.2 < (x0.Kids.length : Int))) then ((idx x0.Kids s27.2).bind fun x50 => ((sR92 x50).bind fun r64 => some (.next ((W64 (s27.1 + r64)), (W64 (s27.2 + 1)))))) else some (.done (s27.1, s27.2)))
def ref06_Nodes_S (N : Nat) (sR92 : Expr → Option Int) (x0 : Expr) : Option Int :=
 ((iter (ref06_Nodes_L0 N sR92 x0) N (1, 0)).bind fun o => o.k (fun r => some r) (fun s35 => some s35.1))
theorem cS_ref06_Nodes (N : Nat) (sR92 : Expr → Option Int) (hsR92 : Self92 sR92) (w0 : World) (F0 : Mem) (hF : ∀ b o, F0 b = some o → w0.heap[b]? = some o) (x0 : Expr) (a0_2 : Option Addr) (n0_2 : Nat) (hb0_2 : LC x0.Kids.length n0_2) (hs0_2 : SlA tExpr F0 a0_2 x0.Kids) (r : Int) (h : ref06_Nodes_S N sR92 x0 = some r) :
  Calls Tryz.prog 92 ([(.agg (kExpr x0 a0_2 n0_2))] : List Value).toArray w0 (FRet w0 F0 fun F' v => v = (vi r)) := by
 have hs0 := HS.start hF
 refine Go 21 Tryz.func92 ?_
 refine Sq (Rg [0, 1] ?_)
 refine Bx' 33 (kExpr x0 a0_2 n0_2) hs0 (fun b21 w22 hs23 => ?_)
 refine Vs 1 ?_
 refine Nss (Rg [0] ?_)
 refine Vs 1 ?_
 refine Nss ?_
 refine Sq (Rg [0] ?_)
 refine Vs 1 ?_
 refine Nt ?_
 obtain ⟨o24, ho25, h26⟩ := bind_some h
 refine CWP.cut (fun f w => ∃ (s35 : (Int × Int)) (F2 : Mem), o24 = .done s35 ∧ HS w0 F0 w F2 [] ∧ Mem.le F0 F2 ∧ FI f [] [(3, (vi s35.1))]) ?_ ?_
 ·refine Bk ?_
  refine CWP.loop (by kernel_rfl) (fun m f w => ∃ (s27 : (Int × Int)) (F1 : Mem), iter (ref06_Nodes_L0 N sR92 x0) m s27 = some o24 ∧ HS w0 F0 w F1 [(sb b21 (kExpr x0 a0_2 n0_2) 33)] ∧ Mem.le F0 F1 ∧ FI f [] [(1, (pt b21 0)), (3, (vi s27.1)), (4, (vi s27.2))]) N ⟨(1, 0), F0, ho25, hs23, (Mem.le.refl _), fI⟩ ?_
  rintro m41 f w28 ⟨s27, F1, hit42, hs29, le30, ⟨_, rfl⟩⟩
  obtain ⟨m43, fl44, rfl, hb45, hnx46⟩ := iter_step hit42
  refine Sq ?_
  refine Sq (Rg [0, 1, 2, 3, 4] ?_)
  refine Vs 2 ?_
  refine Ld hs29.at0 ?_
  refine Vs 2 ?_
  refine Nt ?_
  refine Cd hb45 (fun hb47 h48 => ?_) (fun hb47 h49 => ?_)
  ·refine Sc ?_
   refine thenQ_nrm ?_
   refine Sq ?_
   refine Bk ?_
   refine Rg [0, 1, 2, 3, 4, 5, 6, 7, 8] ?_
   refine Vs 2 ?_
   refine Ld hs29.at0 ?_
   refine Vs 1 ?_
   obtain ⟨x50, hx51, h53⟩ := bind_some h48
   obtain ⟨hi52, hx51'⟩ := idx_spec hx51
   obtain ⟨b54, o55, C56, E57, fz58, rfl, hF60, hE61⟩ := SlA.open (SlA.mono hs0_2 le30) hx51'
   obtain ⟨ae62_2, ne62_2, hc63, hbe62_2, hse62_2⟩ := (tExpr_open (hE61 _ _ hx51'))
   refine Ix hi52 ?_
   refine Lx 0 (hs29.pers _ _ hF60) hc63 ?_
   obtain ⟨r64, hr65, h66⟩ := bind_some h53
   refine Cl' co_ref06_Nodes hs29 (hsR92 w28 F1 hs29.pers (x50) ae62_2 ne62_2 hbe62_2 hse62_2 _ hr65) ?_
   rintro _ F3 w68 hs69 le70 rfl
   refine Vs 2 ?_
   refine RWP.nil ?_
   refine blockQ_nrm ?_
   refine thenQ_nrm ?_
   refine Rg [0, 1, 2] ?_
   refine Vs 3 ?_
   refine RWP.nil ?_
   have hn72 := iter_next h66 hnx46
   exact ⟨m43, Nat.lt_succ_self _, ((W64 (s27.1 + r64)), (W64 (s27.2 + 1))), F3, hn72, hs69, (le30.trans le70), fI⟩
  ·refine Ex ?_
   refine thenQ_ex ?_
   refine thenQ_ex ?_
   refine blockQ_hit rfl ?_
   have ho73 := iter_done h49 hnx46
   exact .inl ⟨rfl, (s27.1, s27.2), F1, ho73, hs29.dr0, le30, fI⟩
 ·rintro f w36 ⟨s35, F2, rfl, hs37, le38, ⟨_, rfl⟩⟩
  have h74 := k_done h26
  refine thenQ_nrm ?_
  refine Sq (Rg [0, 1] ?_)
  refine Vs 2 ?_
  refine Nt ?_
  refine Rt ?_
  obtain rfl := some_inj h74
  exact Re [(vi s35.1)] hs37 rfl
end Go.Proofs.YtaihlcdkcampbaaGreatDoor
namespace Go.Proofs.YtaihlcdkcampbaaGreatDoor
open Go.Proofs
structure Rec92 where
 q92 : Expr → Option Int
def rec92 (N : Nat) : Nat → Rec92
 | 0 => ⟨fun _ => none⟩
 | k + 1 => ⟨ref06_Nodes_S N (rec92 N k).q92⟩
theorem rec92_ok (N : Nat) : ∀ k, Self92 (rec92 N k).q92
 | 0 => (by unfold Self92; intros; rename_i h; cases h)
 | k + 1 => by
  have ih := rec92_ok N k
  exact @cS_ref06_Nodes N (rec92 N k).q92 ih
def ref06_Nodes (N : Nat) (x0 : Expr) : Option Int := (rec92 N N).q92 x0
theorem c_ref06_Nodes (N : Nat) (w0 : World) (F0 : Mem) (hF : ∀ b o, F0 b = some o → w0.heap[b]? = some o) (x0 : Expr) (a0_2 : Option Addr) (n0_2 : Nat) (hb0_2 : LC x0.Kids.length n0_2) (hs0_2 : SlA tExpr F0 a0_2 x0.Kids) (r : Int) (h : ref06_Nodes N x0 = some r) :
  Calls Tryz.prog 92 ([(.agg #[(.int .i64 x0.Op), (.int .i64 x0.Value), (.slice a0_2 x0.Kids.length n0_2)])] : List Value).toArray w0 (FRet w0 F0 fun F' v => v = (.int .i64 r)) := (rec92_ok N N) w0 F0 hF x0 a0_2 n0_2 hb0_2 hs0_2 r h
end Go.Proofs.YtaihlcdkcampbaaGreatDoor
namespace Go.Proofs.YtaihlcdkcampbaaGreatDoor
open Go.Proofs
end Go.Proofs.YtaihlcdkcampbaaGreatDoor
namespace Go.Proofs.YtaihlcdkcampbaaGreatDoor
open Go.Proofs
end Go.Proofs.YtaihlcdkcampbaaGreatDoor
namespace Go.Proofs.YtaihlcdkcampbaaGreatDoor
open Go.Proofs
end Go.Proofs.YtaihlcdkcampbaaGreatDoor
namespace Go.Proofs.YtaihlcdkcampbaaGreatDoor
open Go.Proofs
end Go.Proofs.YtaihlcdkcampbaaGreatDoor
namespace Go.Proofs.YtaihlcdkcampbaaGreatDoor
open Go.Proofs
end Go.Proofs.YtaihlcdkcampbaaGreatDoor
namespace Go.Proofs.YtaihlcdkcampbaaGreatDoor
open Go.Proofs
end Go.Proofs.YtaihlcdkcampbaaGreatDoor
namespace Go.Proofs.YtaihlcdkcampbaaGreatDoor
def Ht (M : Nat) : Nat → Expr → Prop
 | 0, _ => False
 | n + 1, e => e.Kids.length < M ∧ e.Kids.length < 9223372036854775808 ∧ ∀ x, x ∈ e.Kids → Ht M n x
theorem Ht.succ {M : Nat} : ∀ {n : Nat} {e : Expr}, Ht M n e → Ht M (n + 1) e
 | 0, _, h => h.elim
 | n + 1, e, ⟨h1, h2, h3⟩ => ⟨h1, h2, fun x hx => (h3 x hx).succ⟩
theorem Ht.le {M n m : Nat} {e : Expr} (h : Ht M n e) (hl : n ≤ m) : Ht M m e := by
 induction hl with
 | refl => exact h
 | step _ ih => exact ih.succ
theorem Ht.wide {M M' : Nat} (hM : M ≤ M') : ∀ {n : Nat} {e : Expr}, Ht M n e → Ht M' n e
 | 0, _, h => h.elim
 | n + 1, e, ⟨h1, h2, h3⟩ => ⟨by omega, h2, fun x hx => (h3 x hx).wide hM⟩
section
variable {α β σ ρ : Type}
theorem iter_fold (l : List α) (g : α → Option β) (gs : α → β) (f : σ → β → σ) {body : σ × Int → Option (Flow ρ (σ × Int))} (hg : ∀ x, x ∈ l → g x = some (gs x))
  (hb : ∀ s i, body (s, i) = bif decide (i < (l.length : Int)) then ((idx l i).bind fun x => (g x).bind fun r => some (.next (f s r, W64 (i + 1)))) else some (.done (s, i)))
  {N : Nat} (hN : l.length < N) (hL : l.length < 9223372036854775808) (s0 : σ) : iter body N (s0, 0) = some (.done (l.foldl (fun s x => f s (gs x)) s0, (l.length : Int))) := by
 obtain ⟨o, ho, rfl⟩ := iter_ex (body := body) l.length (fun i s => s = ((l.take i).foldl (fun s x => f s (gs x)) s0, (i : Int))) (fun o => o = .done (l.foldl (fun s x => f s (gs x)) s0, (l.length : Int))) (by
  rintro i s hi rfl
  by_cases h : i < l.length
  ·refine .inl ⟨(f ((l.take i).foldl (fun s x => f s (gs x)) s0) (gs l[i]), ((i + 1 : Nat) : Int)), ?_, ?_, h⟩
   ·rw [hb, lt_t h, cond_true, idx_nat h, Option.bind_some, hg _ (List.getElem_mem h), Option.bind_some, W64_succ (by omega)]
   ·rw [List.take_succ_eq_append_getElem h, List.foldl_append]; rfl
  ·have : i = l.length := by omega
   subst this
   refine .inr ⟨_, ?_, ?_, rfl⟩
   ·rw [hb, lt_f, cond_false, List.take_length]
   ·intro s' h; cases h) l.length N 0 (s0, 0) (by omega) (by simp) hN
 exact ho
theorem iter_first (l : List α) (p : α → Bool) (ret : Nat → ρ) {body : Int → Option (Flow ρ Int)}
  (hb : ∀ (i : Nat) (h : i < l.length), body (i : Int) = bif p l[i] then some (.ret (ret i)) else some (.next (W64 ((i : Int) + 1)))) (he : body (l.length : Int) = some (.done (l.length : Int)))
  {N : Nat} (hN : l.length < N) (hL : l.length < 9223372036854775808) :
  iter body N 0 = some (bif l.any p then .ret (ret (l.findIdx p)) else .done (l.length : Int)) := by
 obtain ⟨o, ho, rfl⟩ := iter_ex (body := body) l.length (fun i s => s = (i : Int) ∧ ∀ k (h : k < l.length), k < i → p l[k] = false) (fun o => o = bif l.any p then .ret (ret (l.findIdx p)) else .done (l.length : Int)) (by
  rintro i s hi ⟨rfl, hk⟩
  by_cases h : i < l.length
  ·cases e : p l[i] with
   | false =>
    refine .inl ⟨_, by rw [hb i h, e, cond_false, W64_succ (by omega)], ⟨rfl, fun k hk' hki => ?_⟩, h⟩
    by_cases hki' : k = i
    ·subst hki'; exact e
    ·exact hk k hk' (by omega)
   | true =>
    refine .inr ⟨_, by rw [hb i h, e, cond_true], fun _ h => (by cases h), ?_⟩
    have h1 : l.any p = true := List.any_eq_true.2 ⟨_, List.getElem_mem h, e⟩
    have h2 : l.findIdx p = i := by
     rw [List.findIdx_eq h]
     exact ⟨e, fun k hk' => hk k (by omega) hk'⟩
    rw [h1, cond_true, h2]
  ·have : i = l.length := by omega
   subst this
   refine .inr ⟨_, he, fun _ h => (by cases h), ?_⟩
   have h1 : l.any p = false := by
    rw [List.any_eq_false]
    intro x hx
    obtain ⟨k, hk', rfl⟩ := List.getElem_of_mem hx
    rw [hk k hk' hk']; simp
   rw [h1, cond_false]) l.length N 0 0 (by omega) ⟨rfl, fun k h hk => by omega⟩ hN
 exact ho
end
def nd (e : Expr) : Int := match e with
 | ⟨_, _, ks⟩ => ks.foldl (fun s x => W64 (s + nd x)) 1
def dp (e : Expr) : Int := match e with
 | ⟨_, _, ks⟩ => W64 (ks.foldl (fun s x => max s (dp x)) 0 + 1)
theorem nd_eq (e : Expr) : nd e = e.Kids.foldl (fun s x => W64 (s + nd x)) 1 := by
 cases e; rw [nd]
theorem dp_eq (e : Expr) : dp e = W64 (e.Kids.foldl (fun s x => max s (dp x)) 0 + 1) := by
 cases e; rw [dp]
section
variable {M : Nat}
theorem k_Nodes : ∀ {n k : Nat} {e : Expr}, Ht M n e → n ≤ k → (rec92 M k).q92 e = some (nd e)
 | 0, _, _, h, _ => h.elim
 | n + 1, 0, _, _, h => absurd h (by omega)
 | n + 1, k + 1, e, ⟨h1, h2, h3⟩, hk => by
  show ref06_Nodes_S M (rec92 M k).q92 e = _
  unfold ref06_Nodes_S
  rw [iter_fold e.Kids (rec92 M k).q92 nd (fun s r => W64 (s + r)) (fun x hx => k_Nodes (h3 x hx) (by omega)) (fun _ _ => rfl) h1 h2 1, nd_eq]
  rfl
theorem k_Depth : ∀ {n k : Nat} {e : Expr}, Ht M n e → n ≤ k → (rec32 M k).q32 e = some (dp e)
 | 0, _, _, h, _ => h.elim
 | n + 1, 0, _, _, h => absurd h (by omega)
 | n + 1, k + 1, e, ⟨h1, h2, h3⟩, hk => by
  show rules_Depth_S M (rec32 M k).q32 e = _
  unfold rules_Depth_S
  rw [iter_fold e.Kids (rec32 M k).q32 dp (fun s r => max s r) (fun x hx => k_Depth (h3 x hx) (by omega)) (fun _ _ => rfl) h1 h2 0, dp_eq]
  rfl
end
def kf (op : Int) : Option (Int × Int × List Int) :=
 if op = 1 then some (1000000, 1, []) else if op = 2 then some (13, 1, []) else if op = 3 then some (0, 2, [2]) else if op = 4 ∨ op = 5 then some (0, 2, [2, 2])
 else if op = 6 ∨ op = 7 then some (0, 2, [1, 1]) else if op = 8 ∨ op = 9 ∨ op = 10 then some (0, 1, [1, 1]) else if op = 11 then some (0, 1, [2, 1, 1]) else none
def kdOf (op v : Int) (m : List Int) : Int := match kf op with
 | none => 0
 | some (most, own, l) => if 0 ≤ v ∧ v ≤ most ∧ m = l then own else 0
def kd (e : Expr) : Int := match e with
 | ⟨op, v, ks⟩ => kdOf op v (ks.map fun x => kd x)
theorem kd_eq (e : Expr) : kd e = match kf e.Op with
  | none => 0
  | some (most, own, l) => if 0 ≤ e.Value ∧ e.Value ≤ most ∧ e.Kids.map kd = l then own else 0 := by
 cases e; rw [kd]; rfl
theorem m_formOf (N : Nat) (op : Int) : rules_formOf N op = some (match kf op with | none => ({ most_ := 0, own_ := 0, kids_ := [] }, false) | some (m, o, l) => ({ most_ := m, own_ := o, kids_ := l }, true)) := by
 unfold rules_formOf kf
 by_cases h1 : op = 1
 ·subst h1; rfl
 by_cases h2 : op = 2
 ·subst h2; rfl
 by_cases h3 : op = 3
 ·subst h3; rfl
 by_cases h4 : op = 4
 ·subst h4; rfl
 by_cases h5 : op = 5
 ·subst h5; rfl
 by_cases h6 : op = 6
 ·subst h6; rfl
 by_cases h7 : op = 7
 ·subst h7; rfl
 by_cases h8 : op = 8
 ·subst h8; rfl
 by_cases h9 : op = 9
 ·subst h9; rfl
 by_cases h10 : op = 10
 ·subst h10; rfl
 by_cases h11 : op = 11
 ·subst h11; rfl
 have b : ∀ z : Int, op ≠ z → (op == z) = false := fun z hz => by simpa using hz
 simp only [b _ h1, b _ h2, b _ h3, b _ h4, b _ h5, b _ h6, b _ h7, b _ h8, b _ h9, b _ h10, b _ h11, cond_false, if_neg h1, if_neg h2, if_neg h3, h4, h5, h6, h7, h8, h9, h10, h11, or_self, if_false]
theorem map_eq_any {α : Type} {l : List α} {f : α → Int} {m : List Int} (hl : l.length = m.length) : ((List.range l.length).any fun i => decide ((l.map f)[i]? ≠ m[i]?)) = decide (l.map f ≠ m) := by
 rw [Bool.eq_iff_iff]
 simp only [List.any_eq_true, List.mem_range, decide_eq_true_eq]
 constructor
 ·rintro ⟨i, _, h⟩ e; exact h (by rw [e])
 ·intro h
  apply Classical.byContradiction
  intro hn
  apply h
  apply List.ext_getElem?
  intro i
  by_cases hi : i < l.length
  ·exact Classical.byContradiction fun hne => hn ⟨i, hi, hne⟩
  ·rw [List.getElem?_eq_none (by simp; omega), List.getElem?_eq_none (by omega)]
section
variable {M : Nat}
theorem k_kindOf : ∀ {n k : Nat} {e : Expr}, Ht M n e → n ≤ k → (rec113 M k).q113 e = some (kd e)
 | 0, _, _, h, _ => h.elim
 | n + 1, 0, _, _, h => absurd h (by omega)
 | n + 1, k + 1, e, ⟨h1, h2, h3⟩, hk => by
  show rules_kindOf_S M (rec113 M k).q113 e = _
  unfold rules_kindOf_S
  rw [m_formOf, Option.bind_some, kd_eq]
  cases hf : kf e.Op with
  | none => simp only [Bool.not_false, Bool.true_or, cond_true]
  | some x =>
   obtain ⟨m, o, l⟩ := x
   simp only [Bool.not_true, Bool.false_or]
   by_cases hv : 0 ≤ e.Value ∧ e.Value ≤ m ∧ e.Kids.length = l.length
   ·obtain ⟨v1, v2, v3⟩ := hv
    have e1 : (decide (e.Value < 0) || (decide (e.Value > m) || (((e.Kids.length : Int)) != ((l.length : Int))))) = false := by
     simp; exact ⟨by omega, by omega, by omega⟩
    rw [e1, cond_false]
    have hit := iter_first (List.range e.Kids.length) (fun i => decide ((e.Kids.map kd)[i]? ≠ l[i]?)) (fun _ => (0 : Int)) (body := rules_kindOf_L0 M (rec113 M k).q113 e ({ most_ := m, own_ := o, kids_ := l }, true)) (N := M)
     (by
      intro i hi
      simp only [List.length_range] at hi
      unfold rules_kindOf_L0
      rw [lt_t hi, cond_true, idx_nat hi, Option.bind_some]
      simp only
      rw [idx_nat (show i < l.length by omega), Option.bind_some, k_kindOf (h3 _ (List.getElem_mem hi)) (by omega)]
      simp only [Option.bind_some, List.getElem_range]
      congr 1
      rw [List.getElem?_map, List.getElem?_eq_getElem hi, List.getElem?_eq_getElem (show i < l.length by omega)]
      simp [bne, BEq.beq])
     (by
      unfold rules_kindOf_L0
      rw [List.length_range, lt_f, cond_false]) (by rw [List.length_range]; exact h1) (by rw [List.length_range]; exact h2)
    rw [hit, map_eq_any v3]
    by_cases hm : e.Kids.map kd = l
    ·simp [hm, v1, v2, Flow.k]
    ·simp [hm, Flow.k]
   ·have e1 : (decide (e.Value < 0) || (decide (e.Value > m) || (((e.Kids.length : Int)) != ((l.length : Int))))) = true := by
     simp; omega
    rw [e1, cond_true, if_neg]
    rintro ⟨a, b, c⟩
    exact hv ⟨a, b, by rw [← c, List.length_map]⟩
end
end Go.Proofs.YtaihlcdkcampbaaGreatDoor
namespace Go.Proofs.YtaihlcdkcampbaaGreatDoor
open Go.Proofs
def slices_EqualFunc_api_Expr_api_Expr_api_Expr_api_Expr_L0 (N : Nat) (x0 : (List Expr)) (x1 : (List Expr)) (x2 : (Expr → Expr → Option Bool)) : Int → Option (Flow Bool Int) := fun s27 =>
 (bif (decide (s27 < (x0.length : Int))) then ((idx x0 s27).bind fun x51 => ((idx x1 s27).bind fun x70 => ((x2 x51 x70).bind fun r89 => (bif (!r89) then some (.ret false) else some (.next (W64 (s27 + 1))))))) else some (.done s27))
def slices_EqualFunc_api_Expr_api_Expr_api_Expr_api_Expr (N : Nat) (x0 : (List Expr)) (x1 : (List Expr)) (x2 : (Expr → Expr → Option Bool)) : Option Bool :=
 (bif ((x0.length : Int) != (x1.length : Int)) then some false else ((iter (slices_EqualFunc_api_Expr_api_Expr_api_Expr_api_Expr_L0 N x0 x1 x2) N 0).bind fun o => o.k (fun r => some r) (fun s37 => some true)))
theorem co_slices_EqualFunc_api_Expr_api_Expr_api_Expr_api_Expr : CallOk Tryz.prog 214 := fun _ _ => by kernel_rfl
theorem c_slices_EqualFunc_api_Expr_api_Expr_api_Expr_api_Expr (N : Nat) (w0 : World) (F0 : Mem) (hF : ∀ b o, F0 b = some o → w0.heap[b]? = some o) (x0 : (List Expr)) (a0_0 : Option Addr) (n0_0 : Nat) (hb0_0 : LC x0.length n0_0) (hs0_0 : SlA tExpr F0 a0_0 x0) (x1 : (List Expr)) (a1_0 : Option Addr) (n1_0 : Nat) (hb1_0 : LC x1.length n1_0) (hs1_0 : SlA tExpr F0 a1_0 x1) (gx2 : FuncId) (fx2 kx2 : List Value) (x2 : Expr → Expr → Option Bool) (hox2 : CallOk Tryz.prog gx2) (hpx2 : Fn36 F0 gx2 fx2 kx2 x2) (r : Bool) (h : slices_EqualFunc_api_Expr_api_Expr_api_Expr_api_Expr N x0 x1 x2 = some r) :
  Calls Tryz.prog 214 ([(.slice a0_0 x0.length n0_0), (.slice a1_0 x1.length n1_0), (.func (.func gx2) fx2.toArray kx2.toArray)] : List Value).toArray w0 (FRet w0 F0 fun F' v => v = (.bool r)) := by
 have hs0 := HS.start hF
 refine Go 32 Tryz.func214 ?_
 refine Sq (Rg [0] ?_)
 refine Vs 1 ?_
 refine Nss ?_
 refine Sq (Rg [0, 1, 2, 3, 4] ?_)
 refine Vs 5 ?_
 refine Nt ?_
 refine Cd h (fun hb21 h22 => ?_) (fun hb21 h23 => ?_)
 ·refine Sq (Rg [0] ?_)
  refine Vs 1 ?_
  refine Nt ?_
  refine Rt ?_
  refine thenQ_ret ?_
  obtain rfl := some_inj h22
  exact Re [(.bool false)] hs0 rfl
 ·refine Sc ?_
  refine thenQ_nrm ?_
  refine Sq ?_
  refine Sq (Rg [0, 1, 2] ?_)
  refine Vs 3 ?_
  refine Nt ?_
  obtain ⟨o24, ho25, h26⟩ := bind_some h23
  refine CWP.cut (fun f w => ∃ (s37 : Int) (F2 : Mem), o24 = .done s37 ∧ HS w0 F0 w F2 [] ∧ Mem.le F0 F2 ∧ FI f [] []) ?_ ?_
  ·refine Bk ?_
   refine CWP.loop (by kernel_rfl) (fun m f w => ∃ (s27 : Int) (F1 : Mem), iter (slices_EqualFunc_api_Expr_api_Expr_api_Expr_api_Expr_L0 N x0 x1 x2) m s27 = some o24 ∧ HS w0 F0 w F1 [] ∧ Mem.le F0 F1 ∧ FI f [] [(1, (.slice a1_0 x1.length n1_0)), (2, (.func (.func gx2) fx2.toArray kx2.toArray)), (15, (.slice a0_0 x0.length n0_0)), (16, (vi (x0.length : Int))), (17, (vi s27))]) N ⟨0, F0, ho25, hs0, (Mem.le.refl _), fI⟩ ?_
   rintro m42 f w28 ⟨s27, F1, hit43, hs29, le30, ⟨_, rfl⟩⟩
   obtain ⟨m44, fl45, rfl, hb46, hnx47⟩ := iter_step hit43
   refine Sq (Rg [0] ?_)
   refine Vs 1 ?_
   refine Nss ?_
   refine Cd hb46 (fun hb48 h49 => ?_) (fun hb48 h50 => ?_)
   ·refine Sc ?_
    refine thenQ_nrm ?_
    refine Sq ?_
    refine Bk ?_
    refine Sq (Rg [0, 1, 2, 3, 4, 5] ?_)
    refine Vs 1 ?_
    obtain ⟨x51, hx52, h54⟩ := bind_some h49
    obtain ⟨hi53, hx52'⟩ := idx_spec hx52
    obtain ⟨b55, o56, C57, E58, fz59, rfl, hF61, hE62⟩ := SlA.open (SlA.mono hs0_0 le30) hx52'
    obtain ⟨ae63_2, ne63_2, hc64, hbe63_2, hse63_2⟩ := (tExpr_open (hE62 _ _ hx52'))
    refine Ix hi53 ?_
    refine Lx 0 (hs29.pers _ _ hF61) hc64 ?_
    refine Al' 33 #[(vi 0), (vi 0), (.slice none ([] : List Expr).length 0)] hs29 (fun b65 w66 hs67 => ?_)
    refine Vs 1 ?_
    refine St0 (kExpr x51 ae63_2 ne63_2) hs67 (fun w68 hs69 => ?_)
    refine Nss (Rg [0, 1, 2, 3, 4, 5] ?_)
    refine Vs 2 ?_
    obtain ⟨x70, hx71, h73⟩ := bind_some h54
    obtain ⟨hi72, hx71'⟩ := idx_spec hx71
    obtain ⟨b74, o75, C76, E77, fz78, rfl, hF80, hE81⟩ := SlA.open (SlA.mono hs1_0 le30) hx71'
    obtain ⟨ae82_2, ne82_2, hc83, hbe82_2, hse82_2⟩ := (tExpr_open (hE81 _ _ hx71'))
    refine Ix hi72 ?_
    refine Lx 0 (hs69.pers _ _ hF80) hc83 ?_
    refine Al' 33 #[(vi 0), (vi 0), (.slice none ([] : List Expr).length 0)] hs69 (fun b84 w85 hs86 => ?_)
    refine St0 (kExpr x70 ae82_2 ne82_2) hs86 (fun w87 hs88 => ?_)
    refine Nss (Rg [0, 1, 2, 3, 4] ?_)
    refine Vs 1 ?_
    refine Ld hs88.at1 ?_
    refine Ld hs88.at0 ?_
    obtain ⟨r89, hr90, h91⟩ := bind_some h73
    refine Cq hox2 hs88 (hpx2 w87 F1 (x51) ae63_2 ne63_2 hbe63_2 hse63_2 (x70) ae82_2 ne82_2 hbe82_2 hse82_2 _ le30 hs88.pers hr90) ?_
    rintro _ F3 w93 hs94 le95 rfl
    refine Vs 1 ?_
    refine Nt ?_
    refine Cd h91 (fun hb97 h98 => ?_) (fun hb97 h99 => ?_)
    ·refine Sq (Rg [0] ?_)
     refine Vs 1 ?_
     refine Nt ?_
     refine Rt ?_
     refine blockQ_ret ?_
     refine thenQ_ret ?_
     refine thenQ_ret ?_
     refine blockQ_ret ?_
     have hret := iter_ret h98 hnx47
     subst hret
     refine .inr ?_
     refine thenQ_ret ?_
     obtain rfl := some_inj h26
     exact Re [(.bool false)] hs94 rfl
    ·refine Sc ?_
     refine blockQ_nrm ?_
     refine thenQ_nrm ?_
     refine Rg [0, 1] ?_
     refine Vs 2 ?_
     refine RWP.nil ?_
     have hn100 := iter_next h99 hnx47
     exact ⟨m44, Nat.lt_succ_self _, (W64 (s27 + 1)), F3, hn100, hs94.dr0.dr0, (le30.trans le95), fI⟩
   ·refine Ex ?_
    refine thenQ_ex ?_
    refine thenQ_ex ?_
    refine blockQ_hit rfl ?_
    have ho101 := iter_done h50 hnx47
    exact .inl ⟨rfl, s27, F1, ho101, hs29, le30, fI⟩
  ·rintro f w38 ⟨s37, F2, rfl, hs39, le40, ⟨_, rfl⟩⟩
   have h102 := k_done h26
   refine thenQ_nrm ?_
   refine Sq (Rg [0] ?_)
   refine Vs 1 ?_
   refine Nt ?_
   refine Rt ?_
   obtain rfl := some_inj h102
   exact Re [(.bool true)] hs39 rfl
end Go.Proofs.YtaihlcdkcampbaaGreatDoor
namespace Go.Proofs.YtaihlcdkcampbaaGreatDoor
open Go.Proofs
def Self189 (sR189 : Expr → Expr → Option Bool) : Prop := ∀ (w0 : World) (F0 : Mem) (hF : ∀ b o, F0 b = some o → w0.heap[b]? = some o) (x0 : Expr) (a0_2 : Option Addr) (n0_2 : Nat) (hb0_2 : LC x0.Kids.length n0_2) (hs0_2 : SlA tExpr F0 a0_2 x0.Kids) (x1 : Expr) (a1_2 : Option Addr) (n1_2 : Nat) (hb1_2 : LC x1.Kids.length n1_2) (hs1_2 : SlA tExpr F0 a1_2 x1.Kids) (r : Bool), sR189 x0 x1 = some r → Calls Tryz.prog 189 ([(.agg #[(.int .i64 x0.Op), (.int .i64 x0.Value), (.slice a0_2 x0.Kids.length n0_2)]), (.agg #[(.int .i64 x1.Op), (.int .i64 x1.Value), (.slice a1_2 x1.Kids.length n1_2)])] : List Value).toArray w0 (FRet w0 F0 fun F' v => v = (.bool r))
theorem co_rules_same : CallOk Tryz.prog 189 := fun _ _ => by kernel_rfl
end Go.Proofs.YtaihlcdkcampbaaGreatDoor
namespace Go.Proofs.YtaihlcdkcampbaaGreatDoor
open Go.Proofs
def rules_same_S (N : Nat) (sR189 : Expr → Expr → Option Bool) (x0 : Expr) (x1 : Expr) : Option Bool :=
 ((bif (x0.Op == x1.Op) then (bif (x0.Value == x1.Value) then ((slices_EqualFunc_api_Expr_api_Expr_api_Expr_api_Expr N x0.Kids x1.Kids (fun y0 y1 => sR189 y0 y1)).bind fun r41 => some r41) else some false) else some false).bind fun j30 => some j30)
theorem cS_rules_same (N : Nat) (sR189 : Expr → Expr → Option Bool) (hsR189 : Self189 sR189) (w0 : World) (F0 : Mem) (hF : ∀ b o, F0 b = some o → w0.heap[b]? = some o) (x0 : Expr) (a0_2 : Option Addr) (n0_2 : Nat) (hb0_2 : LC x0.Kids.length n0_2) (hs0_2 : SlA tExpr F0 a0_2 x0.Kids) (x1 : Expr) (a1_2 : Option Addr) (n1_2 : Nat) (hb1_2 : LC x1.Kids.length n1_2) (hs1_2 : SlA tExpr F0 a1_2 x1.Kids) (r : Bool) (h : rules_same_S N sR189 x0 x1 = some r) :
  Calls Tryz.prog 189 ([(.agg (kExpr x0 a0_2 n0_2)), (.agg (kExpr x1 a1_2 n1_2))] : List Value).toArray w0 (FRet w0 F0 fun F' v => v = (.bool r)) := by
 have hs0 := HS.start hF
 refine Go 24 Tryz.func189 ?_
 refine Sq (Rg [0, 1, 2] ?_)
 refine Bx' 33 (kExpr x0 a0_2 n0_2) hs0 (fun b21 w22 hs23 => ?_)
 refine Bx' 33 (kExpr x1 a1_2 n1_2) hs23 (fun b24 w25 hs26 => ?_)
 refine Vs 1 ?_
 refine Nss (Rg [0, 1, 2, 3, 4, 5, 6, 7, 8, 9, 10, 11, 12, 13, 14, 15, 16, 17, 18, 19] ?_)
 obtain ⟨j30, hj33, h34⟩ := bind_some h
 refine RWP.cut (fun f w => ∃ (F1 : Mem), HS w0 F0 w F1 [] ∧ Mem.le F0 F1 ∧ FI f [] [(4, (.bool j30))]) ?_ ?_
 ·refine Vs 1 ?_
  refine Ld hs26.at1 ?_
  refine Vs 1 ?_
  refine Ld hs26.at0 ?_
  refine Vs 2 ?_
  refine Sp hj33 (fun hb35 h36 => ?_) (fun hb35 h37 => ?_)
  ·refine Vgs hb35 1 ?_
   refine Lg hb35 hs26.at1 ?_
   refine Vgs hb35 1 ?_
   refine Lg hb35 hs26.at0 ?_
   refine Vgs hb35 1 ?_
   refine Pk1 hb35 ?_
   refine Vs 1 ?_
   refine Sp h36 (fun hb38 h39 => ?_) (fun hb38 h40 => ?_)
   ·refine Vgs hb38 1 ?_
    refine Lg hb38 hs26.at1 ?_
    refine Vgs hb38 1 ?_
    refine Lg hb38 hs26.at0 ?_
    obtain ⟨r41, hr42, h43⟩ := bind_some h39
    refine Cg hb38 co_slices_EqualFunc_api_Expr_api_Expr_api_Expr_api_Expr hs26 (c_slices_EqualFunc_api_Expr_api_Expr_api_Expr_api_Expr N w25 F0 hs26.pers (x0.Kids) a0_2 n0_2 hb0_2 hs0_2 (x1.Kids) a1_2 n1_2 hb1_2 hs1_2 189 [] [] (fun y0 y1 => sR189 y0 y1) co_rules_same (fun w1 F1 y0 ay0_2 ny0_2 hby0_2 hsy0_2 y1 ay1_2 ny1_2 hby1_2 hsy1_2 r le1 pe1 hr1 => hsR189 w1 F1 pe1  y0 ay0_2 ny0_2 hby0_2 hsy0_2 y1 ay1_2 ny1_2 hby1_2 hsy1_2  r hr1) _ hr42) ?_
    rintro _ F2 w45 hs46 le47 rfl
    refine Pk1 hb38 ?_
    refine Vs 1 ?_
    obtain rfl := some_inj h43
    exact RWP.nil ⟨rfl, F2, hs46.dr0.dr0, le47, fI⟩
   ·refine Ss hb38 5 ?_
    refine Pk0 hb38 ?_
    refine Vs 1 ?_
    obtain rfl := some_inj h40
    exact RWP.nil ⟨rfl, F0, hs26.dr0.dr0, (Mem.le.refl _), fI⟩
  ·refine Ss hb35 5 ?_
   refine Pk0 hb35 ?_
   refine Vs 1 ?_
   refine Ss (rfl : false = false) 5 ?_
   refine Pk0 (rfl : false = false) ?_
   refine Vs 1 ?_
   obtain rfl := some_inj h37
   exact RWP.nil ⟨rfl, F0, hs26.dr0.dr0, (Mem.le.refl _), fI⟩
 ·rintro f w27 ⟨F1, hs28, le29, ⟨_, rfl⟩⟩
  refine thenQ_nrm ?_
  refine Rt ?_
  obtain rfl := some_inj h34
  exact Re [(.bool j30)] hs28 rfl
end Go.Proofs.YtaihlcdkcampbaaGreatDoor
namespace Go.Proofs.YtaihlcdkcampbaaGreatDoor
open Go.Proofs
structure Rec189 where
 q189 : Expr → Expr → Option Bool
def rec189 (N : Nat) : Nat → Rec189
 | 0 => ⟨fun _ _ => none⟩
 | k + 1 => ⟨rules_same_S N (rec189 N k).q189⟩
theorem rec189_ok (N : Nat) : ∀ k, Self189 (rec189 N k).q189
 | 0 => (by unfold Self189; intros; rename_i h; cases h)
 | k + 1 => by
  have ih := rec189_ok N k
  exact @cS_rules_same N (rec189 N k).q189 ih
def rules_same (N : Nat) (x0 : Expr) (x1 : Expr) : Option Bool := (rec189 N N).q189 x0 x1
theorem c_rules_same (N : Nat) (w0 : World) (F0 : Mem) (hF : ∀ b o, F0 b = some o → w0.heap[b]? = some o) (x0 : Expr) (a0_2 : Option Addr) (n0_2 : Nat) (hb0_2 : LC x0.Kids.length n0_2) (hs0_2 : SlA tExpr F0 a0_2 x0.Kids) (x1 : Expr) (a1_2 : Option Addr) (n1_2 : Nat) (hb1_2 : LC x1.Kids.length n1_2) (hs1_2 : SlA tExpr F0 a1_2 x1.Kids) (r : Bool) (h : rules_same N x0 x1 = some r) :
  Calls Tryz.prog 189 ([(.agg #[(.int .i64 x0.Op), (.int .i64 x0.Value), (.slice a0_2 x0.Kids.length n0_2)]), (.agg #[(.int .i64 x1.Op), (.int .i64 x1.Value), (.slice a1_2 x1.Kids.length n1_2)])] : List Value).toArray w0 (FRet w0 F0 fun F' v => v = (.bool r)) := (rec189_ok N N) w0 F0 hF x0 a0_2 n0_2 hb0_2 hs0_2 x1 a1_2 n1_2 hb1_2 hs1_2 r h
end Go.Proofs.YtaihlcdkcampbaaGreatDoor
namespace Go.Proofs.YtaihlcdkcampbaaGreatDoor
open Go.Proofs
def rules_sound (N : Nat) (x0 : Expr) : Option Bool :=
 (((rules_kindOf N x0).bind fun r32 => (bif (r32 != 0) then ((rules_Depth N x0).bind fun r43 => some (decide (r43 ≤ 32))) else some false)).bind fun j27 => some j27)
theorem co_rules_sound : CallOk Tryz.prog 93 := fun _ _ => by kernel_rfl
theorem c_rules_sound (N : Nat) (w0 : World) (F0 : Mem) (hF : ∀ b o, F0 b = some o → w0.heap[b]? = some o) (x0 : Expr) (a0_2 : Option Addr) (n0_2 : Nat) (hb0_2 : LC x0.Kids.length n0_2) (hs0_2 : SlA tExpr F0 a0_2 x0.Kids) (r : Bool) (h : rules_sound N x0 = some r) :
  Calls Tryz.prog 93 ([(.agg (kExpr x0 a0_2 n0_2))] : List Value).toArray w0 (FRet w0 F0 fun F' v => v = (.bool r)) := by
 have hs0 := HS.start hF
 refine Go 11 Tryz.func93 ?_
 refine Sq (Rg [0, 1] ?_)
 refine Bx' 33 (kExpr x0 a0_2 n0_2) hs0 (fun b21 w22 hs23 => ?_)
 refine Vs 1 ?_
 refine Nss (Rg [0, 1, 2, 3, 4, 5, 6, 7, 8] ?_)
 obtain ⟨j27, hj30, h31⟩ := bind_some h
 refine RWP.cut (fun f w => ∃ (F1 : Mem), HS w0 F0 w F1 [] ∧ Mem.le F0 F1 ∧ FI f [] [(2, (.bool j27))]) ?_ ?_
 ·refine Ld hs23.at0 ?_
  obtain ⟨r32, hr33, h34⟩ := bind_some hj30
  refine Cl' co_rules_kindOf hs23 (c_rules_kindOf N w22 F0 hs23.pers (x0) a0_2 n0_2 hb0_2 hs0_2 _ hr33) ?_
  rintro _ F2 w36 hs37 le38 rfl
  refine Vs 2 ?_
  refine Sp h34 (fun hb40 h41 => ?_) (fun hb40 h42 => ?_)
  ·refine Lg hb40 hs37.at0 ?_
   obtain ⟨r43, hr44, h45⟩ := bind_some h41
   refine Cg hb40 co_rules_Depth hs37 (c_rules_Depth N w36 F2 hs37.pers (x0) a0_2 n0_2 hb0_2 (SlA.mono hs0_2 le38) _ hr44) ?_
   rintro _ F3 w47 hs48 le49 rfl
   refine Vgs hb40 1 ?_
   refine Pk1 hb40 ?_
   refine Vs 1 ?_
   obtain rfl := some_inj h45
   exact RWP.nil ⟨rfl, F3, hs48.dr0, (le38.trans le49), fI⟩
  ·refine Ss hb40 3 ?_
   refine Pk0 hb40 ?_
   refine Vs 1 ?_
   obtain rfl := some_inj h42
   exact RWP.nil ⟨rfl, F2, hs37.dr0, le38, fI⟩
 ·rintro f w24 ⟨F1, hs25, le26, ⟨_, rfl⟩⟩
  refine thenQ_nrm ?_
  refine Rt ?_
  obtain rfl := some_inj h31
  exact Re [(.bool j27)] hs25 rfl
end Go.Proofs.YtaihlcdkcampbaaGreatDoor
namespace Go.Proofs.YtaihlcdkcampbaaGreatDoor
open Go.Proofs
end Go.Proofs.YtaihlcdkcampbaaGreatDoor
namespace Go.Proofs.YtaihlcdkcampbaaGreatDoor
open Go.Proofs
def rules_is (N : Nat) (x0 : Expr) (x1 : Int) : Option Bool :=
 (((rules_sound N x0).bind fun r32 => (bif r32 then ((rules_kindOf N x0).bind fun r43 => some (r43 == x1)) else some false)).bind fun j27 => some j27)
theorem co_rules_is : CallOk Tryz.prog 124 := fun _ _ => by kernel_rfl
theorem c_rules_is (N : Nat) (w0 : World) (F0 : Mem) (hF : ∀ b o, F0 b = some o → w0.heap[b]? = some o) (x0 : Expr) (a0_2 : Option Addr) (n0_2 : Nat) (hb0_2 : LC x0.Kids.length n0_2) (hs0_2 : SlA tExpr F0 a0_2 x0.Kids) (x1 : Int) (r : Bool) (h : rules_is N x0 x1 = some r) :
  Calls Tryz.prog 124 ([(.agg (kExpr x0 a0_2 n0_2)), (vi x1)] : List Value).toArray w0 (FRet w0 F0 fun F' v => v = (.bool r)) := by
 have hs0 := HS.start hF
 refine Go 13 Tryz.func124 ?_
 refine Sq (Rg [0, 1] ?_)
 refine Bx' 33 (kExpr x0 a0_2 n0_2) hs0 (fun b21 w22 hs23 => ?_)
 refine Vs 1 ?_
 refine Nss (Rg [0, 1, 2, 3, 4, 5, 6, 7, 8] ?_)
 obtain ⟨j27, hj30, h31⟩ := bind_some h
 refine RWP.cut (fun f w => ∃ (F1 : Mem), HS w0 F0 w F1 [] ∧ Mem.le F0 F1 ∧ FI f [] [(4, (.bool j27))]) ?_ ?_
 ·refine Ld hs23.at0 ?_
  obtain ⟨r32, hr33, h34⟩ := bind_some hj30
  refine Cl' co_rules_sound hs23 (c_rules_sound N w22 F0 hs23.pers (x0) a0_2 n0_2 hb0_2 hs0_2 _ hr33) ?_
  rintro _ F2 w36 hs37 le38 rfl
  refine Vs 1 ?_
  refine Sp h34 (fun hb40 h41 => ?_) (fun hb40 h42 => ?_)
  ·refine Lg hb40 hs37.at0 ?_
   obtain ⟨r43, hr44, h45⟩ := bind_some h41
   refine Cg hb40 co_rules_kindOf hs37 (c_rules_kindOf N w36 F2 hs37.pers (x0) a0_2 n0_2 hb0_2 (SlA.mono hs0_2 le38) _ hr44) ?_
   rintro _ F3 w47 hs48 le49 rfl
   refine Vgs hb40 2 ?_
   refine Pk1 hb40 ?_
   refine Vs 1 ?_
   obtain rfl := some_inj h45
   exact RWP.nil ⟨rfl, F3, hs48.dr0, (le38.trans le49), fI⟩
  ·refine Ss hb40 4 ?_
   refine Pk0 hb40 ?_
   refine Vs 1 ?_
   obtain rfl := some_inj h42
   exact RWP.nil ⟨rfl, F2, hs37.dr0, le38, fI⟩
 ·rintro f w24 ⟨F1, hs25, le26, ⟨_, rfl⟩⟩
  refine thenQ_nrm ?_
  refine Rt ?_
  obtain rfl := some_inj h31
  exact Re [(.bool j27)] hs25 rfl
end Go.Proofs.YtaihlcdkcampbaaGreatDoor
namespace Go.Proofs.YtaihlcdkcampbaaGreatDoor
open Go.Proofs
end Go.Proofs.YtaihlcdkcampbaaGreatDoor
namespace Go.Proofs.YtaihlcdkcampbaaGreatDoor
open Go.Proofs
def rules_soundClause (N : Nat) (x0 : Clause) : Option Bool :=
 (((rules_is N x0.When 2).bind fun r32 => (bif r32 then ((rules_is N x0.Then 1).bind fun r43 => some r43) else some false)).bind fun j27 => some j27)
theorem co_rules_soundClause : CallOk Tryz.prog 123 := fun _ _ => by kernel_rfl
theorem c_rules_soundClause (N : Nat) (w0 : World) (F0 : Mem) (hF : ∀ b o, F0 b = some o → w0.heap[b]? = some o) (x0 : Clause) (a0_2 : Option Addr) (n0_2 : Nat) (hb0_2 : LC x0.When.Kids.length n0_2) (hs0_2 : SlA tExpr F0 a0_2 x0.When.Kids) (a0_5 : Option Addr) (n0_5 : Nat) (hb0_5 : LC x0.Then.Kids.length n0_5) (hs0_5 : SlA tExpr F0 a0_5 x0.Then.Kids) (r : Bool) (h : rules_soundClause N x0 = some r) :
  Calls Tryz.prog 123 ([(.agg (kClause x0 a0_2 n0_2 a0_5 n0_5))] : List Value).toArray w0 (FRet w0 F0 fun F' v => v = (.bool r)) := by
 have hs0 := HS.start hF
 refine Go 11 Tryz.func123 ?_
 refine Sq (Rg [0, 1] ?_)
 refine Bx' 56 (kClause x0 a0_2 n0_2 a0_5 n0_5) hs0 (fun b21 w22 hs23 => ?_)
 refine Vs 1 ?_
 refine Nss (Rg [0, 1, 2, 3, 4, 5, 6, 7, 8] ?_)
 obtain ⟨j27, hj30, h31⟩ := bind_some h
 refine RWP.cut (fun f w => ∃ (F1 : Mem), HS w0 F0 w F1 [] ∧ Mem.le F0 F1 ∧ FI f [] [(2, (.bool j27))]) ?_ ?_
 ·refine Vs 1 ?_
  refine Ld hs23.at0 ?_
  obtain ⟨r32, hr33, h34⟩ := bind_some hj30
  refine Cl' co_rules_is hs23 (c_rules_is N w22 F0 hs23.pers (x0.When) a0_2 n0_2 hb0_2 hs0_2 (2) _ hr33) ?_
  rintro _ F2 w36 hs37 le38 rfl
  refine Vs 1 ?_
  refine Sp h34 (fun hb40 h41 => ?_) (fun hb40 h42 => ?_)
  ·refine Vgs hb40 1 ?_
   refine Lg hb40 hs37.at0 ?_
   obtain ⟨r43, hr44, h45⟩ := bind_some h41
   refine Cg hb40 co_rules_is hs37 (c_rules_is N w36 F2 hs37.pers (x0.Then) a0_5 n0_5 hb0_5 (SlA.mono hs0_5 le38) (1) _ hr44) ?_
   rintro _ F3 w47 hs48 le49 rfl
   refine Pk1 hb40 ?_
   refine Vs 1 ?_
   obtain rfl := some_inj h45
   exact RWP.nil ⟨rfl, F3, hs48.dr0, (le38.trans le49), fI⟩
  ·refine Ss hb40 3 ?_
   refine Pk0 hb40 ?_
   refine Vs 1 ?_
   obtain rfl := some_inj h42
   exact RWP.nil ⟨rfl, F2, hs37.dr0, le38, fI⟩
 ·rintro f w24 ⟨F1, hs25, le26, ⟨_, rfl⟩⟩
  refine thenQ_nrm ?_
  refine Rt ?_
  obtain rfl := some_inj h31
  exact Re [(.bool j27)] hs25 rfl
end Go.Proofs.YtaihlcdkcampbaaGreatDoor
namespace Go.Proofs.YtaihlcdkcampbaaGreatDoor
open Go.Proofs
end Go.Proofs.YtaihlcdkcampbaaGreatDoor
namespace Go.Proofs.YtaihlcdkcampbaaGreatDoor
section
variable {M : Nat}
end
end Go.Proofs.YtaihlcdkcampbaaGreatDoor
namespace Go.Proofs.YtaihlcdkcampbaaGreatDoor
open Go.Proofs
def law06_nodes (N : Nat) (x0 : Expr) : Option Int :=
 ((ref06_Nodes N x0).bind fun r24 => some r24)
theorem co_law06_nodes : CallOk Tryz.prog 28 := fun _ _ => by kernel_rfl
theorem c_law06_nodes (N : Nat) (w0 : World) (F0 : Mem) (hF : ∀ b o, F0 b = some o → w0.heap[b]? = some o) (x0 : Expr) (a0_2 : Option Addr) (n0_2 : Nat) (hb0_2 : LC x0.Kids.length n0_2) (hs0_2 : SlA tExpr F0 a0_2 x0.Kids) (r : Int) (h : law06_nodes N x0 = some r) :
  Calls Tryz.prog 28 ([(.agg (kExpr x0 a0_2 n0_2))] : List Value).toArray w0 (FRet w0 F0 fun F' v => v = (vi r)) := by
 have hs0 := HS.start hF
 refine Go 5 Tryz.func28 ?_
 refine Sq (Rg [0, 1] ?_)
 refine Bx' 33 (kExpr x0 a0_2 n0_2) hs0 (fun b21 w22 hs23 => ?_)
 refine Vs 1 ?_
 refine Nss (Rg [0, 1, 2] ?_)
 refine Ld hs23.at0 ?_
 obtain ⟨r24, hr25, h26⟩ := bind_some h
 refine Cl' co_ref06_Nodes hs23 (c_ref06_Nodes N w22 F0 hs23.pers (x0) a0_2 n0_2 hb0_2 hs0_2 _ hr25) ?_
 rintro _ F1 w28 hs29 le30 rfl
 refine Vs 1 ?_
 refine Nt ?_
 refine Rt ?_
 obtain rfl := some_inj h26
 exact Re [(vi r24)] hs29 rfl
end Go.Proofs.YtaihlcdkcampbaaGreatDoor
namespace Go.Proofs.YtaihlcdkcampbaaGreatDoor
section
variable {M : Nat}
end
def Fit (N : Nat) (e : Expr) : Prop := ∃ n, Ht N n e ∧ 2 * n + 10 ≤ N
section
variable {N : Nat} {e : Expr} (h : Fit N e)
include h
theorem s_Nodes : ref06_Nodes N e = some (nd e) := by obtain ⟨n, h1, h2⟩ := h; exact k_Nodes h1 (by omega)
theorem s_Depth : rules_Depth N e = some (dp e) := by obtain ⟨n, h1, h2⟩ := h; exact k_Depth h1 (by omega)
theorem s_kindOf : rules_kindOf N e = some (kd e) := by obtain ⟨n, h1, h2⟩ := h; exact k_kindOf h1 (by omega)
theorem s_nodes : law06_nodes N e = some (nd e) := by unfold law06_nodes; rw [s_Nodes h]; rfl
end
def snd0 (e : Expr) : Bool := decide (dp e ≤ 32) && decide (kd e ≠ 0)
section
variable {N : Nat} {e : Expr} (h : Fit N e)
include h
theorem s_sound : rules_sound N e = some (snd0 e) := by
 unfold rules_sound snd0
 rw [s_kindOf h, Option.bind_some]
 by_cases hk : kd e = 0
 ·simp [hk]
 ·rw [show (kd e != 0) = true by simpa using hk, cond_true, s_Depth h]; simp [hk]
end
def FitC (N : Nat) (c : Clause) : Prop := Fit N c.When ∧ Fit N c.Then
end Go.Proofs.YtaihlcdkcampbaaGreatDoor
namespace Go.Proofs.YtaihlcdkcampbaaGreatDoor
open Go.ChangeShapes Go.WideShapes Go.ChangeAt Go.RowKit
theorem slice_at {P : Program} {t e : TypeId} {α : Type} {T : Ty α} {Q : α → Prop} (hsz : P.cellsOf e = T.sz) (hpos : 0 < T.sz) (hu : P.underlying t = some (.slice e))
  {H : Type} {enc : TypeId × Value → H} {W : World} {fuel : Nat} {cs : List Value} {x : DataW H × List MemPlace}
  (he : ∀ n csi y, fuel = n + 1 → DataW.trod enc P W 0 (fun _ => true) true n e csi = some y → SzW P e y.1 → ∃ a, T.R (memOf W) csi a ∧ Q a)
  (h : DataW.trod enc P W 0 (fun _ => true) true fuel t cs = some x) (hw : SzW P t x.1) :
  ∃ l, (tSl T).R (memOf W) cs l ∧ (l.length < 9223372036854775808 ∧ l.length * P.bytesOf e ≤ reachBytes ∧ ∀ x, x ∈ l → Q x) := by
 rcases DataW.trod_slice hu h with ⟨h1, _⟩ | ⟨a, len, cap, elems, rest, n, hf, h1, hx, _, h2, h3, h4, h5, _, _⟩
 ·exact ⟨[], ⟨none, 0, h1, LC.nil (α := α), .inl rfl⟩, by simp, by simp, fun x hx => by cases hx⟩
 have hby : (elems.length + rest.length) * P.bytesOf e ≤ reachBytes := by
  have hw' := hw
  rw [hx] at hw'
  unfold SzW at hw'
  simp only [DataW.weights, hu, List.all_cons, Bool.and_eq_true, List.length_map, decide_eq_true_eq] at hw'
  exact hw'.1
 have h3' : cap ≤ 9223372036854775807 := h3
 have hcell : ∀ i, i < len → ∃ csi y, W.cells? 0 (a.add (i * T.sz)) T.sz = some csi ∧ DataW.trod enc P W 0 (fun _ => true) true n e csi = some y ∧ SzW P e y.1 := by
  intro i hi
  have hsz' : ∀ y, elems[i]? = some y → SzW P e y.1 := fun y hy => by
   rw [hx] at hw
   unfold SzW at hw ⊢
   simp only [DataW.weights, hu, List.all_cons, Bool.and_eq_true, List.all_append] at hw
   exact List.all_eq_true.2 fun m hm => List.all_eq_true.1 hw.2.1 m (weights_all (List.mem_map.2 ⟨y, List.mem_of_getElem? hy, rfl⟩) m hm)
  have := h5 i hi
  rw [hsz] at this
  have hlt : i < elems.length := by omega
  rw [List.getElem?_eq_getElem hlt] at this
  cases hc : W.cells? 0 (a.add (i * T.sz)) T.sz with
  | none => rw [hc] at this; cases this
  | some csi => rw [hc] at this; exact ⟨csi, _, rfl, this, hsz' _ (List.getElem?_eq_getElem hlt)⟩
 obtain ⟨l, hl, hR⟩ := choose_list (R := fun i (x : α) => ∃ csi, W.cells? 0 (a.add (i * T.sz)) T.sz = some csi ∧ T.R (memOf W) csi x ∧ Q x) (n := len) (fun i hi => by
  obtain ⟨csi, y, hc, ht, hsy⟩ := hcell i hi
  obtain ⟨z, hz, hq⟩ := he n csi y hf ht hsy
  exact ⟨z, csi, hc, hz, hq⟩)
 refine ⟨l, ⟨some a, cap, by rw [hl]; exact h1, ⟨by omega, by omega⟩, ?_⟩, by omega, Nat.le_trans (Nat.mul_le_mul_right _ (by omega)) hby, fun x hx => ?_⟩
 ·rcases Nat.eq_zero_or_pos len with h0 | hp
  ·exact .inl (List.length_eq_zero_iff.1 (by omega))
  ·right
   obtain ⟨csi, y, hc, _, _⟩ := hcell 0 hp
   obtain ⟨C, E, fz, hsp, hb, _⟩ := cells_at hc hpos
   have hb' : W.heap[a.block]? = some (.cells C E fz) := by rw [add_block] at hb; exact hb
   have hsp' : a.spot = none := by rw [Nat.zero_mul] at hsp; have e0 : a.add 0 = a := by { unfold Addr.add; simp }; rw [e0] at hsp; exact hsp
   refine ⟨a.block, a.off, C, E, fz, by obtain ⟨_, _, _⟩ := a; simp only at hsp'; subst hsp'; rfl, hb', fun i x hx => ?_⟩
   obtain ⟨csi, hc, hz, _⟩ := hR i x hx
   obtain ⟨C', E', fz', _, hb2, hcs⟩ := cells_at hc hpos
   have hb2' : W.heap[a.block]? = some (.cells C' E' fz') := by rw [add_block] at hb2; exact hb2
   rw [hb'] at hb2'
   cases hb2'
   rw [add_off] at hcs
   rw [hcs]; exact hz
 ·obtain ⟨i, hi, rfl⟩ := List.getElem_of_mem hx
  obtain ⟨_, _, _, hq⟩ := hR i _ (List.getElem?_eq_getElem hi)
  exact hq
def qExpr (x : Expr) : Prop := ∃ n, Ht 3518437208781 n x
theorem ht_list {M : Nat} : ∀ {l : List Expr}, (∀ x, x ∈ l → ∃ n, Ht M n x) → ∃ n, ∀ x, x ∈ l → Ht M n x
 | [], _ => ⟨0, fun x hx => by cases hx⟩
 | a :: l, h => by
  obtain ⟨n, hn⟩ := h a (List.mem_cons_self ..)
  obtain ⟨m, hm⟩ := ht_list fun x hx => h x (List.mem_cons_of_mem _ hx)
  refine ⟨max n m, fun x hx => ?_⟩
  rcases List.mem_cons.1 hx with rfl | hx
  ·exact hn.le (by omega)
  ·exact (hm x hx).le (by omega)
theorem fld {H : Type} {enc : TypeId × Value → H} {P : Program} {W : World} {fuel : Nat} {t e : TypeId} {cs : List Value} {x : DataW H × List MemPlace} {i off c : Nat} (hf : fieldAt P t i = some (e, off)) (hc : P.cellsOf e = c)
  (h : DataW.trod enc P W 0 (fun _ => true) true fuel t cs = some x) (hw : SzW P t x.1) : ∃ n y, fuel = n + 1 ∧ DataW.trod enc P W 0 (fun _ => true) true n e ((cs.drop off).take c) = some y ∧ SzW P e y.1 := by
 unfold fieldAt at hf
 cases hu : P.underlying t with
 | none => rw [hu] at hf; cases hf
 | some k =>
  rw [hu] at hf
  cases k <;> simp only at hf <;> first | cases hf | skip
  rename_i fs
  cases hi : fs[i]? with
  | none => rw [hi] at hf; cases hf
  | some f =>
   rw [hi] at hf
   simp only [Option.map_some, Option.some.injEq, Prod.mk.injEq] at hf
   obtain ⟨rfl, rfl⟩ := hf
   obtain ⟨xs, n, rfl, rfl, hlen, hxl, hf⟩ := DataW.trod_struct hu h
   have hlt : i < xs.length := by
    rw [hxl]
    rcases Nat.lt_or_ge i fs.size with h' | h'
    ·exact h'
    ·rw [Array.getElem?_eq_none h'] at hi; cases hi
   have := hf i f hi
   rw [List.getElem?_eq_getElem hlt, hc] at this
   refine ⟨n, _, rfl, this, ?_⟩
   unfold SzW at hw
   simp only [DataW.weights, hu] at hw
   refine SzW.each hw (j := i) ?_ ?_
   ·rw [List.getElem?_map, Array.getElem?_toList, hi]; rfl
   ·rw [List.getElem?_map, List.getElem?_eq_getElem hlt]; rfl
theorem Ht.mk {M n : Nat} {e : Expr} (h1 : e.Kids.length < M) (h2 : e.Kids.length < 9223372036854775808) (h3 : ∀ x, x ∈ e.Kids → Ht M n x) : Ht M (n + 1) e := ⟨h1, h2, h3⟩
theorem expr_op {H : Type} {enc : TypeId × Value → H} {W : World} : ∀ (m : Nat) {fuel : Nat} {cs : List Value} {x : DataW H × List MemPlace}, fuel ≤ m → DataW.trod enc Tryz.prog W 0 (fun _ => true) true fuel 33 cs = some x → SzW Tryz.prog 33 x.1 → ∃ a, tExpr.R (memOf W) cs a ∧ qExpr a := by
 intro m
 induction m with
 | zero =>
  intro fuel cs x hm h hw
  cases fuel with
  | zero => cases h
  | succ n => exact absurd hm (by omega)
 | succ m ih =>
  intro fuel cs x hm h hw
  obtain ⟨n0, y0, e0, t0, z0⟩ := fld (i := 0) (off := 0) (e := 3) (c := 1) (by kernel_rfl) (by kernel_rfl) h hw
  obtain ⟨n1, y1, e1, t1, z1⟩ := fld (i := 1) (off := 1) (e := 3) (c := 1) (by kernel_rfl) (by kernel_rfl) h hw
  obtain ⟨n2, y2, e2, t2, z2⟩ := fld (i := 2) (off := 2) (e := 24) (c := 1) (by kernel_rfl) (by kernel_rfl) h hw
  have hl := struct_len (k := 3) (by kernel_rfl) (by decide) h
  obtain ⟨op, r0, _⟩ := (opens_int (t := 3) (by kernel_rfl) (by kernel_rfl) : Opens Tryz.prog 3 tInt rI).op t0 z0
  obtain ⟨v, r1, _⟩ := (opens_int (t := 3) (by kernel_rfl) (by kernel_rfl) : Opens Tryz.prog 3 tInt rI).op t1 z1
  obtain ⟨ks, r2, q1, q0, q2⟩ := slice_at (T := tExpr) (Q := qExpr) (e := 33) (by kernel_rfl) (by decide) (by kernel_rfl) (fun n csi y hn ht hs => by
   exact ih (by omega) ht hs) t2 z2
  have qb : ks.length < 3518437208781 := by
   have e40 : Tryz.prog.bytesOf 33 = 40 := by kernel_rfl
   rw [e40] at q0
   have : reachBytes = 140737488351232 := rfl
   omega
  clear h t0 t1 t2
  obtain ⟨n, hn⟩ := ht_list q2
  match cs, hl with
  | [c0, c1, c2], _ =>
   have e0 : [c0] = [.int .i64 op] := r0
   have e1 : [c1] = [.int .i64 v] := r1
   obtain ⟨a, c, e2, b2, s2⟩ := r2
   have e2 : [c2] = _ := e2
   cases e0; cases e1; cases e2
   exact ⟨⟨op, v, ks⟩, tExpr_mk ⟨a, c, rfl, b2, s2⟩, n + 1, Ht.mk qb q1 hn⟩
theorem opens_Expr_33 : Opens Tryz.prog 33 tExpr qExpr := ⟨fun h hw => expr_op _ (Nat.le_refl _) h hw, by kernel_rfl⟩
end Go.Proofs.YtaihlcdkcampbaaGreatDoor
namespace Go.Proofs.YtaihlcdkcampbaaGreatDoor
def qSpan (x : Span) : Prop := rI x.Lo ∧ rI x.Hi
theorem opens_Span_72 : Opens Tryz.prog 72 tSpan qSpan := by
 refine ⟨fun {H enc W fuel cs x} h hw => ?_, by kernel_rfl⟩
 obtain ⟨a0, r0, q0⟩ := Opens.field (opens_int (t := 3) (by kernel_rfl) (by kernel_rfl) : Opens Tryz.prog 3 tInt rI) (t := 72) (i := 0) (off := 0) (by kernel_rfl) h hw
 obtain ⟨a1, r1, q1⟩ := Opens.field (opens_int (t := 3) (by kernel_rfl) (by kernel_rfl) : Opens Tryz.prog 3 tInt rI) (t := 72) (i := 1) (off := 1) (by kernel_rfl) h hw
 have hl := struct_len (k := 2) (by kernel_rfl) (by decide) h
 clear h
 match cs, hl with
 | [c0, c1], _ =>
  have e0 : [c0] = [.int .i64 a0] := r0
  cases e0
  have e1 : [c1] = [.int .i64 a1] := r1
  cases e1
  exact ⟨{ Lo := a0, Hi := a1 }, rfl, ⟨q0, q1⟩⟩
end Go.Proofs.YtaihlcdkcampbaaGreatDoor
namespace Go.Proofs.YtaihlcdkcampbaaGreatDoor
theorem and_tt {a b : Bool} (ha : a = true) (hb : b = true) : (a && b) = true := by rw [ha, hb]; rfl
set_option maxRecDepth 100000 in
theorem fx_1 : (laidOutB Tryz.pinned.checked.prog) = true := by kernel_rfl
set_option maxRecDepth 100000 in
theorem fx_2 : (mapsRowed Tryz.pinned.checked.prog) = true := by kernel_rfl
set_option maxRecDepth 100000 in
theorem fx_6 : ((Tryz.pinned.checked.prog.stops == [])) = true := by kernel_rfl
set_option maxRecDepth 100000 in
theorem fx_8 : ((Tryz.pinned.checked.prog.stopKnobs == [])) = true := by kernel_rfl
set_option maxRecDepth 100000 in
theorem fx_22 : ((Rows.rulesParsesRow.plainKeys == Tryz.pinned.checked.prog.plainKeys)) = true := by kernel_rfl
set_option maxRecDepth 100000 in
theorem fx_24 : (Tryz.pinned.checked.prog.stopsHeard) = true := by kernel_rfl
set_option maxRecDepth 100000 in
theorem fx_25 : (Tryz.pinned.checked.prog.mayEnter) = true := by kernel_rfl
set_option maxRecDepth 100000 in
theorem fx_26 : ((Rows.rulesParsesRow.lifted == Tryz.pinned.checked.prog.liftsFinal)) = true := by kernel_rfl
set_option maxRecDepth 100000 in
theorem fx_27 : ((Tryz.pinned.checked.prog.make == some Rows.rulesParsesRow.make)) = true := by kernel_rfl
theorem fx_main : Tryz.pinned.checked.prog.mainIs = some (true, "9ef67a4cb07571d798ed60e513598468ebe5a66f3455e0900720288bced703b8".toList) := by kernel_rfl
theorem fx_looks : true = Tryz.pinned.checked.prog.looks [] := by kernel_rfl
end Go.Proofs.YtaihlcdkcampbaaGreatDoor
namespace Go.Proofs.YtaihlcdkcampbaaGreatDoor
open Go.Proofs
def Self99 (sR99 : Expr → (List Int) → Option Int) : Prop := ∀ (w0 : World) (F0 : Mem) (hF : ∀ b o, F0 b = some o → w0.heap[b]? = some o) (x0 : Expr) (a0_2 : Option Addr) (n0_2 : Nat) (hb0_2 : LC x0.Kids.length n0_2) (hs0_2 : SlA tExpr F0 a0_2 x0.Kids) (x1 : (List Int)) (a1_0 : Option Addr) (n1_0 : Nat) (hb1_0 : LC x1.length n1_0) (hs1_0 : SlA tInt F0 a1_0 x1) (r : Int), sR99 x0 x1 = some r → Calls Tryz.prog 99 ([(.agg #[(.int .i64 x0.Op), (.int .i64 x0.Value), (.slice a0_2 x0.Kids.length n0_2)]), (.slice a1_0 x1.length n1_0)] : List Value).toArray w0 (FRet w0 F0 fun F' v => v = (.int .i64 r))
theorem co_rules_value : CallOk Tryz.prog 99 := fun _ _ => by kernel_rfl
def Self155 (sR155 : Int → Expr → (List Int) → Option Int) : Prop := ∀ (w0 : World) (F0 : Mem) (hF : ∀ b o, F0 b = some o → w0.heap[b]? = some o) (x0 : Int) (bz0 : Nat) (z0 : Expr) (az0_2 : Option Addr) (nz0_2 : Nat) (hbz0_2 : LC z0.Kids.length nz0_2) (hsz0_2 : SlA tExpr F0 az0_2 z0.Kids) (hz0 : F0 bz0 = some (.cells #[(.int .i64 z0.Op), (.int .i64 z0.Value), (.slice az0_2 z0.Kids.length nz0_2)] 33 (0, 0))) (bz1 : Nat) (z1 : (List Int)) (az1_0 : Option Addr) (nz1_0 : Nat) (hbz1_0 : LC z1.length nz1_0) (hsz1_0 : SlA tInt F0 az1_0 z1) (hz1 : F0 bz1 = some (.cells #[(.slice az1_0 z1.length nz1_0)] 47 (0, 0))) (r : Int), sR155 x0 z0 z1 = some r → Calls Tryz.prog 155 ([(.int .i64 x0), (.pointer (some ⟨bz0, 0, none⟩)), (.pointer (some ⟨bz1, 0, none⟩))] : List Value).toArray w0 (FRet w0 F0 fun F' v => v = (.int .i64 r))
theorem co_rules_value_1 : CallOk Tryz.prog 155 := fun _ _ => by kernel_rfl
end Go.Proofs.YtaihlcdkcampbaaGreatDoor
namespace Go.Proofs.YtaihlcdkcampbaaGreatDoor
open Go.Proofs
def rules_value_1_S (N : Nat) (sR99 : Expr → (List Int) → Option Int) (x0 : Int) (z0 : Expr) (z1 : (List Int)) : Option Int :=
 (((idx z0.Kids x0).bind fun x31 => ((sR99 x31 z1).bind fun r45 => some r45)).bind fun j26 => some j26)
theorem cS_rules_value_1 (N : Nat) (sR99 : Expr → (List Int) → Option Int) (hsR99 : Self99 sR99) (w0 : World) (F0 : Mem) (hF : ∀ b o, F0 b = some o → w0.heap[b]? = some o) (x0 : Int) (bz0 : Nat) (z0 : Expr) (az0_2 : Option Addr) (nz0_2 : Nat) (hbz0_2 : LC z0.Kids.length nz0_2) (hsz0_2 : SlA tExpr F0 az0_2 z0.Kids) (hz0 : F0 bz0 = some (oc (kExpr z0 az0_2 nz0_2) 33)) (bz1 : Nat) (z1 : (List Int)) (az1_0 : Option Addr) (nz1_0 : Nat) (hbz1_0 : LC z1.length nz1_0) (hsz1_0 : SlA tInt F0 az1_0 z1) (hz1 : F0 bz1 = some (oc #[(.slice az1_0 z1.length nz1_0)] 47)) (r : Int) (h : rules_value_1_S N sR99 x0 z0 z1 = some r) :
  Calls Tryz.prog 155 ([(vi x0), (pt bz0 0), (pt bz1 0)] : List Value).toArray w0 (FRet w0 F0 fun F' v => v = (vi r)) := by
 have hs0 := HS.start hF
 refine Go 12 Tryz.func155 ?_
 refine Sq (Rg [0] ?_)
 refine Vs 1 ?_
 refine Nss ?_
 obtain ⟨j26, hj29, h30⟩ := bind_some h
 refine RD 8 8 [] [] hs0 (fun f w => ∃ (F1 : Mem), HS w0 F0 w F1 [] ∧ Mem.le F0 F1 ∧ FI f [] [(4, (vi j26))]) (fun wd21 hw22 => ?_) ?_
 ·refine Dv [0] ?_
  refine Dl 1 (fun _ hq => (hq.1.1 _ _ hz0)) ?_
  refine Dv [2] ?_
  obtain ⟨x31, hx32, h34⟩ := bind_some hj29
  obtain ⟨hi33, hx32'⟩ := idx_spec hx32
  obtain ⟨b35, o36, C37, E38, fz39, rfl, hF41, hE42⟩ := SlA.open hsz0_2 hx32'
  obtain ⟨ae43_2, ne43_2, hc44, hbe43_2, hse43_2⟩ := (tExpr_open (hE42 _ _ hx32'))
  refine Di 3 hi33 ?_
  refine Dx 4 0 (fun _ hq => hq.1.1 _ _ hF41) hc44 ?_
  refine Dl 5 (fun _ hq => (hq.1.1 _ _ hz1)) ?_
  refine D1 6 ?_
  obtain ⟨r45, hr46, h47⟩ := bind_some h34
  refine DCl co_rules_value hw22 (hsR99 wd21 F0 hw22.pers (x31) ae43_2 ne43_2 hbe43_2 hse43_2 (z1) az1_0 nz1_0 hbz1_0 hsz1_0 _ hr46) ?_
  rintro _ F2 w49 hs50 le51 rfl
  refine Dv [7] ?_
  obtain rfl := some_inj h47
  exact DWP.done (by kernel_rfl) ⟨F2, hs50, le51, fI⟩
 ·rintro f w23 ⟨F1, hs24, le25, ⟨_, rfl⟩⟩
  refine thenQ_nrm ?_
  refine Rt ?_
  obtain rfl := some_inj h30
  exact Re [(vi j26)] hs24 rfl
end Go.Proofs.YtaihlcdkcampbaaGreatDoor
namespace Go.Proofs.YtaihlcdkcampbaaGreatDoor
open Go.Proofs
def rules_one (N : Nat) (x0 : Bool) : Option Int :=
 (bif x0 then some 1 else some 0)
theorem co_rules_one : CallOk Tryz.prog 156 := fun _ _ => by kernel_rfl
theorem c_rules_one (N : Nat) (w0 : World) (F0 : Mem) (hF : ∀ b o, F0 b = some o → w0.heap[b]? = some o) (x0 : Bool) (r : Int) (h : rules_one N x0 = some r) :
  Calls Tryz.prog 156 ([(.bool x0)] : List Value).toArray w0 (FRet w0 F0 fun F' v => v = (vi r)) := by
 have hs0 := HS.start hF
 refine Go 4 Tryz.func156 ?_
 refine Sq (Rg [0] ?_)
 refine Vs 1 ?_
 refine Nss ?_
 refine Sq (Rg [0] ?_)
 refine Vs 1 ?_
 refine Nt ?_
 refine Cd h (fun hb21 h22 => ?_) (fun hb21 h23 => ?_)
 ·refine Sq (Rg [0] ?_)
  refine Vs 1 ?_
  refine Nt ?_
  refine Rt ?_
  refine thenQ_ret ?_
  obtain rfl := some_inj h22
  exact Re [(vi 1)] hs0 rfl
 ·refine Sc ?_
  refine thenQ_nrm ?_
  refine Sq (Rg [0] ?_)
  refine Vs 1 ?_
  refine Nt ?_
  refine Rt ?_
  obtain rfl := some_inj h23
  exact Re [(vi 0)] hs0 rfl
end Go.Proofs.YtaihlcdkcampbaaGreatDoor
namespace Go.Proofs.YtaihlcdkcampbaaGreatDoor
open Go.Proofs
def rules_held (N : Nat) (x0 : Int) : Option Int :=
 some (max (-1000000) (min 1000000 x0))
theorem co_rules_held : CallOk Tryz.prog 157 := fun _ _ => by kernel_rfl
theorem c_rules_held (N : Nat) (w0 : World) (F0 : Mem) (hF : ∀ b o, F0 b = some o → w0.heap[b]? = some o) (x0 : Int) (r : Int) (h : rules_held N x0 = some r) :
  Calls Tryz.prog 157 ([(vi x0)] : List Value).toArray w0 (FRet w0 F0 fun F' v => v = (vi r)) := by
 have hs0 := HS.start hF
 refine Go 6 Tryz.func157 ?_
 refine Sq (Rg [0] ?_)
 refine Vs 1 ?_
 refine Nss (Rg [0, 1, 2, 3] ?_)
 refine Vs 4 ?_
 refine Nt ?_
 refine Rt ?_
 obtain rfl := some_inj h
 exact Re [(vi (max (-1000000) (min 1000000 x0)))] hs0 rfl
end Go.Proofs.YtaihlcdkcampbaaGreatDoor
namespace Go.Proofs.YtaihlcdkcampbaaGreatDoor
open Go.Proofs
def rules_value_S (N : Nat) (sR155 : Int → Expr → (List Int) → Option Int) (x0 : Expr) (x1 : (List Int)) : Option Int :=
 (bif (x0.Op == 1) then some x0.Value else (bif (x0.Op == 2) then ((idx x1 x0.Value).bind fun x33 => some x33) else (bif (x0.Op == 3) then ((sR155 0 x0 x1).bind fun r56 => some (W64 (1 - r56))) else (bif (x0.Op == 4) then ((sR155 0 x0 x1).bind fun r73 => ((sR155 1 x0 x1).bind fun r81 => some (W64 (r73 * r81)))) else (bif (x0.Op == 5) then ((sR155 0 x0 x1).bind fun r98 => ((sR155 1 x0 x1).bind fun r106 => some (max r98 r106))) else (bif (x0.Op == 6) then ((sR155 0 x0 x1).bind fun r123 => ((sR155 1 x0 x1).bind fun r131 => ((rules_one N (r123 == r131)).bind fun r139 => some r139))) else (bif (x0.Op == 7) then ((sR155 0 x0 x1).bind fun r156 => ((sR155 1 x0 x1).bind fun r164 => ((rules_one N (decide (r156 < r164))).bind fun r172 => some r172))) else (bif (x0.Op == 8) then ((sR155 0 x0 x1).bind fun r189 => ((sR155 1 x0 x1).bind fun r197 => ((rules_held N (W64 (r189 + r197))).bind fun r205 => some r205))) else (bif (x0.Op == 9) then ((sR155 0 x0 x1).bind fun r222 => ((sR155 1 x0 x1).bind fun r230 => ((rules_held N (W64 (r222 - r230))).bind fun r238 => some r238))) else (bif (x0.Op == 10) then ((sR155 0 x0 x1).bind fun r255 => ((sR155 1 x0 x1).bind fun r263 => ((rules_held N (W64 (r255 * r263))).bind fun r271 => some r271))) else (bif (x0.Op == 11) then ((sR155 0 x0 x1).bind fun r288 => ((sR155 (W64 (2 - r288)) x0 x1).bind fun r296 => some r296)) else some 0)))))))))))
theorem cS_rules_value (N : Nat) (sR155 : Int → Expr → (List Int) → Option Int) (hsR155 : Self155 sR155) (w0 : World) (F0 : Mem) (hF : ∀ b o, F0 b = some o → w0.heap[b]? = some o) (x0 : Expr) (a0_2 : Option Addr) (n0_2 : Nat) (hb0_2 : LC x0.Kids.length n0_2) (hs0_2 : SlA tExpr F0 a0_2 x0.Kids) (x1 : (List Int)) (a1_0 : Option Addr) (n1_0 : Nat) (hb1_0 : LC x1.length n1_0) (hs1_0 : SlA tInt F0 a1_0 x1) (r : Int) (h : rules_value_S N sR155 x0 x1 = some r) :
  Calls Tryz.prog 99 ([(.agg (kExpr x0 a0_2 n0_2)), (.slice a1_0 x1.length n1_0)] : List Value).toArray w0 (FRet w0 F0 fun F' v => v = (vi r)) := by
 have hs0 := HS.start hF
 refine Go 86 Tryz.func99 ?_
 refine Sq (Rg [0, 1, 2] ?_)
 refine Bx' 33 (kExpr x0 a0_2 n0_2) hs0 (fun b21 w22 hs23 => ?_)
 refine Bx' 47 #[(.slice a1_0 x1.length n1_0)] hs23 (fun b24 w25 hs26 => ?_)
 refine Vs 1 ?_
 refine Nss (Rg [0, 1] ?_)
 refine Vs 2 ?_
 refine Nss ?_
 refine Sq (Rg [0, 1] ?_)
 refine Vs 1 ?_
 refine Ld hs26.at1 ?_
 refine Nt ?_
 refine Bk ?_
 refine Sq (Rg [0, 1] ?_)
 refine Vs 2 ?_
 refine Nt ?_
 refine Cd h (fun hb27 h28 => ?_) (fun hb27 h29 => ?_)
 ·refine Sq (Rg [0, 1, 2] ?_)
  refine Vs 1 ?_
  refine Ld hs26.at1 ?_
  refine Vs 1 ?_
  refine Nt ?_
  refine Rt ?_
  refine blockQ_ret ?_
  refine thenQ_ret ?_
  obtain rfl := some_inj h28
  exact Re [(vi x0.Value)] hs26 rfl
 ·refine Sq (Rg [0, 1] ?_)
  refine Vs 2 ?_
  refine Nt ?_
  refine Cd h29 (fun hb30 h31 => ?_) (fun hb30 h32 => ?_)
  ·refine Sq (Rg [0, 1, 2, 3, 4, 5] ?_)
   refine Ld hs26.at0 ?_
   refine Vs 1 ?_
   refine Ld hs26.at1 ?_
   obtain ⟨x33, hx34, h36⟩ := bind_some h31
   obtain ⟨hi35, hx34'⟩ := idx_spec hx34
   obtain ⟨b37, o38, C39, E40, fz41, rfl, hF43, hE44⟩ := SlA.open hs1_0 hx34'
   have hc46 := hE44 _ _ hx34'
   refine Ix hi35 ?_
   refine Lx 0 (hs26.pers _ _ hF43) hc46 ?_
   refine Vs 1 ?_
   refine Nt ?_
   refine Rt ?_
   refine blockQ_ret ?_
   refine thenQ_ret ?_
   obtain rfl := some_inj h36
   exact Re [(vi x33)] hs26 rfl
  ·refine Sq (Rg [0, 1] ?_)
   refine Vs 2 ?_
   refine Nt ?_
   refine Cd h32 (fun hb47 h48 => ?_) (fun hb47 h49 => ?_)
   ·refine Sq (Rg [0, 1, 2, 3] ?_)
    refine Vs 1 ?_
    obtain ⟨F1, hs50, le51, hF52⟩ := hs26.fc1
    obtain ⟨F2, hs53, le54, hF55⟩ := hs50.fc0
    obtain ⟨r56, hr57, h58⟩ := bind_some h48
    refine Cl' co_rules_value_1 hs53 (hsR155 w25 F2 hs53.pers (0) b21 x0 a0_2 n0_2 hb0_2 (SlA.mono hs0_2 (le51.trans le54)) (le54 _ _ hF52) b24 x1 a1_0 n1_0 hb1_0 (SlA.mono hs1_0 (le51.trans le54)) hF55 _ hr57) ?_
    rintro _ F3 w60 hs61 le62 rfl
    refine Vs 2 ?_
    refine Nt ?_
    refine Rt ?_
    refine blockQ_ret ?_
    refine thenQ_ret ?_
    obtain rfl := some_inj h58
    exact Re [(vi (W64 (1 - r56)))] hs61 rfl
   ·refine Sq (Rg [0, 1] ?_)
    refine Vs 2 ?_
    refine Nt ?_
    refine Cd h49 (fun hb64 h65 => ?_) (fun hb64 h66 => ?_)
    ·refine Sq (Rg [0, 1, 2, 3, 4, 5] ?_)
     refine Vs 1 ?_
     obtain ⟨F4, hs67, le68, hF69⟩ := hs26.fc1
     obtain ⟨F5, hs70, le71, hF72⟩ := hs67.fc0
     obtain ⟨r73, hr74, h75⟩ := bind_some h65
     refine Cl' co_rules_value_1 hs70 (hsR155 w25 F5 hs70.pers (0) b21 x0 a0_2 n0_2 hb0_2 (SlA.mono hs0_2 (le68.trans le71)) (le71 _ _ hF69) b24 x1 a1_0 n1_0 hb1_0 (SlA.mono hs1_0 (le68.trans le71)) hF72 _ hr74) ?_
     rintro _ F6 w77 hs78 le79 rfl
     refine Vs 1 ?_
     obtain ⟨r81, hr82, h83⟩ := bind_some h75
     refine Cl' co_rules_value_1 hs78 (hsR155 w77 F6 hs78.pers (1) b21 x0 a0_2 n0_2 hb0_2 (SlA.mono hs0_2 ((le68.trans le71).trans le79)) ((le71.trans le79) _ _ hF69) b24 x1 a1_0 n1_0 hb1_0 (SlA.mono hs1_0 ((le68.trans le71).trans le79)) (le79 _ _ hF72) _ hr82) ?_
     rintro _ F7 w85 hs86 le87 rfl
     refine Vs 2 ?_
     refine Nt ?_
     refine Rt ?_
     refine blockQ_ret ?_
     refine thenQ_ret ?_
     obtain rfl := some_inj h83
     exact Re [(vi (W64 (r73 * r81)))] hs86 rfl
    ·refine Sq (Rg [0, 1] ?_)
     refine Vs 2 ?_
     refine Nt ?_
     refine Cd h66 (fun hb89 h90 => ?_) (fun hb89 h91 => ?_)
     ·refine Sq (Rg [0, 1, 2, 3, 4, 5] ?_)
      refine Vs 1 ?_
      obtain ⟨F8, hs92, le93, hF94⟩ := hs26.fc1
      obtain ⟨F9, hs95, le96, hF97⟩ := hs92.fc0
      obtain ⟨r98, hr99, h100⟩ := bind_some h90
      refine Cl' co_rules_value_1 hs95 (hsR155 w25 F9 hs95.pers (0) b21 x0 a0_2 n0_2 hb0_2 (SlA.mono hs0_2 (le93.trans le96)) (le96 _ _ hF94) b24 x1 a1_0 n1_0 hb1_0 (SlA.mono hs1_0 (le93.trans le96)) hF97 _ hr99) ?_
      rintro _ F10 w102 hs103 le104 rfl
      refine Vs 1 ?_
      obtain ⟨r106, hr107, h108⟩ := bind_some h100
      refine Cl' co_rules_value_1 hs103 (hsR155 w102 F10 hs103.pers (1) b21 x0 a0_2 n0_2 hb0_2 (SlA.mono hs0_2 ((le93.trans le96).trans le104)) ((le96.trans le104) _ _ hF94) b24 x1 a1_0 n1_0 hb1_0 (SlA.mono hs1_0 ((le93.trans le96).trans le104)) (le104 _ _ hF97) _ hr107) ?_
      rintro _ F11 w110 hs111 le112 rfl
      refine Vs 2 ?_
      refine Nt ?_
      refine Rt ?_
      refine blockQ_ret ?_
      refine thenQ_ret ?_
      obtain rfl := some_inj h108
      exact Re [(vi (max r98 r106))] hs111 rfl
     ·refine Sq (Rg [0, 1] ?_)
      refine Vs 2 ?_
      refine Nt ?_
      refine Cd h91 (fun hb114 h115 => ?_) (fun hb114 h116 => ?_)
      ·refine Sq (Rg [0, 1, 2, 3, 4, 5, 6] ?_)
       refine Vs 1 ?_
       obtain ⟨F12, hs117, le118, hF119⟩ := hs26.fc1
       obtain ⟨F13, hs120, le121, hF122⟩ := hs117.fc0
       obtain ⟨r123, hr124, h125⟩ := bind_some h115
       refine Cl' co_rules_value_1 hs120 (hsR155 w25 F13 hs120.pers (0) b21 x0 a0_2 n0_2 hb0_2 (SlA.mono hs0_2 (le118.trans le121)) (le121 _ _ hF119) b24 x1 a1_0 n1_0 hb1_0 (SlA.mono hs1_0 (le118.trans le121)) hF122 _ hr124) ?_
       rintro _ F14 w127 hs128 le129 rfl
       refine Vs 1 ?_
       obtain ⟨r131, hr132, h133⟩ := bind_some h125
       refine Cl' co_rules_value_1 hs128 (hsR155 w127 F14 hs128.pers (1) b21 x0 a0_2 n0_2 hb0_2 (SlA.mono hs0_2 ((le118.trans le121).trans le129)) ((le121.trans le129) _ _ hF119) b24 x1 a1_0 n1_0 hb1_0 (SlA.mono hs1_0 ((le118.trans le121).trans le129)) (le129 _ _ hF122) _ hr132) ?_
       rintro _ F15 w135 hs136 le137 rfl
       refine Vs 1 ?_
       obtain ⟨r139, hr140, h141⟩ := bind_some h133
       refine Cl' co_rules_one hs136 (c_rules_one N w135 F15 hs136.pers ((r123 == r131)) _ hr140) ?_
       rintro _ F16 w143 hs144 le145 rfl
       refine Vs 1 ?_
       refine Nt ?_
       refine Rt ?_
       refine blockQ_ret ?_
       refine thenQ_ret ?_
       obtain rfl := some_inj h141
       exact Re [(vi r139)] hs144 rfl
      ·refine Sq (Rg [0, 1] ?_)
       refine Vs 2 ?_
       refine Nt ?_
       refine Cd h116 (fun hb147 h148 => ?_) (fun hb147 h149 => ?_)
       ·refine Sq (Rg [0, 1, 2, 3, 4, 5, 6] ?_)
        refine Vs 1 ?_
        obtain ⟨F17, hs150, le151, hF152⟩ := hs26.fc1
        obtain ⟨F18, hs153, le154, hF155⟩ := hs150.fc0
        obtain ⟨r156, hr157, h158⟩ := bind_some h148
        refine Cl' co_rules_value_1 hs153 (hsR155 w25 F18 hs153.pers (0) b21 x0 a0_2 n0_2 hb0_2 (SlA.mono hs0_2 (le151.trans le154)) (le154 _ _ hF152) b24 x1 a1_0 n1_0 hb1_0 (SlA.mono hs1_0 (le151.trans le154)) hF155 _ hr157) ?_
        rintro _ F19 w160 hs161 le162 rfl
        refine Vs 1 ?_
        obtain ⟨r164, hr165, h166⟩ := bind_some h158
        refine Cl' co_rules_value_1 hs161 (hsR155 w160 F19 hs161.pers (1) b21 x0 a0_2 n0_2 hb0_2 (SlA.mono hs0_2 ((le151.trans le154).trans le162)) ((le154.trans le162) _ _ hF152) b24 x1 a1_0 n1_0 hb1_0 (SlA.mono hs1_0 ((le151.trans le154).trans le162)) (le162 _ _ hF155) _ hr165) ?_
        rintro _ F20 w168 hs169 le170 rfl
        refine Vs 1 ?_
        obtain ⟨r172, hr173, h174⟩ := bind_some h166
        refine Cl' co_rules_one hs169 (c_rules_one N w168 F20 hs169.pers ((decide (r156 < r164))) _ hr173) ?_
        rintro _ F21 w176 hs177 le178 rfl
        refine Vs 1 ?_
        refine Nt ?_
        refine Rt ?_
        refine blockQ_ret ?_
        refine thenQ_ret ?_
        obtain rfl := some_inj h174
        exact Re [(vi r172)] hs177 rfl
       ·refine Sq (Rg [0, 1] ?_)
        refine Vs 2 ?_
        refine Nt ?_
        refine Cd h149 (fun hb180 h181 => ?_) (fun hb180 h182 => ?_)
        ·refine Sq (Rg [0, 1, 2, 3, 4, 5, 6] ?_)
         refine Vs 1 ?_
         obtain ⟨F22, hs183, le184, hF185⟩ := hs26.fc1
         obtain ⟨F23, hs186, le187, hF188⟩ := hs183.fc0
         obtain ⟨r189, hr190, h191⟩ := bind_some h181
         refine Cl' co_rules_value_1 hs186 (hsR155 w25 F23 hs186.pers (0) b21 x0 a0_2 n0_2 hb0_2 (SlA.mono hs0_2 (le184.trans le187)) (le187 _ _ hF185) b24 x1 a1_0 n1_0 hb1_0 (SlA.mono hs1_0 (le184.trans le187)) hF188 _ hr190) ?_
         rintro _ F24 w193 hs194 le195 rfl
         refine Vs 1 ?_
         obtain ⟨r197, hr198, h199⟩ := bind_some h191
         refine Cl' co_rules_value_1 hs194 (hsR155 w193 F24 hs194.pers (1) b21 x0 a0_2 n0_2 hb0_2 (SlA.mono hs0_2 ((le184.trans le187).trans le195)) ((le187.trans le195) _ _ hF185) b24 x1 a1_0 n1_0 hb1_0 (SlA.mono hs1_0 ((le184.trans le187).trans le195)) (le195 _ _ hF188) _ hr198) ?_
         rintro _ F25 w201 hs202 le203 rfl
         refine Vs 1 ?_
         obtain ⟨r205, hr206, h207⟩ := bind_some h199
         refine Cl' co_rules_held hs202 (c_rules_held N w201 F25 hs202.pers ((W64 (r189 + r197))) _ hr206) ?_
         rintro _ F26 w209 hs210 le211 rfl
         refine Vs 1 ?_
         refine Nt ?_
         refine Rt ?_
         refine blockQ_ret ?_
         refine thenQ_ret ?_
         obtain rfl := some_inj h207
         exact Re [(vi r205)] hs210 rfl
        ·refine Sq (Rg [0, 1] ?_)
         refine Vs 2 ?_
         refine Nt ?_
         refine Cd h182 (fun hb213 h214 => ?_) (fun hb213 h215 => ?_)
         ·refine Sq (Rg [0, 1, 2, 3, 4, 5, 6] ?_)
          refine Vs 1 ?_
          obtain ⟨F27, hs216, le217, hF218⟩ := hs26.fc1
          obtain ⟨F28, hs219, le220, hF221⟩ := hs216.fc0
          obtain ⟨r222, hr223, h224⟩ := bind_some h214
          refine Cl' co_rules_value_1 hs219 (hsR155 w25 F28 hs219.pers (0) b21 x0 a0_2 n0_2 hb0_2 (SlA.mono hs0_2 (le217.trans le220)) (le220 _ _ hF218) b24 x1 a1_0 n1_0 hb1_0 (SlA.mono hs1_0 (le217.trans le220)) hF221 _ hr223) ?_
          rintro _ F29 w226 hs227 le228 rfl
          refine Vs 1 ?_
          obtain ⟨r230, hr231, h232⟩ := bind_some h224
          refine Cl' co_rules_value_1 hs227 (hsR155 w226 F29 hs227.pers (1) b21 x0 a0_2 n0_2 hb0_2 (SlA.mono hs0_2 ((le217.trans le220).trans le228)) ((le220.trans le228) _ _ hF218) b24 x1 a1_0 n1_0 hb1_0 (SlA.mono hs1_0 ((le217.trans le220).trans le228)) (le228 _ _ hF221) _ hr231) ?_
          rintro _ F30 w234 hs235 le236 rfl
          refine Vs 1 ?_
          obtain ⟨r238, hr239, h240⟩ := bind_some h232
          refine Cl' co_rules_held hs235 (c_rules_held N w234 F30 hs235.pers ((W64 (r222 - r230))) _ hr239) ?_
          rintro _ F31 w242 hs243 le244 rfl
          refine Vs 1 ?_
          refine Nt ?_
          refine Rt ?_
          refine blockQ_ret ?_
          refine thenQ_ret ?_
          obtain rfl := some_inj h240
          exact Re [(vi r238)] hs243 rfl
         ·refine Sq (Rg [0, 1] ?_)
          refine Vs 2 ?_
          refine Nt ?_
          refine Cd h215 (fun hb246 h247 => ?_) (fun hb246 h248 => ?_)
          ·refine Sq (Rg [0, 1, 2, 3, 4, 5, 6] ?_)
           refine Vs 1 ?_
           obtain ⟨F32, hs249, le250, hF251⟩ := hs26.fc1
           obtain ⟨F33, hs252, le253, hF254⟩ := hs249.fc0
           obtain ⟨r255, hr256, h257⟩ := bind_some h247
           refine Cl' co_rules_value_1 hs252 (hsR155 w25 F33 hs252.pers (0) b21 x0 a0_2 n0_2 hb0_2 (SlA.mono hs0_2 (le250.trans le253)) (le253 _ _ hF251) b24 x1 a1_0 n1_0 hb1_0 (SlA.mono hs1_0 (le250.trans le253)) hF254 _ hr256) ?_
           rintro _ F34 w259 hs260 le261 rfl
           refine Vs 1 ?_
           obtain ⟨r263, hr264, h265⟩ := bind_some h257
           refine Cl' co_rules_value_1 hs260 (hsR155 w259 F34 hs260.pers (1) b21 x0 a0_2 n0_2 hb0_2 (SlA.mono hs0_2 ((le250.trans le253).trans le261)) ((le253.trans le261) _ _ hF251) b24 x1 a1_0 n1_0 hb1_0 (SlA.mono hs1_0 ((le250.trans le253).trans le261)) (le261 _ _ hF254) _ hr264) ?_
           rintro _ F35 w267 hs268 le269 rfl
           refine Vs 1 ?_
           obtain ⟨r271, hr272, h273⟩ := bind_some h265
           refine Cl' co_rules_held hs268 (c_rules_held N w267 F35 hs268.pers ((W64 (r255 * r263))) _ hr272) ?_
           rintro _ F36 w275 hs276 le277 rfl
           refine Vs 1 ?_
           refine Nt ?_
           refine Rt ?_
           refine blockQ_ret ?_
           refine thenQ_ret ?_
           obtain rfl := some_inj h273
           exact Re [(vi r271)] hs276 rfl
          ·refine Sq (Rg [0, 1] ?_)
           refine Vs 2 ?_
           refine Nt ?_
           refine Cd h248 (fun hb279 h280 => ?_) (fun hb279 h281 => ?_)
           ·refine Sq (Rg [0, 1, 2, 3, 4, 5] ?_)
            refine Vs 2 ?_
            obtain ⟨F37, hs282, le283, hF284⟩ := hs26.fc1
            obtain ⟨F38, hs285, le286, hF287⟩ := hs282.fc0
            obtain ⟨r288, hr289, h290⟩ := bind_some h280
            refine Cl' co_rules_value_1 hs285 (hsR155 w25 F38 hs285.pers (0) b21 x0 a0_2 n0_2 hb0_2 (SlA.mono hs0_2 (le283.trans le286)) (le286 _ _ hF284) b24 x1 a1_0 n1_0 hb1_0 (SlA.mono hs1_0 (le283.trans le286)) hF287 _ hr289) ?_
            rintro _ F39 w292 hs293 le294 rfl
            refine Vs 1 ?_
            obtain ⟨r296, hr297, h298⟩ := bind_some h290
            refine Cl' co_rules_value_1 hs293 (hsR155 w292 F39 hs293.pers ((W64 (2 - r288))) b21 x0 a0_2 n0_2 hb0_2 (SlA.mono hs0_2 ((le283.trans le286).trans le294)) ((le286.trans le294) _ _ hF284) b24 x1 a1_0 n1_0 hb1_0 (SlA.mono hs1_0 ((le283.trans le286).trans le294)) (le294 _ _ hF287) _ hr297) ?_
            rintro _ F40 w300 hs301 le302 rfl
            refine Vs 1 ?_
            refine Nt ?_
            refine Rt ?_
            refine blockQ_ret ?_
            refine thenQ_ret ?_
            obtain rfl := some_inj h298
            exact Re [(vi r296)] hs301 rfl
           ·refine Sc ?_
            refine blockQ_nrm ?_
            refine thenQ_nrm ?_
            refine Sq (Rg [0] ?_)
            refine Vs 1 ?_
            refine Nt ?_
            refine Rt ?_
            obtain rfl := some_inj h281
            exact Re [(vi 0)] hs26 rfl
end Go.Proofs.YtaihlcdkcampbaaGreatDoor
namespace Go.Proofs.YtaihlcdkcampbaaGreatDoor
open Go.Proofs
structure Rec99 where
 q99 : Expr → (List Int) → Option Int
 q155 : Int → Expr → (List Int) → Option Int
def rec99 (N : Nat) : Nat → Rec99
 | 0 => ⟨fun _ _ => none, fun _ _ _ => none⟩
 | k + 1 => ⟨rules_value_S N (rec99 N k).q155, rules_value_1_S N (rec99 N k).q99⟩
theorem rec99_ok (N : Nat) : ∀ k, Self99 (rec99 N k).q99 ∧ Self155 (rec99 N k).q155
 | 0 => ⟨(by unfold Self99; intros; rename_i h; cases h), (by unfold Self155; intros; rename_i h; cases h)⟩
 | k + 1 => by
  have ih := rec99_ok N k
  exact ⟨@cS_rules_value N (rec99 N k).q155 ih.2, @cS_rules_value_1 N (rec99 N k).q99 ih.1⟩
def rules_value (N : Nat) (x0 : Expr) (x1 : (List Int)) : Option Int := (rec99 N N).q99 x0 x1
theorem c_rules_value (N : Nat) (w0 : World) (F0 : Mem) (hF : ∀ b o, F0 b = some o → w0.heap[b]? = some o) (x0 : Expr) (a0_2 : Option Addr) (n0_2 : Nat) (hb0_2 : LC x0.Kids.length n0_2) (hs0_2 : SlA tExpr F0 a0_2 x0.Kids) (x1 : (List Int)) (a1_0 : Option Addr) (n1_0 : Nat) (hb1_0 : LC x1.length n1_0) (hs1_0 : SlA tInt F0 a1_0 x1) (r : Int) (h : rules_value N x0 x1 = some r) :
  Calls Tryz.prog 99 ([(.agg #[(.int .i64 x0.Op), (.int .i64 x0.Value), (.slice a0_2 x0.Kids.length n0_2)]), (.slice a1_0 x1.length n1_0)] : List Value).toArray w0 (FRet w0 F0 fun F' v => v = (.int .i64 r)) := (rec99_ok N N).1 w0 F0 hF x0 a0_2 n0_2 hb0_2 hs0_2 x1 a1_0 n1_0 hb1_0 hs1_0 r h
end Go.Proofs.YtaihlcdkcampbaaGreatDoor
namespace Go.Proofs.YtaihlcdkcampbaaGreatDoor
open Go.Proofs
end Go.Proofs.YtaihlcdkcampbaaGreatDoor
namespace Go.Proofs.YtaihlcdkcampbaaGreatDoor
open Go.Proofs
end Go.Proofs.YtaihlcdkcampbaaGreatDoor
namespace Go.Proofs.YtaihlcdkcampbaaGreatDoor
open Go.Proofs
end Go.Proofs.YtaihlcdkcampbaaGreatDoor
namespace Go.Proofs.YtaihlcdkcampbaaGreatDoor
open Go.Proofs
end Go.Proofs.YtaihlcdkcampbaaGreatDoor
namespace Go.Proofs.YtaihlcdkcampbaaGreatDoor
open Go.Proofs
end Go.Proofs.YtaihlcdkcampbaaGreatDoor
namespace Go.Proofs.YtaihlcdkcampbaaGreatDoor
open Go.Proofs
def slices_IndexFunc_int_int_L0 (N : Nat) (x0 : (List Int)) (x1 : (Int → Option Bool)) : Int → Option (Flow Int Int) := fun s24 =>
 (bif (decide (s24 < (x0.length : Int))) then ((idx x0 s24).bind fun x47 => ((x1 x47).bind fun r61 => (bif r61 then some (.ret s24) else some (.next (W64 (s24 + 1)))))) else some (.done s24))
def slices_IndexFunc_int_int (N : Nat) (x0 : (List Int)) (x1 : (Int → Option Bool)) : Option Int :=
 ((iter (slices_IndexFunc_int_int_L0 N x0 x1) N 0).bind fun o => o.k (fun r => some r) (fun s33 => some (-1)))
theorem co_slices_IndexFunc_int_int : CallOk Tryz.prog 197 := fun _ _ => by kernel_rfl
theorem c_slices_IndexFunc_int_int (N : Nat) (w0 : World) (F0 : Mem) (hF : ∀ b o, F0 b = some o → w0.heap[b]? = some o) (x0 : (List Int)) (a0_0 : Option Addr) (n0_0 : Nat) (hb0_0 : LC x0.length n0_0) (hs0_0 : SlA tInt F0 a0_0 x0) (gx1 : FuncId) (fx1 kx1 : List Value) (x1 : Int → Option Bool) (hox1 : CallOk Tryz.prog gx1) (hpx1 : Fn179 F0 gx1 fx1 kx1 x1) (r : Int) (h : slices_IndexFunc_int_int N x0 x1 = some r) :
  Calls Tryz.prog 197 ([(.slice a0_0 x0.length n0_0), (.func (.func gx1) fx1.toArray kx1.toArray)] : List Value).toArray w0 (FRet w0 F0 fun F' v => v = (vi r)) := by
 have hs0 := HS.start hF
 refine Go 19 Tryz.func197 ?_
 refine Sq (Rg [0] ?_)
 refine Vs 1 ?_
 refine Nss ?_
 refine Sq (Rg [0, 1, 2] ?_)
 refine Vs 3 ?_
 refine Nt ?_
 obtain ⟨o21, ho22, h23⟩ := bind_some h
 refine CWP.cut (fun f w => ∃ (s33 : Int) (F2 : Mem), o21 = .done s33 ∧ HS w0 F0 w F2 [] ∧ Mem.le F0 F2 ∧ FI f [] []) ?_ ?_
 ·refine Bk ?_
  refine CWP.loop (by kernel_rfl) (fun m f w => ∃ (s24 : Int) (F1 : Mem), iter (slices_IndexFunc_int_int_L0 N x0 x1) m s24 = some o21 ∧ HS w0 F0 w F1 [] ∧ Mem.le F0 F1 ∧ FI f [] [(0, (.slice a0_0 x0.length n0_0)), (1, (.func (.func gx1) fx1.toArray kx1.toArray)), (7, (vi (x0.length : Int))), (8, (vi s24))]) N ⟨0, F0, ho22, hs0, (Mem.le.refl _), fI⟩ ?_
  rintro m38 f w25 ⟨s24, F1, hit39, hs26, le27, ⟨_, rfl⟩⟩
  obtain ⟨m40, fl41, rfl, hb42, hnx43⟩ := iter_step hit39
  refine Sq (Rg [0] ?_)
  refine Vs 1 ?_
  refine Nss ?_
  refine Cd hb42 (fun hb44 h45 => ?_) (fun hb44 h46 => ?_)
  ·refine Sc ?_
   refine thenQ_nrm ?_
   refine Sq ?_
   refine Bk ?_
   refine Sq (Rg [0, 1] ?_)
   refine Vs 2 ?_
   refine Nss (Rg [0, 1, 2, 3, 4, 5] ?_)
   refine Vs 3 ?_
   obtain ⟨x47, hx48, h50⟩ := bind_some h45
   obtain ⟨hi49, hx48'⟩ := idx_spec hx48
   obtain ⟨b51, o52, C53, E54, fz55, rfl, hF57, hE58⟩ := SlA.open (SlA.mono hs0_0 le27) hx48'
   have hc60 := hE58 _ _ hx48'
   refine Ix hi49 ?_
   refine Lx 0 (hs26.pers _ _ hF57) hc60 ?_
   obtain ⟨r61, hr62, h63⟩ := bind_some h50
   refine Cq hox1 hs26 (hpx1 w25 F1 (x47) _ le27 hs26.pers hr62) ?_
   rintro _ F3 w65 hs66 le67 rfl
   refine Nt ?_
   refine Cd h63 (fun hb69 h70 => ?_) (fun hb69 h71 => ?_)
   ·refine Sq (Rg [0, 1] ?_)
    refine Vs 2 ?_
    refine Nt ?_
    refine Rt ?_
    refine blockQ_ret ?_
    refine thenQ_ret ?_
    refine thenQ_ret ?_
    refine blockQ_ret ?_
    have hret := iter_ret h70 hnx43
    subst hret
    refine .inr ?_
    refine thenQ_ret ?_
    obtain rfl := some_inj h23
    exact Re [(vi s24)] hs66 rfl
   ·refine Sc ?_
    refine blockQ_nrm ?_
    refine thenQ_nrm ?_
    refine Rg [0, 1] ?_
    refine Vs 2 ?_
    refine RWP.nil ?_
    have hn72 := iter_next h71 hnx43
    exact ⟨m40, Nat.lt_succ_self _, (W64 (s24 + 1)), F3, hn72, hs66, (le27.trans le67), fI⟩
  ·refine Ex ?_
   refine thenQ_ex ?_
   refine thenQ_ex ?_
   refine blockQ_hit rfl ?_
   have ho73 := iter_done h46 hnx43
   exact .inl ⟨rfl, s24, F1, ho73, hs26, le27, fI⟩
 ·rintro f w34 ⟨s33, F2, rfl, hs35, le36, ⟨_, rfl⟩⟩
  have h74 := k_done h23
  refine thenQ_nrm ?_
  refine Sq (Rg [0] ?_)
  refine Vs 1 ?_
  refine Nt ?_
  refine Rt ?_
  obtain rfl := some_inj h74
  exact Re [(vi (-1))] hs35 rfl
end Go.Proofs.YtaihlcdkcampbaaGreatDoor
namespace Go.Proofs.YtaihlcdkcampbaaGreatDoor
open Go.Proofs
def slices_ContainsFunc_int_int (N : Nat) (x0 : (List Int)) (x1 : (Int → Option Bool)) : Option Bool :=
 ((slices_IndexFunc_int_int N x0 x1).bind fun r21 => some (decide (r21 ≥ 0)))
theorem co_slices_ContainsFunc_int_int : CallOk Tryz.prog 153 := fun _ _ => by kernel_rfl
theorem c_slices_ContainsFunc_int_int (N : Nat) (w0 : World) (F0 : Mem) (hF : ∀ b o, F0 b = some o → w0.heap[b]? = some o) (x0 : (List Int)) (a0_0 : Option Addr) (n0_0 : Nat) (hb0_0 : LC x0.length n0_0) (hs0_0 : SlA tInt F0 a0_0 x0) (gx1 : FuncId) (fx1 kx1 : List Value) (x1 : Int → Option Bool) (hox1 : CallOk Tryz.prog gx1) (hpx1 : Fn179 F0 gx1 fx1 kx1 x1) (r : Bool) (h : slices_ContainsFunc_int_int N x0 x1 = some r) :
  Calls Tryz.prog 153 ([(.slice a0_0 x0.length n0_0), (.func (.func gx1) fx1.toArray kx1.toArray)] : List Value).toArray w0 (FRet w0 F0 fun F' v => v = (.bool r)) := by
 have hs0 := HS.start hF
 refine Go 9 Tryz.func153 ?_
 refine Sq (Rg [0] ?_)
 refine Vs 1 ?_
 refine Nss (Rg [0, 1, 2, 3, 4] ?_)
 refine Vs 2 ?_
 obtain ⟨r21, hr22, h23⟩ := bind_some h
 refine Cl' co_slices_IndexFunc_int_int hs0 (c_slices_IndexFunc_int_int N w0 F0 hs0.pers (x0) a0_0 n0_0 hb0_0 hs0_0 gx1 fx1 kx1 x1 hox1 (fun w1 F1 y0 r le1 pe1 hr1 => hpx1 w1 F1 y0 r (le1) pe1 hr1) _ hr22) ?_
 rintro _ F1 w25 hs26 le27 rfl
 refine Vs 2 ?_
 refine Nt ?_
 refine Rt ?_
 obtain rfl := some_inj h23
 exact Re [(.bool (decide (r21 ≥ 0)))] hs26 rfl
end Go.Proofs.YtaihlcdkcampbaaGreatDoor
namespace Go.Proofs.YtaihlcdkcampbaaGreatDoor
open Go.Proofs
def rules_validFacts_1 (N : Nat) (x0 : Int) : Option Bool :=
 some ((decide (x0 < 0)) || (decide (x0 > 1000000)))
theorem co_rules_validFacts_1 : CallOk Tryz.prog 154 := fun _ _ => by kernel_rfl
theorem c_rules_validFacts_1 (N : Nat) (w0 : World) (F0 : Mem) (hF : ∀ b o, F0 b = some o → w0.heap[b]? = some o) (x0 : Int) (r : Bool) (h : rules_validFacts_1 N x0 = some r) :
  Calls Tryz.prog 154 ([(vi x0)] : List Value).toArray w0 (FRet w0 F0 fun F' v => v = (.bool r)) := by
 have hs0 := HS.start hF
 refine Go 9 Tryz.func154 ?_
 refine Sq (Rg [0] ?_)
 refine Vs 1 ?_
 refine Nss (Rg [0, 1, 2, 3, 4, 5, 6] ?_)
 refine RWP.cut (fun f w => ∃ (F1 : Mem), HS w0 F0 w F1 [] ∧ Mem.le F0 F1 ∧ FI f [] [(2, (.bool ((decide (x0 < 0)) || (decide (x0 > 1000000)))))]) ?_ ?_
 ·refine Vs 3 ?_
  refine RWP.split (decide (x0 < 0)) (fun hb26 => ?_) (fun hb26 => ?_)
  ·refine Ss hb26 2 ?_
   refine Pk1 hb26 ?_
   refine Vs 1 ?_
   exact RWP.nil ⟨rfl, F0, hs0, (Mem.le.refl _), (fJ ⟨(congrArg Value.bool (or_t hb26 (rfl))), trivial⟩)⟩
  ·refine Vgs hb26 2 ?_
   refine Pk0 hb26 ?_
   refine Vs 1 ?_
   exact RWP.nil ⟨rfl, F0, hs0, (Mem.le.refl _), (fJ ⟨(congrArg Value.bool (or_f hb26 (rfl))), trivial⟩)⟩
 ·rintro f w21 ⟨F1, hs22, le23, ⟨_, rfl⟩⟩
  refine thenQ_nrm ?_
  refine Rt ?_
  obtain rfl := some_inj h
  exact Re [(.bool ((decide (x0 < 0)) || (decide (x0 > 1000000))))] hs22 rfl
end Go.Proofs.YtaihlcdkcampbaaGreatDoor
namespace Go.Proofs.YtaihlcdkcampbaaGreatDoor
open Go.Proofs
def rules_validFacts (N : Nat) (x0 : (List Int)) : Option Bool :=
 ((bif ((x0.length : Int) == 14) then ((slices_ContainsFunc_int_int N x0 (fun y0 => rules_validFacts_1 N y0)).bind fun r32 => some (!r32)) else some false).bind fun j24 => some j24)
theorem co_rules_validFacts : CallOk Tryz.prog 98 := fun _ _ => by kernel_rfl
theorem c_rules_validFacts (N : Nat) (w0 : World) (F0 : Mem) (hF : ∀ b o, F0 b = some o → w0.heap[b]? = some o) (x0 : (List Int)) (a0_0 : Option Addr) (n0_0 : Nat) (hb0_0 : LC x0.length n0_0) (hs0_0 : SlA tInt F0 a0_0 x0) (r : Bool) (h : rules_validFacts N x0 = some r) :
  Calls Tryz.prog 98 ([(.slice a0_0 x0.length n0_0)] : List Value).toArray w0 (FRet w0 F0 fun F' v => v = (.bool r)) := by
 have hs0 := HS.start hF
 refine Go 11 Tryz.func98 ?_
 refine Sq (Rg [0] ?_)
 refine Vs 1 ?_
 refine Nss (Rg [0, 1, 2, 3, 4, 5, 6, 7, 8] ?_)
 obtain ⟨j24, hj27, h28⟩ := bind_some h
 refine RWP.cut (fun f w => ∃ (F1 : Mem), HS w0 F0 w F1 [] ∧ Mem.le F0 F1 ∧ FI f [] [(2, (.bool j24))]) ?_ ?_
 ·refine Vs 4 ?_
  refine Sp hj27 (fun hb29 h30 => ?_) (fun hb29 h31 => ?_)
  ·refine Vgs hb29 1 ?_
   obtain ⟨r32, hr33, h34⟩ := bind_some h30
   refine Cg hb29 co_slices_ContainsFunc_int_int hs0 (c_slices_ContainsFunc_int_int N w0 F0 hs0.pers (x0) a0_0 n0_0 hb0_0 hs0_0 154 [] [] (fun y0 => rules_validFacts_1 N y0) co_rules_validFacts_1 (fun w1 F1 y0 r le1 pe1 hr1 => c_rules_validFacts_1 N w1 F1 pe1  y0  r hr1) _ hr33) ?_
   rintro _ F2 w36 hs37 le38 rfl
   refine Vgs hb29 1 ?_
   refine Pk1 hb29 ?_
   refine Vs 1 ?_
   obtain rfl := some_inj h34
   exact RWP.nil ⟨rfl, F2, hs37, le38, fI⟩
  ·refine Ss hb29 3 ?_
   refine Pk0 hb29 ?_
   refine Vs 1 ?_
   obtain rfl := some_inj h31
   exact RWP.nil ⟨rfl, F0, hs0, (Mem.le.refl _), fI⟩
 ·rintro f w21 ⟨F1, hs22, le23, ⟨_, rfl⟩⟩
  refine thenQ_nrm ?_
  refine Rt ?_
  obtain rfl := some_inj h28
  exact Re [(.bool j24)] hs22 rfl
end Go.Proofs.YtaihlcdkcampbaaGreatDoor
namespace Go.Proofs.YtaihlcdkcampbaaGreatDoor
open Go.Proofs
end Go.Proofs.YtaihlcdkcampbaaGreatDoor
namespace Go.Proofs.YtaihlcdkcampbaaGreatDoor
def hold (n : Int) : Int := max (-1000000) (min 1000000 n)
theorem hold_r (n : Int) : -1000000 ≤ hold n ∧ hold n ≤ 1000000 := by unfold hold; omega
def bitv (b : Bool) : Int := if b then 1 else 0
def vop (op v fv : Int) (l : List Int) : Int :=
 if op = 1 then v else if op = 2 then fv else if op = 3 then 1 - l[0]! else if op = 4 then min l[0]! l[1]! else if op = 5 then max l[0]! l[1]! else if op = 6 then bitv (l[0]! == l[1]!)
 else if op = 7 then bitv (decide (l[0]! < l[1]!)) else if op = 8 then hold (l[0]! + l[1]!) else if op = 9 then hold (l[0]! - l[1]!) else if op = 10 then hold (l[0]! * l[1]!)
 else if l[0]! = 1 then l[1]! else l[2]!
def val (f : List Int) (e : Expr) : Int := match e with
 | ⟨op, v, ks⟩ => vop op v f[v.toNat]! (ks.map fun x => val f x)
theorem val_eq (f : List Int) (e : Expr) : val f e = vop e.Op e.Value f[e.Value.toNat]! (e.Kids.map (val f)) := by
 cases e; rw [val]
def fac (f : List Int) : Bool := decide (f.length = 14) && f.all fun n => decide (0 ≤ n) && decide (n ≤ 1000000)
def vok (t v : Int) : Prop := (t = 2 → v = 0 ∨ v = 1) ∧ (t = 1 → -1000000 ≤ v ∧ v ≤ 1000000)
inductive Mk (e : Expr) : Int → Prop
 | num (h : e.Op = 1) (h1 : 0 ≤ e.Value) (h2 : e.Value ≤ 1000000) (hk : e.Kids = []) : Mk e 1
 | field (h : e.Op = 2) (h1 : 0 ≤ e.Value) (h2 : e.Value ≤ 13) (hk : e.Kids = []) : Mk e 1
 | deny (h : e.Op = 3) (hv : e.Value = 0) (x : Expr) (hk : e.Kids = [x]) (h1 : kd x = 2) : Mk e 2
 | logic (h : e.Op = 4 ∨ e.Op = 5) (hv : e.Value = 0) (x y : Expr) (hk : e.Kids = [x, y]) (h1 : kd x = 2) (h2 : kd y = 2) : Mk e 2
 | test (h : e.Op = 6 ∨ e.Op = 7) (hv : e.Value = 0) (x y : Expr) (hk : e.Kids = [x, y]) (h1 : kd x = 1) (h2 : kd y = 1) : Mk e 2
 | sum (h : e.Op = 8 ∨ e.Op = 9 ∨ e.Op = 10) (hv : e.Value = 0) (x y : Expr) (hk : e.Kids = [x, y]) (h1 : kd x = 1) (h2 : kd y = 1) : Mk e 1
 | cond (h : e.Op = 11) (hv : e.Value = 0) (c x y : Expr) (hk : e.Kids = [c, x, y]) (h0 : kd c = 2) (h1 : kd x = 1) (h2 : kd y = 1) : Mk e 1
theorem map1 {l : List Expr} {a : Int} (h : l.map kd = [a]) : ∃ x, l = [x] ∧ kd x = a := by
 match l, h with
 | [x], h => exact ⟨x, rfl, by simpa using h⟩
theorem map2 {l : List Expr} {a b : Int} (h : l.map kd = [a, b]) : ∃ x y, l = [x, y] ∧ kd x = a ∧ kd y = b := by
 match l, h with
 | [x, y], h => simp at h; exact ⟨x, y, rfl, h.1, h.2⟩
theorem map3 {l : List Expr} {a b c : Int} (h : l.map kd = [a, b, c]) : ∃ x y z, l = [x, y, z] ∧ kd x = a ∧ kd y = b ∧ kd z = c := by
 match l, h with
 | [x, y, z], h => simp at h; exact ⟨x, y, z, rfl, h.1, h.2.1, h.2.2⟩
theorem kd_mk {e : Expr} (h : kd e ≠ 0) : Mk e (kd e) := by
 rw [kd_eq] at h ⊢
 cases hf : kf e.Op with
 | none => rw [hf] at h; exact absurd rfl h
 | some x =>
  obtain ⟨m, o, l⟩ := x
  rw [hf] at h
  simp only at h ⊢
  by_cases hc : 0 ≤ e.Value ∧ e.Value ≤ m ∧ e.Kids.map kd = l
  ·rw [if_pos hc]
   obtain ⟨c1, c2, c3⟩ := hc
   unfold kf at hf
   by_cases h1 : e.Op = 1
   ·rw [if_pos h1] at hf; cases hf; exact .num h1 c1 c2 (by simpa using c3)
   rw [if_neg h1] at hf
   by_cases h2 : e.Op = 2
   ·rw [if_pos h2] at hf; cases hf; exact .field h2 c1 c2 (by simpa using c3)
   rw [if_neg h2] at hf
   by_cases h3 : e.Op = 3
   ·rw [if_pos h3] at hf; cases hf; obtain ⟨x, hk, hx⟩ := map1 c3; exact .deny h3 (by omega) x hk hx
   rw [if_neg h3] at hf
   by_cases h4 : e.Op = 4 ∨ e.Op = 5
   ·rw [if_pos h4] at hf; cases hf; obtain ⟨x, y, hk, hx, hy⟩ := map2 c3; exact .logic h4 (by omega) x y hk hx hy
   rw [if_neg h4] at hf
   by_cases h6 : e.Op = 6 ∨ e.Op = 7
   ·rw [if_pos h6] at hf; cases hf; obtain ⟨x, y, hk, hx, hy⟩ := map2 c3; exact .test h6 (by omega) x y hk hx hy
   rw [if_neg h6] at hf
   by_cases h8 : e.Op = 8 ∨ e.Op = 9 ∨ e.Op = 10
   ·rw [if_pos h8] at hf; cases hf; obtain ⟨x, y, hk, hx, hy⟩ := map2 c3; exact .sum h8 (by omega) x y hk hx hy
   rw [if_neg h8] at hf
   by_cases h11 : e.Op = 11
   ·rw [if_pos h11] at hf; cases hf; obtain ⟨x, y, z, hk, hx, hy, hz⟩ := map3 c3; exact .cond h11 (by omega) x y z hk hx hy hz
   rw [if_neg h11] at hf; cases hf
  ·rw [if_neg hc] at h; exact absurd rfl h
theorem fac_len {f : List Int} (h : fac f = true) : f.length = 14 := by unfold fac at h; simp at h; exact h.1
theorem fac_get {f : List Int} (h : fac f = true) {i : Nat} (hi : i < 14) : 0 ≤ f[i]! ∧ f[i]! ≤ 1000000 := by
 have hl := fac_len h
 unfold fac at h
 simp only [Bool.and_eq_true, decide_eq_true_eq, List.all_eq_true] at h
 have := h.2 f[i]! (by rw [getElem!_pos f i (by omega)]; exact List.getElem_mem _)
 exact this
theorem bitv_ok (b : Bool) : bitv b = 0 ∨ bitv b = 1 := by cases b <;> simp [bitv]
theorem val_ok {f : List Int} (hf : fac f = true) {M : Nat} : ∀ {n : Nat} {e : Expr}, Ht M n e → kd e ≠ 0 → vok (kd e) (val f e)
 | 0, _, h, _ => h.elim
 | n + 1, e, ⟨_, _, h3⟩, h0 => by
  have ih : ∀ x, x ∈ e.Kids → kd x ≠ 0 → vok (kd x) (val f x) := fun x hx => val_ok hf (h3 x hx)
  rw [val_eq]
  have hm := kd_mk h0
  generalize kd e = t at hm h0
  have T : ∀ x, x ∈ e.Kids → kd x = 2 → val f x = 0 ∨ val f x = 1 := fun x hx h => (ih x hx (by rw [h]; decide)).1 h
  have U : ∀ x, x ∈ e.Kids → kd x = 1 → -1000000 ≤ val f x ∧ val f x ≤ 1000000 := fun x hx h => (ih x hx (by rw [h]; decide)).2 h
  cases hm with
  | num h h1 h2 hk =>
   rw [h]
   refine ⟨fun h => (by cases h), fun _ => ?_⟩
   show -1000000 ≤ e.Value ∧ e.Value ≤ 1000000
   omega
  | field h h1 h2 hk =>
    rw [h]
    refine ⟨fun h => (by cases h), fun _ => ?_⟩
    show -1000000 ≤ f[e.Value.toNat]! ∧ f[e.Value.toNat]! ≤ 1000000
    have := fac_get hf (i := e.Value.toNat) (by omega)
    omega
  | deny h hv x hk h1 =>
   rw [h, hk]
   have := T x (by rw [hk]; simp) h1
   refine ⟨fun _ => ?_, fun h => (by cases h)⟩
   show 1 - val f x = 0 ∨ 1 - val f x = 1
   omega
  | logic h hv x y hk h1 h2 =>
   have a := T x (by rw [hk]; simp) h1
   have b := T y (by rw [hk]; simp) h2
   rw [hk]
   refine ⟨fun _ => ?_, fun h => by cases h⟩
   rcases h with h | h <;> rw [h]
   ·show min (val f x) (val f y) = 0 ∨ min (val f x) (val f y) = 1; omega
   ·show max (val f x) (val f y) = 0 ∨ max (val f x) (val f y) = 1; omega
  | test h hv x y hk h1 h2 =>
   refine ⟨fun _ => ?_, fun h => by cases h⟩
   rcases h with h | h <;> rw [h] <;> exact bitv_ok _
  | sum h hv x y hk h1 h2 =>
   refine ⟨fun h => (by cases h), fun _ => ?_⟩
   rcases h with h | h | h <;> rw [h] <;> exact hold_r _
  | cond h hv c x y hk h0 h1 h2 =>
   have b := U x (by rw [hk]; simp) h1
   have c := U y (by rw [hk]; simp) h2
   rw [h, hk]
   refine ⟨fun h => (by cases h), fun _ => ?_⟩
   show -1000000 ≤ (if val f _ = 1 then val f x else val f y) ∧ (if val f _ = 1 then val f x else val f y) ≤ 1000000
   split <;> assumption
section
variable {N : Nat} {f : List Int}
theorem m_one (b : Bool) : rules_one N b = some (bitv b) := by unfold rules_one bitv; cases b <;> rfl
theorem m_held (n : Int) : rules_held N n = some (hold n) := rfl
theorem W64_small {n : Int} (h : -1000000000000000 ≤ n) (h2 : n ≤ 1000000000000000) : W64 n = n := W64_id (by omega) (by omega)
theorem mul_small {a b : Int} (ha : -1000000 ≤ a) (ha' : a ≤ 1000000) (hb : -1000000 ≤ b) (hb' : b ≤ 1000000) : -1000000000000 ≤ a * b ∧ a * b ≤ 1000000000000 := by
 have hk : (a * b).natAbs ≤ 1000000 * 1000000 := by
  rw [Int.natAbs_mul]
  exact Nat.mul_le_mul (by omega) (by omega)
 omega
theorem k_value (hf : fac f = true) : ∀ {n k : Nat} {e : Expr}, Ht N n e → 2 * n ≤ k → kd e ≠ 0 → (rec99 N k).q99 e f = some (val f e)
 | 0, _, _, h, _, _ => h.elim
 | n + 1, 0, _, _, h, _ => absurd h (by omega)
 | n + 1, 1, _, _, h, _ => absurd h (by omega)
 | n + 1, k + 2, e, ⟨h1, h2, h3⟩, hk, h0 => by
  have hq : ∀ x, x ∈ e.Kids → kd x ≠ 0 → (rec99 N k).q99 x f = some (val f x) := fun x hx => k_value hf (h3 x hx) (by omega)
  have hv : ∀ x, x ∈ e.Kids → kd x ≠ 0 → vok (kd x) (val f x) := fun x hx => val_ok hf (h3 x hx)
  have T : ∀ x, x ∈ e.Kids → kd x = 2 → val f x = 0 ∨ val f x = 1 := fun x hx h => (hv x hx (by rw [h]; decide)).1 h
  have U : ∀ x, x ∈ e.Kids → kd x = 1 → -1000000 ≤ val f x ∧ val f x ≤ 1000000 := fun x hx h => (hv x hx (by rw [h]; decide)).2 h
  have hi : ∀ (i : Nat) x, e.Kids[i]? = some x → kd x ≠ 0 → (rec99 N (k + 1)).q155 (i : Int) e f = some (val f x) := fun i x hx hx0 => by
   show rules_value_1_S N (rec99 N k).q99 i e f = _
   unfold rules_value_1_S
   rw [idx_nat', hx, Option.bind_some, hq x (List.mem_of_getElem? hx) hx0]
   rfl
  have hi0 : ∀ x, e.Kids[0]? = some x → kd x ≠ 0 → (rec99 N (k + 1)).q155 0 e f = some (val f x) := hi 0
  have hi1 : ∀ x, e.Kids[1]? = some x → kd x ≠ 0 → (rec99 N (k + 1)).q155 1 e f = some (val f x) := hi 1
  have hi2 : ∀ x, e.Kids[2]? = some x → kd x ≠ 0 → (rec99 N (k + 1)).q155 2 e f = some (val f x) := hi 2
  show rules_value_S N (rec99 N (k + 1)).q155 e f = _
  unfold rules_value_S
  rw [val_eq]
  have hm := kd_mk h0
  generalize kd e = t at hm
  cases hm with
  | num h _ _ hk => rw [h]; rfl
  | field h h1 h2 hk =>
   have hl := fac_len hf
   rw [h]
   show ((idx f e.Value).bind fun x32 => some x32) = some f[e.Value.toNat]!
   obtain ⟨m, hm⟩ : ∃ m : Nat, e.Value = m := ⟨e.Value.toNat, by omega⟩
   have hm' : m < f.length := by omega
   rw [hm, idx_nat hm', Int.toNat_natCast, getElem!_pos f m hm']
   rfl
  | deny h hv x hk h1 =>
   have a := hi0 x (by rw [hk]; rfl) (by rw [h1]; decide)
   have b := T x (by rw [hk]; simp) h1
   rw [h, hk]
   show ((rec99 N (k + 1)).q155 0 e f).bind _ = some (1 - val f x)
   rw [a, Option.bind_some, W64_small (by omega) (by omega)]
  | logic h hv x y hk h1 h2 =>
   have a := hi0 x (by rw [hk]; rfl) (by rw [h1]; decide)
   have b := hi1 y (by rw [hk]; rfl) (by rw [h2]; decide)
   have a' := T x (by rw [hk]; simp) h1
   have b' := T y (by rw [hk]; simp) h2
   rcases h with h | h <;> rw [h, hk]
   ·show ((rec99 N (k + 1)).q155 0 e f).bind _ = some (min (val f x) (val f y))
    rw [a, Option.bind_some, b, Option.bind_some]
    congr 1
    rcases a' with a' | a' <;> rcases b' with b' | b' <;> rw [a', b'] <;> decide
   ·show ((rec99 N (k + 1)).q155 0 e f).bind _ = some (max (val f x) (val f y))
    rw [a, Option.bind_some, b, Option.bind_some]
  | test h hv x y hk h1 h2 =>
   have a := hi0 x (by rw [hk]; rfl) (by rw [h1]; decide)
   have b := hi1 y (by rw [hk]; rfl) (by rw [h2]; decide)
   rcases h with h | h <;> rw [h, hk]
   ·show ((rec99 N (k + 1)).q155 0 e f).bind _ = some (bitv (val f x == val f y))
    rw [a, Option.bind_some, b, Option.bind_some, m_one]; rfl
   ·show ((rec99 N (k + 1)).q155 0 e f).bind _ = some (bitv (decide (val f x < val f y)))
    rw [a, Option.bind_some, b, Option.bind_some, m_one]; rfl
  | sum h hv x y hk h1 h2 =>
   have a := hi0 x (by rw [hk]; rfl) (by rw [h1]; decide)
   have b := hi1 y (by rw [hk]; rfl) (by rw [h2]; decide)
   have a' := U x (by rw [hk]; simp) h1
   have b' := U y (by rw [hk]; simp) h2
   have c' := mul_small a'.1 a'.2 b'.1 b'.2
   rcases h with h | h | h <;> rw [h, hk]
   ·show ((rec99 N (k + 1)).q155 0 e f).bind _ = some (hold (val f x + val f y))
    rw [a, Option.bind_some, b, Option.bind_some, W64_small (by omega) (by omega), m_held]; rfl
   ·show ((rec99 N (k + 1)).q155 0 e f).bind _ = some (hold (val f x - val f y))
    rw [a, Option.bind_some, b, Option.bind_some, W64_small (by omega) (by omega), m_held]; rfl
   ·show ((rec99 N (k + 1)).q155 0 e f).bind _ = some (hold (val f x * val f y))
    rw [a, Option.bind_some, b, Option.bind_some, W64_small (by omega) (by omega), m_held]; rfl
  | cond h hv c x y hk h0 h1 h2 =>
   have z := hi0 c (by rw [hk]; rfl) (by rw [h0]; decide)
   have a := hi1 x (by rw [hk]; rfl) (by rw [h1]; decide)
   have b := hi2 y (by rw [hk]; rfl) (by rw [h2]; decide)
   have z' := T c (by rw [hk]; simp) h0
   rw [h, hk]
   show ((rec99 N (k + 1)).q155 0 e f).bind _ = some (if val f c = 1 then val f x else val f y)
   rw [z, Option.bind_some]
   rcases z' with z' | z' <;> rw [z']
   ·rw [show W64 (2 - 0) = 2 from rfl, b]; rfl
   ·rw [show W64 (2 - 1) = 1 from rfl, a]; rfl
theorem s_value (hf : fac f = true) {e : Expr} (h : Fit N e) (h0 : kd e ≠ 0) : rules_value N e f = some (val f e) := by obtain ⟨n, h1, h2⟩ := h; exact k_value hf h1 (by omega) h0
theorem s_validFacts (hN : 100 < N) : rules_validFacts N f = some (fac f) := by
 unfold rules_validFacts fac slices_ContainsFunc_int_int slices_IndexFunc_int_int
 by_cases hl : f.length = 14
 ·rw [show ((f.length : Int) == 14) = true by simp; omega, cond_true]
  rw [iter_first f (fun n => decide (n < 0) || decide (n > 1000000)) (fun i => (i : Int)) (fun i hi => by
   unfold slices_IndexFunc_int_int_L0
   rw [lt_t hi, cond_true, idx_nat hi]; rfl) (by unfold slices_IndexFunc_int_int_L0; rw [lt_f, cond_false]) (by omega) (by omega)]
  have : (f.all fun n => decide (0 ≤ n) && decide (n ≤ 1000000)) = !(f.any fun n => decide (n < 0) || decide (n > 1000000)) := by
   rw [List.not_any_eq_all_not]
   congr 1
   funext n
   simp
   rw [Bool.eq_iff_iff]; simp
  rw [this]
  cases f.any fun n => decide (n < 0) || decide (n > 1000000) with
  | true => simp [Flow.k, hl]
  | false => simp [Flow.k, hl]
 ·rw [show ((f.length : Int) == 14) = false by simp; omega, cond_false]
  simp [hl]
end
end Go.Proofs.YtaihlcdkcampbaaGreatDoor
namespace Go.Proofs.YtaihlcdkcampbaaGreatDoor
open Go.Proofs
def slices_IndexFunc_api_Clause_api_Clause_L0 (N : Nat) (x0 : (List Clause)) (x1 : (Clause → Option Bool)) : Int → Option (Flow Int Int) := fun s24 =>
 (bif (decide (s24 < (x0.length : Int))) then ((idx x0 s24).bind fun x47 => ((x1 x47).bind fun r61 => (bif r61 then some (.ret s24) else some (.next (W64 (s24 + 1)))))) else some (.done s24))
def slices_IndexFunc_api_Clause_api_Clause (N : Nat) (x0 : (List Clause)) (x1 : (Clause → Option Bool)) : Option Int :=
 ((iter (slices_IndexFunc_api_Clause_api_Clause_L0 N x0 x1) N 0).bind fun o => o.k (fun r => some r) (fun s33 => some (-1)))
theorem co_slices_IndexFunc_api_Clause_api_Clause : CallOk Tryz.prog 162 := fun _ _ => by kernel_rfl
theorem c_slices_IndexFunc_api_Clause_api_Clause (N : Nat) (w0 : World) (F0 : Mem) (hF : ∀ b o, F0 b = some o → w0.heap[b]? = some o) (x0 : (List Clause)) (a0_0 : Option Addr) (n0_0 : Nat) (hb0_0 : LC x0.length n0_0) (hs0_0 : SlA tClause F0 a0_0 x0) (gx1 : FuncId) (fx1 kx1 : List Value) (x1 : Clause → Option Bool) (hox1 : CallOk Tryz.prog gx1) (hpx1 : Fn148 F0 gx1 fx1 kx1 x1) (r : Int) (h : slices_IndexFunc_api_Clause_api_Clause N x0 x1 = some r) :
  Calls Tryz.prog 162 ([(.slice a0_0 x0.length n0_0), (.func (.func gx1) fx1.toArray kx1.toArray)] : List Value).toArray w0 (FRet w0 F0 fun F' v => v = (vi r)) := by
 have hs0 := HS.start hF
 refine Go 19 Tryz.func162 ?_
 refine Sq (Rg [0] ?_)
 refine Vs 1 ?_
 refine Nss ?_
 refine Sq (Rg [0, 1, 2] ?_)
 refine Vs 3 ?_
 refine Nt ?_
 obtain ⟨o21, ho22, h23⟩ := bind_some h
 refine CWP.cut (fun f w => ∃ (s33 : Int) (F2 : Mem), o21 = .done s33 ∧ HS w0 F0 w F2 [] ∧ Mem.le F0 F2 ∧ FI f [] []) ?_ ?_
 ·refine Bk ?_
  refine CWP.loop (by kernel_rfl) (fun m f w => ∃ (s24 : Int) (F1 : Mem), iter (slices_IndexFunc_api_Clause_api_Clause_L0 N x0 x1) m s24 = some o21 ∧ HS w0 F0 w F1 [] ∧ Mem.le F0 F1 ∧ FI f [] [(0, (.slice a0_0 x0.length n0_0)), (1, (.func (.func gx1) fx1.toArray kx1.toArray)), (7, (vi (x0.length : Int))), (8, (vi s24))]) N ⟨0, F0, ho22, hs0, (Mem.le.refl _), fI⟩ ?_
  rintro m38 f w25 ⟨s24, F1, hit39, hs26, le27, ⟨_, rfl⟩⟩
  obtain ⟨m40, fl41, rfl, hb42, hnx43⟩ := iter_step hit39
  refine Sq (Rg [0] ?_)
  refine Vs 1 ?_
  refine Nss ?_
  refine Cd hb42 (fun hb44 h45 => ?_) (fun hb44 h46 => ?_)
  ·refine Sc ?_
   refine thenQ_nrm ?_
   refine Sq ?_
   refine Bk ?_
   refine Sq (Rg [0, 1] ?_)
   refine Vs 2 ?_
   refine Nss (Rg [0, 1, 2, 3, 4, 5] ?_)
   refine Vs 3 ?_
   obtain ⟨x47, hx48, h50⟩ := bind_some h45
   obtain ⟨hi49, hx48'⟩ := idx_spec hx48
   obtain ⟨b51, o52, C53, E54, fz55, rfl, hF57, hE58⟩ := SlA.open (SlA.mono hs0_0 le27) hx48'
   obtain ⟨ae59_2, ne59_2, ae59_5, ne59_5, hc60, hbe59_2, hse59_2, hbe59_5, hse59_5⟩ := hE58 _ _ hx48'
   refine Ix hi49 ?_
   refine Lx 0 (hs26.pers _ _ hF57) hc60 ?_
   obtain ⟨r61, hr62, h63⟩ := bind_some h50
   refine Cq hox1 hs26 (hpx1 w25 F1 (x47) ae59_2 ne59_2 hbe59_2 hse59_2 ae59_5 ne59_5 hbe59_5 hse59_5 _ le27 hs26.pers hr62) ?_
   rintro _ F3 w65 hs66 le67 rfl
   refine Nt ?_
   refine Cd h63 (fun hb69 h70 => ?_) (fun hb69 h71 => ?_)
   ·refine Sq (Rg [0, 1] ?_)
    refine Vs 2 ?_
    refine Nt ?_
    refine Rt ?_
    refine blockQ_ret ?_
    refine thenQ_ret ?_
    refine thenQ_ret ?_
    refine blockQ_ret ?_
    have hret := iter_ret h70 hnx43
    subst hret
    refine .inr ?_
    refine thenQ_ret ?_
    obtain rfl := some_inj h23
    exact Re [(vi s24)] hs66 rfl
   ·refine Sc ?_
    refine blockQ_nrm ?_
    refine thenQ_nrm ?_
    refine Rg [0, 1] ?_
    refine Vs 2 ?_
    refine RWP.nil ?_
    have hn72 := iter_next h71 hnx43
    exact ⟨m40, Nat.lt_succ_self _, (W64 (s24 + 1)), F3, hn72, hs66, (le27.trans le67), fI⟩
  ·refine Ex ?_
   refine thenQ_ex ?_
   refine thenQ_ex ?_
   refine blockQ_hit rfl ?_
   have ho73 := iter_done h46 hnx43
   exact .inl ⟨rfl, s24, F1, ho73, hs26, le27, fI⟩
 ·rintro f w34 ⟨s33, F2, rfl, hs35, le36, ⟨_, rfl⟩⟩
  have h74 := k_done h23
  refine thenQ_nrm ?_
  refine Sq (Rg [0] ?_)
  refine Vs 1 ?_
  refine Nt ?_
  refine Rt ?_
  obtain rfl := some_inj h74
  exact Re [(vi (-1))] hs35 rfl
end Go.Proofs.YtaihlcdkcampbaaGreatDoor
namespace Go.Proofs.YtaihlcdkcampbaaGreatDoor
open Go.Proofs
end Go.Proofs.YtaihlcdkcampbaaGreatDoor
namespace Go.Proofs.YtaihlcdkcampbaaGreatDoor
open Go.Proofs
end Go.Proofs.YtaihlcdkcampbaaGreatDoor
namespace Go.Proofs.YtaihlcdkcampbaaGreatDoor
open Go.Proofs
end Go.Proofs.YtaihlcdkcampbaaGreatDoor
namespace Go.Proofs.YtaihlcdkcampbaaGreatDoor
open Go.Proofs
def rules_first_1 (N : Nat) (x0 : Clause) (z0 : (List Int)) : Option Bool :=
 ((rules_value N x0.When z0).bind fun r24 => some (r24 == 1))
theorem co_rules_first_1 : CallOk Tryz.prog 163 := fun _ _ => by kernel_rfl
theorem c_rules_first_1 (N : Nat) (w0 : World) (F0 : Mem) (hF : ∀ b o, F0 b = some o → w0.heap[b]? = some o) (x0 : Clause) (a0_2 : Option Addr) (n0_2 : Nat) (hb0_2 : LC x0.When.Kids.length n0_2) (hs0_2 : SlA tExpr F0 a0_2 x0.When.Kids) (a0_5 : Option Addr) (n0_5 : Nat) (hb0_5 : LC x0.Then.Kids.length n0_5) (hs0_5 : SlA tExpr F0 a0_5 x0.Then.Kids) (bz0 : Nat) (z0 : (List Int)) (az0_0 : Option Addr) (nz0_0 : Nat) (hbz0_0 : LC z0.length nz0_0) (hsz0_0 : SlA tInt F0 az0_0 z0) (hz0 : F0 bz0 = some (oc #[(.slice az0_0 z0.length nz0_0)] 47)) (r : Bool) (h : rules_first_1 N x0 z0 = some r) :
  Calls Tryz.prog 163 ([(.agg (kClause x0 a0_2 n0_2 a0_5 n0_5)), (pt bz0 0)] : List Value).toArray w0 (FRet w0 F0 fun F' v => v = (.bool r)) := by
 have hs0 := HS.start hF
 refine Go 9 Tryz.func163 ?_
 refine Sq (Rg [0, 1] ?_)
 refine Bx' 56 (kClause x0 a0_2 n0_2 a0_5 n0_5) hs0 (fun b21 w22 hs23 => ?_)
 refine Vs 1 ?_
 refine Nss (Rg [0, 1, 2, 3, 4, 5] ?_)
 refine Vs 1 ?_
 refine Ld hs23.at0 ?_
 refine Ld (hs23.pers _ _ hz0) ?_
 obtain ⟨r24, hr25, h26⟩ := bind_some h
 refine Cl' co_rules_value hs23 (c_rules_value N w22 F0 hs23.pers (x0.When) a0_2 n0_2 hb0_2 hs0_2 (z0) az0_0 nz0_0 hbz0_0 hsz0_0 _ hr25) ?_
 rintro _ F1 w28 hs29 le30 rfl
 refine Vs 2 ?_
 refine Nt ?_
 refine Rt ?_
 obtain rfl := some_inj h26
 exact Re [(.bool (r24 == 1))] hs29 rfl
end Go.Proofs.YtaihlcdkcampbaaGreatDoor
namespace Go.Proofs.YtaihlcdkcampbaaGreatDoor
open Go.Proofs
def rules_first (N : Nat) (x0 : (List Clause)) (x1 : (List Int)) : Option Int :=
 ((slices_IndexFunc_api_Clause_api_Clause N x0 (fun y0 => rules_first_1 N y0 x1)).bind fun r27 => some r27)
theorem co_rules_first : CallOk Tryz.prog 103 := fun _ _ => by kernel_rfl
theorem c_rules_first (N : Nat) (w0 : World) (F0 : Mem) (hF : ∀ b o, F0 b = some o → w0.heap[b]? = some o) (x0 : (List Clause)) (a0_0 : Option Addr) (n0_0 : Nat) (hb0_0 : LC x0.length n0_0) (hs0_0 : SlA tClause F0 a0_0 x0) (x1 : (List Int)) (a1_0 : Option Addr) (n1_0 : Nat) (hb1_0 : LC x1.length n1_0) (hs1_0 : SlA tInt F0 a1_0 x1) (r : Int) (h : rules_first N x0 x1 = some r) :
  Calls Tryz.prog 103 ([(.slice a0_0 x0.length n0_0), (.slice a1_0 x1.length n1_0)] : List Value).toArray w0 (FRet w0 F0 fun F' v => v = (vi r)) := by
 have hs0 := HS.start hF
 refine Go 8 Tryz.func103 ?_
 refine Sq (Rg [0, 1] ?_)
 refine Bx' 47 #[(.slice a1_0 x1.length n1_0)] hs0 (fun b21 w22 hs23 => ?_)
 refine Vs 1 ?_
 refine Nss (Rg [0, 1, 2, 3] ?_)
 refine Vs 2 ?_
 obtain ⟨F1, hs24, le25, hF26⟩ := hs23.fc0
 obtain ⟨r27, hr28, h29⟩ := bind_some h
 refine Cl' co_slices_IndexFunc_api_Clause_api_Clause hs24 (c_slices_IndexFunc_api_Clause_api_Clause N w22 F1 hs24.pers (x0) a0_0 n0_0 hb0_0 (SlA.mono hs0_0 le25) 163 [] [(pt b21 0)] (fun y0 => rules_first_1 N y0 x1) co_rules_first_1 (fun w1 F1 y0 ay0_2 ny0_2 hby0_2 hsy0_2 ay0_5 ny0_5 hby0_5 hsy0_5 r le1 pe1 hr1 => c_rules_first_1 N w1 F1 pe1  y0 ay0_2 ny0_2 hby0_2 hsy0_2 ay0_5 ny0_5 hby0_5 hsy0_5 b21 x1 a1_0 n1_0 hb1_0 (SlA.mono (SlA.mono hs1_0 le25) le1) (le1 _ _ hF26) r hr1) _ hr28) ?_
 rintro _ F2 w31 hs32 le33 rfl
 refine Vs 1 ?_
 refine Nt ?_
 refine Rt ?_
 obtain rfl := some_inj h29
 exact Re [(vi r27)] hs32 rfl
end Go.Proofs.YtaihlcdkcampbaaGreatDoor
namespace Go.Proofs.YtaihlcdkcampbaaGreatDoor
open Go.Proofs
end Go.Proofs.YtaihlcdkcampbaaGreatDoor
namespace Go.Proofs.YtaihlcdkcampbaaGreatDoor
open Go.Proofs
end Go.Proofs.YtaihlcdkcampbaaGreatDoor
namespace Go.Proofs.YtaihlcdkcampbaaGreatDoor
open Go.Proofs
end Go.Proofs.YtaihlcdkcampbaaGreatDoor
namespace Go.Proofs.YtaihlcdkcampbaaGreatDoor
open Go.Proofs
def rules_Eval (N : Nat) (x0 : Expr) (x1 : (List Int)) : Option (Int × Int) :=
 ((rules_sound N x0).bind fun r24 => (bif (!r24) then some (0, 61) else ((rules_validFacts N x1).bind fun r35 => (bif (!r35) then some (0, 63) else ((rules_value N x0 x1).bind fun r46 => some (r46, 0))))))
theorem co_rules_Eval : CallOk Tryz.prog 36 := fun _ _ => by kernel_rfl
theorem c_rules_Eval (N : Nat) (w0 : World) (F0 : Mem) (hF : ∀ b o, F0 b = some o → w0.heap[b]? = some o) (x0 : Expr) (a0_2 : Option Addr) (n0_2 : Nat) (hb0_2 : LC x0.Kids.length n0_2) (hs0_2 : SlA tExpr F0 a0_2 x0.Kids) (x1 : (List Int)) (a1_0 : Option Addr) (n1_0 : Nat) (hb1_0 : LC x1.length n1_0) (hs1_0 : SlA tInt F0 a1_0 x1) (r : (Int × Int)) (h : rules_Eval N x0 x1 = some r) :
  Calls Tryz.prog 36 ([(.agg (kExpr x0 a0_2 n0_2)), (.slice a1_0 x1.length n1_0)] : List Value).toArray w0 (FRet w0 F0 fun F' v => v = (.tuple #[(vi r.1), (vi r.2)])) := by
 have hs0 := HS.start hF
 refine Go 17 Tryz.func36 ?_
 refine Sq (Rg [0, 1, 2] ?_)
 refine Bx' 33 (kExpr x0 a0_2 n0_2) hs0 (fun b21 w22 hs23 => ?_)
 refine Vs 2 ?_
 refine Nss ?_
 refine Bk ?_
 refine Sq (Rg [0, 1, 2, 3] ?_)
 refine Ld hs23.at0 ?_
 obtain ⟨r24, hr25, h26⟩ := bind_some h
 refine Cl' co_rules_sound hs23 (c_rules_sound N w22 F0 hs23.pers (x0) a0_2 n0_2 hb0_2 hs0_2 _ hr25) ?_
 rintro _ F1 w28 hs29 le30 rfl
 refine Vs 2 ?_
 refine Nt ?_
 refine Cd h26 (fun hb32 h33 => ?_) (fun hb32 h34 => ?_)
 ·refine Sq (Rg [0, 1] ?_)
  refine Vs 2 ?_
  refine Nt ?_
  refine Rt ?_
  refine blockQ_ret ?_
  refine thenQ_ret ?_
  obtain rfl := some_inj h33
  exact Re [(vi 0), (vi 61)] hs29 rfl
 ·refine Sq (Rg [0, 1, 2, 3] ?_)
  refine Vs 1 ?_
  obtain ⟨r35, hr36, h37⟩ := bind_some h34
  refine Cl' co_rules_validFacts hs29 (c_rules_validFacts N w28 F1 hs29.pers (x1) a1_0 n1_0 hb1_0 (SlA.mono hs1_0 le30) _ hr36) ?_
  rintro _ F2 w39 hs40 le41 rfl
  refine Vs 2 ?_
  refine Nt ?_
  refine Cd h37 (fun hb43 h44 => ?_) (fun hb43 h45 => ?_)
  ·refine Sq (Rg [0, 1] ?_)
   refine Vs 2 ?_
   refine Nt ?_
   refine Rt ?_
   refine blockQ_ret ?_
   refine thenQ_ret ?_
   obtain rfl := some_inj h44
   exact Re [(vi 0), (vi 63)] hs40 rfl
  ·refine Sc ?_
   refine blockQ_nrm ?_
   refine thenQ_nrm ?_
   refine Sq (Rg [0, 1, 2, 3, 4] ?_)
   refine Ld hs40.at0 ?_
   refine Vs 1 ?_
   obtain ⟨r46, hr47, h48⟩ := bind_some h45
   refine Cl' co_rules_value hs40 (c_rules_value N w39 F2 hs40.pers (x0) a0_2 n0_2 hb0_2 (SlA.mono hs0_2 (le30.trans le41)) (x1) a1_0 n1_0 hb1_0 (SlA.mono hs1_0 (le30.trans le41)) _ hr47) ?_
   rintro _ F3 w50 hs51 le52 rfl
   refine Vs 2 ?_
   refine Nt ?_
   refine Rt ?_
   obtain rfl := some_inj h48
   exact Re [(vi r46), (vi 0)] hs51 rfl
end Go.Proofs.YtaihlcdkcampbaaGreatDoor
namespace Go.Proofs.YtaihlcdkcampbaaGreatDoor
open Go.Proofs
end Go.Proofs.YtaihlcdkcampbaaGreatDoor
namespace Go.Proofs.YtaihlcdkcampbaaGreatDoor
open Go.Proofs
end Go.Proofs.YtaihlcdkcampbaaGreatDoor
namespace Go.Proofs.YtaihlcdkcampbaaGreatDoor
open Go.Proofs
end Go.Proofs.YtaihlcdkcampbaaGreatDoor
namespace Go.Proofs.YtaihlcdkcampbaaGreatDoor
open Go.Proofs
end Go.Proofs.YtaihlcdkcampbaaGreatDoor
namespace Go.Proofs.YtaihlcdkcampbaaGreatDoor
open Go.Proofs
end Go.Proofs.YtaihlcdkcampbaaGreatDoor
namespace Go.Proofs.YtaihlcdkcampbaaGreatDoor
open Go.Proofs
def slices_Grow_api_Clause_api_Clause (N : Nat) (x1 : Int) : Option (List Clause) :=
 (bif (decide (x1 < 0)) then none else (bif (decide ((W64 (x1 - (W64 (0 - (([] : List Clause).length : Int))))) > 0)) then ((mk0 ({ When := ({ Op := 0, Value := 0, Kids := ([] : List Expr) } : Expr), Then := ({ Op := 0, Value := 0, Kids := ([] : List Expr) } : Expr) } : Clause) (W64 (x1 - (W64 (0 - (([] : List Clause).length : Int)))))).bind fun r7 => ((sub r7 0 (([] : List Clause).length : Int)).bind fun r17 => some r17)) else some ([] : List Clause)))
theorem co_slices_Grow_api_Clause_api_Clause : CallOk Tryz.prog 173 := fun _ _ => by kernel_rfl
theorem c_slices_Grow_api_Clause_api_Clause (N : Nat) (w0 : World) (F0 : Mem) (hF : ∀ b o, F0 b = some o → w0.heap[b]? = some o) (x1 : Int) (r : (List Clause)) (h : slices_Grow_api_Clause_api_Clause N x1 = some r) :
  Calls Tryz.prog 173 ([.slice none 0 0, (vi x1)] : List Value).toArray w0 (FRetO w0 F0 fun F' v L' => ∃ (a : Option Addr) (n : Nat) (e : Option Nat × Obj), v = .slice a r.length n ∧ L' = [e] ∧ RowR tClause 56 F' a n r e) := by
 have hs0 := HS.start hF
 refine calls_of (n := 27) (c := bodyOf Tryz.f173) Tryz.func173 (by kernel_rfl) (by kernel_rfl) (by kernel_rfl) ?_
 refine Sq (Rg [0] ?_)
 refine Vs 1 ?_
 refine Nss ?_
 refine Sq (Rg [0, 1] ?_)
 refine Vs 1 ?_
 refine Vs 1 ?_
 refine Nt ?_
 refine Cd h (fun hb1 h2 => ?_) (fun hb1 h3 => ?_)
 ·refine Rg [0, 1] ?_
  refine V 7 20 (run_mkIface' (t := 9) (x := (.const (.string ⟨([99, 97, 110, 110, 111, 116, 32, 98, 101, 32, 110, 101, 103, 97, 116, 105, 118, 101] : List UInt8).toArray⟩))) (v := (.string ⟨(([99, 97, 110, 110, 111, 116, 32, 98, 101, 32, 110, 101, 103, 97, 116, 105, 118, 101] : List UInt8)).toArray⟩)) rfl (by kernel_rfl)) ?_
  cases h2
 ·refine Sc ?_
  refine thenQ_nrm ?_
  refine Sq ?_
  refine Sq (Rg [0, 1, 2, 3, 4, 5, 6, 7] ?_)
  refine Vs 1 ?_
  refine Vs 1 ?_
  refine V 10 3 (run_cap_slice (x := (.tmp 9)) (ats := #[23]) (a := none) (n := 0) (c := 0) (E := 56) (s := 6) (by_ := 80) rfl rfl (by kernel_rfl)) ?_
  refine Vs 1 ?_
  refine Vs 1 ?_
  refine Vs 1 ?_
  refine Vs 1 ?_
  refine Vs 1 ?_
  refine Nss (Rg [0, 1] ?_)
  refine Vs 1 ?_
  refine Vs 1 ?_
  refine Nt ?_
  refine Cd h3 (fun hb4 h5 => ?_) (fun hb4 h6 => ?_)
  ·refine Rg [0, 1, 2, 3, 4, 5, 6, 7, 8, 9] ?_
   refine Vs 1 ?_
   refine Vs 1 ?_
   refine V 19 3 (run_cap_slice (x := (.tmp 18)) (ats := #[23]) (a := none) (n := 0) (c := 0) (E := 56) (s := 6) (by_ := 80) rfl rfl (by kernel_rfl)) ?_
   refine V 20 23 (run_slice_nil (t := 23) (x := (.tmp 17)) (y := (.tmp 19)) (E := 56) (s := 6) (by_ := 80) rfl (by kernel_rfl) (by kernel_rfl) rfl) ?_
   refine Vs 1 ?_
   obtain ⟨r7, hm8, h9⟩ := bind_some h5
   refine RWP.appendNil (dst := (some 22)) (ty := 23) (g := none) (by kernel_rfl) rfl (x := (.tmp 20)) (y := (.tmp 21)) (t := 23) (t2 := 3) (by_ := 80) (z := (.agg #[(vi 0), (vi 0), (.slice none ([] : List Expr).length 0), (vi 0), (vi 0), (.slice none ([] : List Expr).length 0)])) (T := tClause) (E := 56) rfl rfl (by kernel_rfl) (by decide) (by kernel_rfl) (by kernel_rfl) (z0 := ({ When := ({ Op := 0, Value := 0, Kids := ([] : List Expr) } : Expr), Then := ({ Op := 0, Value := 0, Kids := ([] : List Expr) } : Expr) } : Clause)) (fun _ => ⟨none, 0, none, 0, rfl, LC.nil, (.inl rfl), LC.nil, (.inl rfl)⟩) (by decide) hs0 hm8 (fun a10 n11 e12 w13 (hs14 : HS w0 F0 w13 F0 [e12]) hr15 => ?_)
   refine Vs 1 ?_
   refine Vs 1 ?_
   obtain ⟨r17, hr18, h19⟩ := bind_some h9
   refine RWP.sliceRow (T := tClause) (x := (.tmp 22)) (y := (.tmp 24)) (t := 23) (E := 56) (by_ := 80) (c := n11) (a := a10) (l := r7) (r := r17) (ih := (([] : List Clause).length : Int)) (dst := (some 25)) (ty := 23) (g := none) (by kernel_rfl) rfl rfl (by kernel_rfl) (by kernel_rfl) hr15 rfl hr18 (fun hr20 => ?_)
   refine Vs 1 ?_
   refine Nss (Rg [0, 1] ?_)
   refine Vs 1 ?_
   refine Vs 1 ?_
   refine Nt ?_
   refine Rt ?_
   have hfin := some_inj h19
   subst hfin
   exact ⟨rfl, (.slice a10 r17.length n11), res_of (l := [.tmp 4]) (by kernel_rfl) (vs := [(.slice a10 r17.length n11)]) ⟨rfl, trivial⟩, (.slice a10 r17.length n11), F0, _, rfl, hs14, _, _, _, rfl, rfl, hr20⟩
  ·refine Sc ?_
   refine thenQ_nrm ?_
   refine Sq (Rg [0, 1] ?_)
   refine Vs 1 ?_
   refine Vs 1 ?_
   refine Nt ?_
   refine Rt ?_
   have hs21 := hs0.dummy (oc #[] 0)
   have hfin := some_inj h6
   subst hfin
   exact ⟨rfl, (.slice none ([] : List Clause).length 0), res_of (l := [.tmp 4]) (by kernel_rfl) (vs := [(.slice none ([] : List Clause).length 0)]) ⟨rfl, trivial⟩, (.slice none ([] : List Clause).length 0), F0, _, rfl, hs21, _, _, _, rfl, rfl, (RowR.nil tClause 56 F0 _)⟩
end Go.Proofs.YtaihlcdkcampbaaGreatDoor
namespace Go.Proofs.YtaihlcdkcampbaaGreatDoor
open Go.Proofs
def slices_Concat_api_Clause_api_Clause_L0 (N : Nat) (x0 : (List (List Clause))) : (Int × Int) → Option (Flow (List Clause) (Int × Int)) := fun s24 =>
 (bif (decide (s24.2 < (x0.length : Int))) then ((idx x0 s24.2).bind fun x50 => (bif (decide ((W64 (s24.1 + (x50.length : Int))) < 0)) then none else some (.next ((W64 (s24.1 + (x50.length : Int))), (W64 (s24.2 + 1)))))) else some (.done (s24.1, s24.2)))
def slices_Concat_api_Clause_api_Clause_L1 (N : Nat) (x0 : (List (List Clause))) (s34 : (Int × Int)) (r70 : (List Clause)) : (List Clause × Int) → Option (Flow (List Clause) (List Clause × Int)) := fun s87 =>
 (bif (decide (s87.2 < (x0.length : Int))) then ((idx x0 s87.2).bind fun x111 => ((apnd s87.1 x111).bind fun r125 => some (.next (r125, (W64 (s87.2 + 1)))))) else some (.done (s87.1, s87.2)))
def slices_Concat_api_Clause_api_Clause (N : Nat) (x0 : (List (List Clause))) : Option (List Clause) :=
 ((iter (slices_Concat_api_Clause_api_Clause_L0 N x0) N (0, 0)).bind fun o => o.k (fun r => some r) (fun s34 => ((slices_Grow_api_Clause_api_Clause N s34.1).bind fun r70 => ((iter (slices_Concat_api_Clause_api_Clause_L1 N x0 s34 r70) N (r70, 0)).bind fun o => o.k (fun r => some r) (fun s96 => some s96.1)))))
theorem co_slices_Concat_api_Clause_api_Clause : CallOk Tryz.prog 122 := fun _ _ => by kernel_rfl
theorem c_slices_Concat_api_Clause_api_Clause (N : Nat) (w0 : World) (F0 : Mem) (hF : ∀ b o, F0 b = some o → w0.heap[b]? = some o) (x0 : (List (List Clause))) (a0_0 : Option Addr) (n0_0 : Nat) (hb0_0 : LC x0.length n0_0) (hs0_0 : SlA (tSl tClause) F0 a0_0 x0) (r : (List Clause)) (h : slices_Concat_api_Clause_api_Clause N x0 = some r) :
  Calls Tryz.prog 122 ([(.slice a0_0 x0.length n0_0)] : List Value).toArray w0 (FRet w0 F0 fun F' v => ∃ (aq0_0 : Option Addr) (nq0_0 : Nat), v = (.slice aq0_0 r.length nq0_0) ∧ LC r.length nq0_0 ∧ SlA tClause F' aq0_0 r) := by
 have hs0 := HS.start hF
 refine Go 36 Tryz.func122 ?_
 refine Sq (Rg [0] ?_)
 refine Vs 1 ?_
 refine Nss (Rg [0] ?_)
 refine Vs 1 ?_
 refine Nss ?_
 refine Sq (Rg [0, 1, 2] ?_)
 refine Vs 3 ?_
 refine Nt ?_
 obtain ⟨o21, ho22, h23⟩ := bind_some h
 refine CWP.cut (fun f w => ∃ (s34 : (Int × Int)) (F2 : Mem), o21 = .done s34 ∧ HS w0 F0 w F2 [] ∧ Mem.le F0 F2 ∧ FI f [] [(0, (.slice a0_0 x0.length n0_0)), (3, (vi s34.1))]) ?_ ?_
 ·refine Bk ?_
  refine CWP.loop (by kernel_rfl) (fun m f w => ∃ (s24 : (Int × Int)) (F1 : Mem), iter (slices_Concat_api_Clause_api_Clause_L0 N x0) m s24 = some o21 ∧ HS w0 F0 w F1 [] ∧ Mem.le F0 F1 ∧ FI f [] [(0, (.slice a0_0 x0.length n0_0)), (3, (vi s24.1)), (9, (.slice a0_0 x0.length n0_0)), (10, (vi (x0.length : Int))), (11, (vi s24.2))]) N ⟨(0, 0), F0, ho22, hs0, (Mem.le.refl _), fI⟩ ?_
  rintro m41 f w25 ⟨s24, F1, hit42, hs26, le27, ⟨_, rfl⟩⟩
  obtain ⟨m43, fl44, rfl, hb45, hnx46⟩ := iter_step hit42
  refine Sq (Rg [0] ?_)
  refine Vs 1 ?_
  refine Nss ?_
  refine Cd hb45 (fun hb47 h48 => ?_) (fun hb47 h49 => ?_)
  ·refine Sc ?_
   refine thenQ_nrm ?_
   refine Sq ?_
   refine Bk ?_
   refine Sq (Rg [0, 1, 2] ?_)
   obtain ⟨x50, hx51, h53⟩ := bind_some h48
   obtain ⟨hi52, hx51'⟩ := idx_spec hx51
   obtain ⟨b54, o55, C56, E57, fz58, rfl, hF60, hE61⟩ := SlA.open (SlA.mono hs0_0 le27) hx51'
   obtain ⟨ae62_0, ne62_0, hc63, hbe62_0, hse62_0⟩ := hE61 _ _ hx51'
   refine Ix hi52 ?_
   refine Lx 0 (hs26.pers _ _ hF60) hc63 ?_
   refine Vs 1 ?_
   refine Nss (Rg [0, 1, 2, 3, 4] ?_)
   refine Vs 5 ?_
   refine Nss (Rg [0, 1] ?_)
   refine Vs 2 ?_
   refine Nt ?_
   refine Cd h53 (fun hb64 h65 => ?_) (fun hb64 h66 => ?_)
   ·refine Rg [0, 1] ?_
    refine V 21 20 (run_mkIface' (t := 9) (x := (.const (.string ⟨([108, 101, 110, 32, 111, 117, 116, 32, 111, 102, 32, 114, 97, 110, 103, 101] : List UInt8).toArray⟩))) (v := (.string ⟨(([108, 101, 110, 32, 111, 117, 116, 32, 111, 102, 32, 114, 97, 110, 103, 101] : List UInt8)).toArray⟩)) rfl (by kernel_rfl)) ?_
    cases h65
   ·refine Sc ?_
    refine blockQ_nrm ?_
    refine thenQ_nrm ?_
    refine Rg [0, 1] ?_
    refine Vs 2 ?_
    refine RWP.nil ?_
    have hn67 := iter_next h66 hnx46
    exact ⟨m43, Nat.lt_succ_self _, ((W64 (s24.1 + (x50.length : Int))), (W64 (s24.2 + 1))), F1, hn67, hs26, le27, fI⟩
  ·refine Ex ?_
   refine thenQ_ex ?_
   refine thenQ_ex ?_
   refine blockQ_hit rfl ?_
   have ho68 := iter_done h49 hnx46
   exact .inl ⟨rfl, (s24.1, s24.2), F1, ho68, hs26, le27, fI⟩
 ·rintro f w35 ⟨s34, F2, rfl, hs36, le37, ⟨_, rfl⟩⟩
  have h69 := k_done h23
  refine thenQ_nrm ?_
  refine Sq (Rg [0, 1, 2] ?_)
  refine Vs 1 ?_
  obtain ⟨r70, hr71, h72⟩ := bind_some h69
  refine RWP.callO (dst := (some 24)) (ty := 23) (g := none) (by kernel_rfl) rfl (f0 := (.func 173)) (aos := #[(.const (.slice none 0 0)), (.tmp 23)]) (ats := #[23, 3]) (fid := 173) (first := #[]) (cap := #[]) (args := [(.slice none ([] : List Clause).length 0), (vi s34.1)]) rfl co_slices_Grow_api_Clause_api_Clause (rfl) hs36 (c_slices_Grow_api_Clause_api_Clause N w35 F2 hs36.pers (s34.1) _ hr71) ?_
  rintro _ F3 w74 _ hs75 le76 ⟨a78, n79, e80, rfl, rfl, hr81⟩
  have hs83 : HS w0 F0 w74 F3 [e80] := hs75
  refine Vs 1 ?_
  refine Nss ?_
  refine Sq (Rg [0, 1, 2] ?_)
  refine Vs 3 ?_
  refine Nt ?_
  obtain ⟨o84, ho85, h86⟩ := bind_some h72
  refine CWP.cut (fun f w => ∃ (s96 : (List Clause × Int)) (F5 : Mem) (as96_0 : Option Addr) (ns96_0 : Nat) (es96_0 : Option Nat × Obj), o84 = .done s96 ∧ HS w0 F0 w F5 [es96_0] ∧ Mem.le F3 F5 ∧ FI f [] [(6, (.slice as96_0 s96.1.length ns96_0))] ∧ RowR tClause 56 F5 as96_0 ns96_0 s96.1 es96_0) ?_ ?_
  ·refine Bk ?_
   refine CWP.loop (by kernel_rfl) (fun m f w => ∃ (s87 : (List Clause × Int)) (F4 : Mem) (as87_0 : Option Addr) (ns87_0 : Nat) (es87_0 : Option Nat × Obj), iter (slices_Concat_api_Clause_api_Clause_L1 N x0 s34 r70) m s87 = some o84 ∧ HS w0 F0 w F4 [es87_0] ∧ Mem.le F3 F4 ∧ FI f [] [(6, (.slice as87_0 s87.1.length ns87_0)), (25, (.slice a0_0 x0.length n0_0)), (26, (vi (x0.length : Int))), (27, (vi s87.2))] ∧ RowR tClause 56 F4 as87_0 ns87_0 s87.1 es87_0) N ⟨(r70, 0), F3, a78, n79, e80, ho85, hs83, (Mem.le.refl _), fI, hr81⟩ ?_
   rintro m102 f w88 ⟨s87, F4, as87_0, ns87_0, es87_0, hit103, hs89, le90, ⟨_, rfl⟩, hrs87_0⟩
   obtain ⟨m104, fl105, rfl, hb106, hnx107⟩ := iter_step hit103
   refine Sq (Rg [0] ?_)
   refine Vs 1 ?_
   refine Nss ?_
   refine Cd hb106 (fun hb108 h109 => ?_) (fun hb108 h110 => ?_)
   ·refine Sc ?_
    refine thenQ_nrm ?_
    refine Sq ?_
    refine Bk ?_
    refine Sq (Rg [0, 1, 2] ?_)
    obtain ⟨x111, hx112, h114⟩ := bind_some h109
    obtain ⟨hi113, hx112'⟩ := idx_spec hx112
    obtain ⟨b115, o116, C117, E118, fz119, rfl, hF121, hE122⟩ := SlA.open (SlA.mono hs0_0 ((le37.trans le76).trans le90)) hx112'
    obtain ⟨ae123_0, ne123_0, hc124, hbe123_0, hse123_0⟩ := hE122 _ _ hx112'
    refine Ix hi113 ?_
    refine Lx 0 (hs89.pers _ _ hF121) hc124 ?_
    refine Vs 1 ?_
    refine Nt ?_
    refine Rg [0, 1, 2, 3] ?_
    refine Vs 2 ?_
    obtain ⟨r125, hap126, h127⟩ := bind_some h114
    refine Ap0 oClause hs89 hrs87_0 (SlA.rd hs89 hse123_0) hap126 (fun a128 n129 e130 w131 hs132 hr133 => ?_)
    refine Vs 1 ?_
    refine RWP.nil ?_
    refine blockQ_nrm ?_
    refine thenQ_nrm ?_
    refine Rg [0, 1] ?_
    refine Vs 2 ?_
    refine RWP.nil ?_
    have hn134 := iter_next h127 hnx107
    exact ⟨m104, Nat.lt_succ_self _, (r125, (W64 (s87.2 + 1))), F4, a128, n129, e130, hn134, hs132, le90, fI, hr133⟩
   ·refine Ex ?_
    refine thenQ_ex ?_
    refine thenQ_ex ?_
    refine blockQ_hit rfl ?_
    have ho135 := iter_done h110 hnx107
    exact .inl ⟨rfl, (s87.1, s87.2), F4, as87_0, ns87_0, es87_0, ho135, hs89, le90, fI, hrs87_0⟩
  ·rintro f w97 ⟨s96, F5, as96_0, ns96_0, es96_0, rfl, hs98, le99, ⟨_, rfl⟩, hrs96_0⟩
   have h136 := k_done h86
   refine thenQ_nrm ?_
   refine Sq (Rg [0, 1] ?_)
   refine Vs 2 ?_
   refine Nt ?_
   refine Rt ?_
   have hb140 := RowR.bound hrs96_0
   obtain ⟨F6, hs137, le138, hs139⟩ := hs98.fr0 hrs96_0
   obtain rfl := some_inj h136
   exact Re [(.slice as96_0 s96.1.length ns96_0)] hs137 ⟨as96_0, ns96_0, rfl, hb140, hs139⟩
end Go.Proofs.YtaihlcdkcampbaaGreatDoor
namespace Go.Proofs.YtaihlcdkcampbaaGreatDoor
open Go.Proofs
def rules_Check_L0 (N : Nat) (x0 : Book) (r36 : (List Clause)) : (Int × Int) → Option (Flow (Int × Int) (Int × Int)) := fun s47 =>
 (bif (decide (s47.2 < (r36.length : Int))) then ((idx r36 s47.2).bind fun x73 => ((rules_soundClause N x73).bind fun r92 => (bif (!r92) then some (.ret (62, (W64 (s47.1 + 1)))) else some (.next ((W64 (s47.1 + 1)), (W64 (s47.2 + 1))))))) else some (.done (s47.1, s47.2)))
def rules_Check_L1 (N : Nat) (x0 : Book) (r36 : (List Clause)) (s57 : (Int × Int)) : (Int × Int) → Option (Flow (Int × Int) (Int × Int)) := fun s109 =>
 (bif (decide (s109.2 < (x0.Repeats.length : Int))) then ((idx x0.Repeats s109.2).bind fun x132 => ((rules_is N x132 1).bind fun r151 => (bif (!r151) then some (.ret (62, (W64 (s109.1 + 1)))) else some (.next ((W64 (s109.1 + 1)), (W64 (s109.2 + 1))))))) else some (.done (s109.1, s109.2)))
def rules_Check (N : Nat) (x0 : Book) : Option (Int × Int) :=
 (bif (decide ((max (max (max (x0.Points.length : Int) (x0.Multipliers.length : Int)) (x0.Penalties.length : Int)) (x0.Repeats.length : Int)) > 64)) then some (2, 0) else ((slices_Concat_api_Clause_api_Clause N ([x0.Points, x0.Multipliers, x0.Penalties])).bind fun r36 => ((iter (rules_Check_L0 N x0 r36) N (0, 0)).bind fun o => o.k (fun r => some r) (fun s57 => ((iter (rules_Check_L1 N x0 r36 s57) N (s57.1, 0)).bind fun o => o.k (fun r => some r) (fun s118 => some (0, 0)))))))
theorem co_rules_Check : CallOk Tryz.prog 70 := fun _ _ => by kernel_rfl
theorem c_rules_Check (N : Nat) (w0 : World) (F0 : Mem) (hF : ∀ b o, F0 b = some o → w0.heap[b]? = some o) (x0 : Book) (a0_0 : Option Addr) (n0_0 : Nat) (hb0_0 : LC x0.Points.length n0_0) (hs0_0 : SlA tClause F0 a0_0 x0.Points) (a0_1 : Option Addr) (n0_1 : Nat) (hb0_1 : LC x0.Multipliers.length n0_1) (hs0_1 : SlA tClause F0 a0_1 x0.Multipliers) (a0_2 : Option Addr) (n0_2 : Nat) (hb0_2 : LC x0.Penalties.length n0_2) (hs0_2 : SlA tClause F0 a0_2 x0.Penalties) (a0_3 : Option Addr) (n0_3 : Nat) (hb0_3 : LC x0.Repeats.length n0_3) (hs0_3 : SlA tExpr F0 a0_3 x0.Repeats) (r : (Int × Int)) (h : rules_Check N x0 = some r) :
  Calls Tryz.prog 70 ([(.agg (kBook x0 a0_0 n0_0 a0_1 n0_1 a0_2 n0_2 a0_3 n0_3))] : List Value).toArray w0 (FRet w0 F0 fun F' v => v = (.tuple #[(vi r.1), (vi r.2)])) := by
 have hs0 := HS.start hF
 refine Go 57 Tryz.func70 ?_
 refine Sq (Rg [0, 1, 2] ?_)
 refine Bx' 26 (kBook x0 a0_0 n0_0 a0_1 n0_1 a0_2 n0_2 a0_3 n0_3) hs0 (fun b21 w22 hs23 => ?_)
 refine Vs 2 ?_
 refine Nss ?_
 refine Sq (Rg [0, 1, 2, 3, 4, 5, 6, 7, 8, 9, 10, 11, 12, 13] ?_)
 refine Vs 1 ?_
 refine Ld hs23.at0 ?_
 refine Vs 2 ?_
 refine Ld hs23.at0 ?_
 refine Vs 2 ?_
 refine Ld hs23.at0 ?_
 refine Vs 2 ?_
 refine Ld hs23.at0 ?_
 refine Vs 1 ?_
 refine V 21 3 (run_max4 (x := (.tmp 11)) (y := (.tmp 14)) (z := (.tmp 17)) (u := (.tmp 20)) (ats := #[3, 3, 3, 3]) (a := (x0.Points.length : Int)) (b := (x0.Multipliers.length : Int)) (c := (x0.Penalties.length : Int)) (d := (x0.Repeats.length : Int)) rfl rfl rfl rfl) ?_
 refine Vs 1 ?_
 refine Nt ?_
 refine Cd h (fun hb24 h25 => ?_) (fun hb24 h26 => ?_)
 ·refine Sq (Rg [0, 1] ?_)
  refine Vs 2 ?_
  refine Nt ?_
  refine Rt ?_
  refine thenQ_ret ?_
  obtain rfl := some_inj h25
  exact Re [(vi 2), (vi 0)] hs23 rfl
 ·refine Sc ?_
  refine thenQ_nrm ?_
  refine Sq (Rg [0] ?_)
  refine Vs 1 ?_
  refine Nss ?_
  refine Sq (Rg [0, 1, 2, 3, 4, 5, 6, 7, 8, 9] ?_)
  refine Vs 1 ?_
  refine Ld hs23.at0 ?_
  refine Vs 1 ?_
  refine Ld hs23.at0 ?_
  refine Vs 1 ?_
  refine Ld hs23.at0 ?_
  refine Bs 23 [(.slice a0_0 x0.Points.length n0_0), (.slice a0_1 x0.Multipliers.length n0_1), (.slice a0_2 x0.Penalties.length n0_2)] hs23 (fun b27 w28 hs29 => ?_)
  have hr31 : RowR (tSl tClause) 23 F0 (some ⟨b27, 0, none⟩) 3 [x0.Points, x0.Multipliers, x0.Penalties] (some b27, .cells ([(.slice a0_0 x0.Points.length n0_0), (.slice a0_1 x0.Multipliers.length n0_1), (.slice a0_2 x0.Penalties.length n0_2)] : List Value).toArray 23 (0, 0)) := RowR.lit ⟨⟨a0_0, n0_0, rfl, hb0_0, hs0_0⟩, ⟨⟨a0_1, n0_1, rfl, hb0_1, hs0_1⟩, ⟨⟨a0_2, n0_2, rfl, hb0_2, hs0_2⟩, rfl⟩⟩⟩ (by simp)
  have hb35 := RowR.bound hr31
  obtain ⟨F1, hs32, le33, hs34⟩ := hs29.fr0 hr31
  obtain ⟨r36, hr37, h38⟩ := bind_some h26
  refine Cl' co_slices_Concat_api_Clause_api_Clause hs32 (c_slices_Concat_api_Clause_api_Clause N w28 F1 hs32.pers ([x0.Points, x0.Multipliers, x0.Penalties]) (some ⟨b27, 0, none⟩) 3 hb35 hs34 _ hr37) ?_
  rintro _ F2 w40 hs41 le42 ⟨ar36_0_0, nr36_0_0, rfl, hbr36_0_0, hsr36_0_0⟩
  refine Vs 2 ?_
  refine Nt ?_
  obtain ⟨o44, ho45, h46⟩ := bind_some h38
  refine CWP.cut (fun f w => ∃ (s57 : (Int × Int)) (F4 : Mem), o44 = .done s57 ∧ HS w0 F0 w F4 [(sb b21 (kBook x0 a0_0 n0_0 a0_1 n0_1 a0_2 n0_2 a0_3 n0_3) 26)] ∧ Mem.le F2 F4 ∧ FI f [] [(1, (pt b21 0)), (4, (vi s57.1))]) ?_ ?_
  ·refine Bk ?_
   refine CWP.loop (by kernel_rfl) (fun m f w => ∃ (s47 : (Int × Int)) (F3 : Mem), iter (rules_Check_L0 N x0 r36) m s47 = some o44 ∧ HS w0 F0 w F3 [(sb b21 (kBook x0 a0_0 n0_0 a0_1 n0_1 a0_2 n0_2 a0_3 n0_3) 26)] ∧ Mem.le F2 F3 ∧ FI f [] [(1, (pt b21 0)), (4, (vi s47.1)), (30, (.slice ar36_0_0 r36.length nr36_0_0)), (31, (vi (r36.length : Int))), (32, (vi s47.2))]) N ⟨(0, 0), F2, ho45, hs41, (Mem.le.refl _), fI⟩ ?_
   rintro m64 f w48 ⟨s47, F3, hit65, hs49, le50, ⟨_, rfl⟩⟩
   obtain ⟨m66, fl67, rfl, hb68, hnx69⟩ := iter_step hit65
   refine Sq (Rg [0] ?_)
   refine Vs 1 ?_
   refine Nss ?_
   refine Cd hb68 (fun hb70 h71 => ?_) (fun hb70 h72 => ?_)
   ·refine Sc ?_
    refine thenQ_nrm ?_
    refine Sq ?_
    refine Bk ?_
    refine Sq (Rg [0, 1, 2, 3] ?_)
    obtain ⟨x73, hx74, h76⟩ := bind_some h71
    obtain ⟨hi75, hx74'⟩ := idx_spec hx74
    obtain ⟨b77, o78, C79, E80, fz81, rfl, hF83, hE84⟩ := SlA.open (SlA.mono hsr36_0_0 le50) hx74'
    obtain ⟨ae85_2, ne85_2, ae85_5, ne85_5, hc86, hbe85_2, hse85_2, hbe85_5, hse85_5⟩ := hE84 _ _ hx74'
    refine Ix hi75 ?_
    refine Lx 0 (hs49.pers _ _ hF83) hc86 ?_
    refine Al' 56 #[(vi 0), (vi 0), (.slice none ([] : List Expr).length 0), (vi 0), (vi 0), (.slice none ([] : List Expr).length 0)] hs49 (fun b87 w88 hs89 => ?_)
    refine St0 (kClause x73 ae85_2 ne85_2 ae85_5 ne85_5) hs89 (fun w90 hs91 => ?_)
    refine Nss (Rg [0, 1, 2] ?_)
    refine Vs 3 ?_
    refine Nss (Rg [0, 1, 2] ?_)
    refine Ld hs91.at0 ?_
    obtain ⟨r92, hr93, h94⟩ := bind_some h76
    refine Cl' co_rules_soundClause hs91 (c_rules_soundClause N w90 F3 hs91.pers (x73) ae85_2 ne85_2 hbe85_2 hse85_2 ae85_5 ne85_5 hbe85_5 hse85_5 _ hr93) ?_
    rintro _ F5 w96 hs97 le98 rfl
    refine Vs 1 ?_
    refine Nt ?_
    refine Cd h94 (fun hb100 h101 => ?_) (fun hb100 h102 => ?_)
    ·refine Sq (Rg [0, 1, 2] ?_)
     refine Vs 3 ?_
     refine Nt ?_
     refine Rt ?_
     refine blockQ_ret ?_
     refine thenQ_ret ?_
     refine thenQ_ret ?_
     refine blockQ_ret ?_
     have hret := iter_ret h101 hnx69
     subst hret
     refine .inr ?_
     refine thenQ_ret ?_
     obtain rfl := some_inj h46
     exact Re [(vi 62), (vi (W64 (s47.1 + 1)))] hs97 rfl
    ·refine Sc ?_
     refine blockQ_nrm ?_
     refine thenQ_nrm ?_
     refine Rg [0, 1] ?_
     refine Vs 2 ?_
     refine RWP.nil ?_
     have hn103 := iter_next h102 hnx69
     exact ⟨m66, Nat.lt_succ_self _, ((W64 (s47.1 + 1)), (W64 (s47.2 + 1))), F5, hn103, hs97.dr0, (le50.trans le98), fI⟩
   ·refine Ex ?_
    refine thenQ_ex ?_
    refine thenQ_ex ?_
    refine blockQ_hit rfl ?_
    have ho104 := iter_done h72 hnx69
    exact .inl ⟨rfl, (s47.1, s47.2), F3, ho104, hs49, le50, fI⟩
  ·rintro f w58 ⟨s57, F4, rfl, hs59, le60, ⟨_, rfl⟩⟩
   have h105 := k_done h46
   refine thenQ_nrm ?_
   refine Sq ?_
   refine Sq (Rg [0, 1, 2, 3] ?_)
   refine Vs 1 ?_
   refine Ld hs59.at0 ?_
   refine Vs 2 ?_
   refine Nt ?_
   obtain ⟨o106, ho107, h108⟩ := bind_some h105
   refine CWP.cut (fun f w => ∃ (s118 : (Int × Int)) (F7 : Mem), o106 = .done s118 ∧ HS w0 F0 w F7 [] ∧ Mem.le F4 F7 ∧ FI f [] []) ?_ ?_
   ·refine Bk ?_
    refine CWP.loop (by kernel_rfl) (fun m f w => ∃ (s109 : (Int × Int)) (F6 : Mem), iter (rules_Check_L1 N x0 r36 s57) m s109 = some o106 ∧ HS w0 F0 w F6 [] ∧ Mem.le F4 F6 ∧ FI f [] [(4, (vi s109.1)), (44, (.slice a0_3 x0.Repeats.length n0_3)), (45, (vi (x0.Repeats.length : Int))), (46, (vi s109.2))]) N ⟨(s57.1, 0), F4, ho107, hs59.dr0, (Mem.le.refl _), fI⟩ ?_
    rintro m123 f w110 ⟨s109, F6, hit124, hs111, le112, ⟨_, rfl⟩⟩
    obtain ⟨m125, fl126, rfl, hb127, hnx128⟩ := iter_step hit124
    refine Sq (Rg [0] ?_)
    refine Vs 1 ?_
    refine Nss ?_
    refine Cd hb127 (fun hb129 h130 => ?_) (fun hb129 h131 => ?_)
    ·refine Sc ?_
     refine thenQ_nrm ?_
     refine Sq ?_
     refine Bk ?_
     refine Sq (Rg [0, 1, 2, 3] ?_)
     obtain ⟨x132, hx133, h135⟩ := bind_some h130
     obtain ⟨hi134, hx133'⟩ := idx_spec hx133
     obtain ⟨b136, o137, C138, E139, fz140, rfl, hF142, hE143⟩ := SlA.open (SlA.mono hs0_3 (((le33.trans le42).trans le60).trans le112)) hx133'
     obtain ⟨ae144_2, ne144_2, hc145, hbe144_2, hse144_2⟩ := (tExpr_open (hE143 _ _ hx133'))
     refine Ix hi134 ?_
     refine Lx 0 (hs111.pers _ _ hF142) hc145 ?_
     refine Al' 33 #[(vi 0), (vi 0), (.slice none ([] : List Expr).length 0)] hs111 (fun b146 w147 hs148 => ?_)
     refine St0 (kExpr x132 ae144_2 ne144_2) hs148 (fun w149 hs150 => ?_)
     refine Nss (Rg [0, 1, 2] ?_)
     refine Vs 3 ?_
     refine Nss (Rg [0, 1, 2] ?_)
     refine Ld hs150.at0 ?_
     obtain ⟨r151, hr152, h153⟩ := bind_some h135
     refine Cl' co_rules_is hs150 (c_rules_is N w149 F6 hs150.pers (x132) ae144_2 ne144_2 hbe144_2 hse144_2 (1) _ hr152) ?_
     rintro _ F8 w155 hs156 le157 rfl
     refine Vs 1 ?_
     refine Nt ?_
     refine Cd h153 (fun hb159 h160 => ?_) (fun hb159 h161 => ?_)
     ·refine Sq (Rg [0, 1, 2] ?_)
      refine Vs 3 ?_
      refine Nt ?_
      refine Rt ?_
      refine blockQ_ret ?_
      refine thenQ_ret ?_
      refine thenQ_ret ?_
      refine blockQ_ret ?_
      have hret := iter_ret h160 hnx128
      subst hret
      refine .inr ?_
      refine thenQ_ret ?_
      obtain rfl := some_inj h108
      exact Re [(vi 62), (vi (W64 (s109.1 + 1)))] hs156 rfl
     ·refine Sc ?_
      refine blockQ_nrm ?_
      refine thenQ_nrm ?_
      refine Rg [0, 1] ?_
      refine Vs 2 ?_
      refine RWP.nil ?_
      have hn162 := iter_next h161 hnx128
      exact ⟨m125, Nat.lt_succ_self _, ((W64 (s109.1 + 1)), (W64 (s109.2 + 1))), F8, hn162, hs156.dr0, (le112.trans le157), fI⟩
    ·refine Ex ?_
     refine thenQ_ex ?_
     refine thenQ_ex ?_
     refine blockQ_hit rfl ?_
     have ho163 := iter_done h131 hnx128
     exact .inl ⟨rfl, (s109.1, s109.2), F6, ho163, hs111, le112, fI⟩
   ·rintro f w119 ⟨s118, F7, rfl, hs120, le121, ⟨_, rfl⟩⟩
    have h164 := k_done h108
    refine thenQ_nrm ?_
    refine Sq (Rg [0, 1] ?_)
    refine Vs 2 ?_
    refine Nt ?_
    refine Rt ?_
    obtain rfl := some_inj h164
    exact Re [(vi 0), (vi 0)] hs120 rfl
end Go.Proofs.YtaihlcdkcampbaaGreatDoor
namespace Go.Proofs.YtaihlcdkcampbaaGreatDoor
open Go.Proofs
def rules_Valid (N : Nat) (x0 : Book) : Option Bool :=
 ((rules_Check N x0).bind fun r24 => some (r24.1 == 0))
theorem co_rules_Valid : CallOk Tryz.prog 54 := fun _ _ => by kernel_rfl
theorem c_rules_Valid (N : Nat) (w0 : World) (F0 : Mem) (hF : ∀ b o, F0 b = some o → w0.heap[b]? = some o) (x0 : Book) (a0_0 : Option Addr) (n0_0 : Nat) (hb0_0 : LC x0.Points.length n0_0) (hs0_0 : SlA tClause F0 a0_0 x0.Points) (a0_1 : Option Addr) (n0_1 : Nat) (hb0_1 : LC x0.Multipliers.length n0_1) (hs0_1 : SlA tClause F0 a0_1 x0.Multipliers) (a0_2 : Option Addr) (n0_2 : Nat) (hb0_2 : LC x0.Penalties.length n0_2) (hs0_2 : SlA tClause F0 a0_2 x0.Penalties) (a0_3 : Option Addr) (n0_3 : Nat) (hb0_3 : LC x0.Repeats.length n0_3) (hs0_3 : SlA tExpr F0 a0_3 x0.Repeats) (r : Bool) (h : rules_Valid N x0 = some r) :
  Calls Tryz.prog 54 ([(.agg (kBook x0 a0_0 n0_0 a0_1 n0_1 a0_2 n0_2 a0_3 n0_3))] : List Value).toArray w0 (FRet w0 F0 fun F' v => v = (.bool r)) := by
 have hs0 := HS.start hF
 refine Go 12 Tryz.func54 ?_
 refine Sq (Rg [0, 1] ?_)
 refine Bx' 26 (kBook x0 a0_0 n0_0 a0_1 n0_1 a0_2 n0_2 a0_3 n0_3) hs0 (fun b21 w22 hs23 => ?_)
 refine Vs 1 ?_
 refine Nss (Rg [0, 1, 2, 3, 4, 5, 6] ?_)
 refine Ld hs23.at0 ?_
 obtain ⟨r24, hr25, h26⟩ := bind_some h
 refine Cl' co_rules_Check hs23 (c_rules_Check N w22 F0 hs23.pers (x0) a0_0 n0_0 hb0_0 hs0_0 a0_1 n0_1 hb0_1 hs0_1 a0_2 n0_2 hb0_2 hs0_2 a0_3 n0_3 hb0_3 hs0_3 _ hr25) ?_
 rintro _ F1 w28 hs29 le30 rfl
 refine Vs 5 ?_
 refine Nss (Rg [0, 1, 2] ?_)
 refine Vs 3 ?_
 refine Nt ?_
 refine Rt ?_
 obtain rfl := some_inj h26
 exact Re [(.bool (r24.1 == 0))] hs29 rfl
end Go.Proofs.YtaihlcdkcampbaaGreatDoor
namespace Go.Proofs.YtaihlcdkcampbaaGreatDoor
open Go.Proofs
def rules_wrong (N : Nat) (x0 : Book) (x1 : (List Int)) : Option Int :=
 ((rules_Valid N x0).bind fun r24 => (bif (!r24) then some 62 else ((rules_validFacts N x1).bind fun r35 => (bif (!r35) then some 63 else some 0))))
theorem co_rules_wrong : CallOk Tryz.prog 106 := fun _ _ => by kernel_rfl
theorem c_rules_wrong (N : Nat) (w0 : World) (F0 : Mem) (hF : ∀ b o, F0 b = some o → w0.heap[b]? = some o) (x0 : Book) (a0_0 : Option Addr) (n0_0 : Nat) (hb0_0 : LC x0.Points.length n0_0) (hs0_0 : SlA tClause F0 a0_0 x0.Points) (a0_1 : Option Addr) (n0_1 : Nat) (hb0_1 : LC x0.Multipliers.length n0_1) (hs0_1 : SlA tClause F0 a0_1 x0.Multipliers) (a0_2 : Option Addr) (n0_2 : Nat) (hb0_2 : LC x0.Penalties.length n0_2) (hs0_2 : SlA tClause F0 a0_2 x0.Penalties) (a0_3 : Option Addr) (n0_3 : Nat) (hb0_3 : LC x0.Repeats.length n0_3) (hs0_3 : SlA tExpr F0 a0_3 x0.Repeats) (x1 : (List Int)) (a1_0 : Option Addr) (n1_0 : Nat) (hb1_0 : LC x1.length n1_0) (hs1_0 : SlA tInt F0 a1_0 x1) (r : Int) (h : rules_wrong N x0 x1 = some r) :
  Calls Tryz.prog 106 ([(.agg (kBook x0 a0_0 n0_0 a0_1 n0_1 a0_2 n0_2 a0_3 n0_3)), (.slice a1_0 x1.length n1_0)] : List Value).toArray w0 (FRet w0 F0 fun F' v => v = (vi r)) := by
 have hs0 := HS.start hF
 refine Go 13 Tryz.func106 ?_
 refine Sq (Rg [0, 1] ?_)
 refine Bx' 26 (kBook x0 a0_0 n0_0 a0_1 n0_1 a0_2 n0_2 a0_3 n0_3) hs0 (fun b21 w22 hs23 => ?_)
 refine Vs 1 ?_
 refine Nss ?_
 refine Bk ?_
 refine Sq (Rg [0, 1, 2, 3] ?_)
 refine Ld hs23.at0 ?_
 obtain ⟨r24, hr25, h26⟩ := bind_some h
 refine Cl' co_rules_Valid hs23 (c_rules_Valid N w22 F0 hs23.pers (x0) a0_0 n0_0 hb0_0 hs0_0 a0_1 n0_1 hb0_1 hs0_1 a0_2 n0_2 hb0_2 hs0_2 a0_3 n0_3 hb0_3 hs0_3 _ hr25) ?_
 rintro _ F1 w28 hs29 le30 rfl
 refine Vs 2 ?_
 refine Nt ?_
 refine Cd h26 (fun hb32 h33 => ?_) (fun hb32 h34 => ?_)
 ·refine Sq (Rg [0] ?_)
  refine Vs 1 ?_
  refine Nt ?_
  refine Rt ?_
  refine blockQ_ret ?_
  refine thenQ_ret ?_
  obtain rfl := some_inj h33
  exact Re [(vi 62)] hs29 rfl
 ·refine Sq (Rg [0, 1, 2, 3] ?_)
  refine Vs 1 ?_
  obtain ⟨r35, hr36, h37⟩ := bind_some h34
  refine Cl' co_rules_validFacts hs29 (c_rules_validFacts N w28 F1 hs29.pers (x1) a1_0 n1_0 hb1_0 (SlA.mono hs1_0 le30) _ hr36) ?_
  rintro _ F2 w39 hs40 le41 rfl
  refine Vs 2 ?_
  refine Nt ?_
  refine Cd h37 (fun hb43 h44 => ?_) (fun hb43 h45 => ?_)
  ·refine Sq (Rg [0] ?_)
   refine Vs 1 ?_
   refine Nt ?_
   refine Rt ?_
   refine blockQ_ret ?_
   refine thenQ_ret ?_
   obtain rfl := some_inj h44
   exact Re [(vi 63)] hs40 rfl
  ·refine Sc ?_
   refine blockQ_nrm ?_
   refine thenQ_nrm ?_
   refine Sq (Rg [0] ?_)
   refine Vs 1 ?_
   refine Nt ?_
   refine Rt ?_
   obtain rfl := some_inj h45
   exact Re [(vi 0)] hs40 rfl
end Go.Proofs.YtaihlcdkcampbaaGreatDoor
namespace Go.Proofs.YtaihlcdkcampbaaGreatDoor
open Go.Proofs
end Go.Proofs.YtaihlcdkcampbaaGreatDoor
namespace Go.Proofs.YtaihlcdkcampbaaGreatDoor
open Go.Proofs
end Go.Proofs.YtaihlcdkcampbaaGreatDoor
namespace Go.Proofs.YtaihlcdkcampbaaGreatDoor
open Go.Proofs
end Go.Proofs.YtaihlcdkcampbaaGreatDoor
namespace Go.Proofs.YtaihlcdkcampbaaGreatDoor
structure FitL (N : Nat) (l : List Clause) : Prop where
 n : l.length < N
 w : l.length < 9223372036854775808
 c : ∀ c, c ∈ l → FitC N c
structure FitX (N : Nat) (l : List Expr) : Prop where
 n : l.length < N
 w : l.length < 9223372036854775808
 c : ∀ c, c ∈ l → Fit N c
structure FitB (N : Nat) (b : Book) : Prop where
 p : FitL N b.Points
 m : FitL N b.Multipliers
 e : FitL N b.Penalties
 r : FitX N b.Repeats
def fi {α : Type} (p : α → Bool) (l : List α) : Int := if l.any p then (l.findIdx p : Int) else -1
section
variable {N : Nat} {f : List Int}
def isT (f : List Int) (c : Clause) : Bool := val f c.When == 1
noncomputable def evalS (e : Expr) (f : List Int) : Int × Int := if snd0 e = false then (0, 61) else if fac f = false then (0, 63) else (val f e, 0)
theorem snd0_k {e : Expr} (h : snd0 e = true) : kd e ≠ 0 := by unfold snd0 at h; simp at h; exact h.2
theorem s_Eval (hN : 100 < N) {e : Expr} (h : Fit N e) : rules_Eval N e f = some (evalS e f) := by
 unfold rules_Eval evalS
 rw [s_sound h, Option.bind_some, s_validFacts hN]
 cases h1 : snd0 e
 ·rfl
 ·cases h2 : fac f
  ·rfl
  ·rw [Option.bind_some, s_value h2 h (snd0_k h1)]; rfl
end
section
variable {N : Nat} {f : List Int}
end
end Go.Proofs.YtaihlcdkcampbaaGreatDoor
namespace Go.Proofs.YtaihlcdkcampbaaGreatDoor
theorem fit_ex {x : Expr} (h : qExpr x) : ∃ n0, ∀ N, n0 ≤ N → Fit N x := by
 obtain ⟨n, hn⟩ := h
 exact ⟨3518437208781 + (2 * n + 10), fun N hN => ⟨n, hn.wide (by omega), by omega⟩⟩
end Go.Proofs.YtaihlcdkcampbaaGreatDoor
