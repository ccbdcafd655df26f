/- Lemmas of the claim RulesBlanksUpto, printed by a program of the claimant and by hand. No statement of the seat is proved here. -/
import Derived.Test.YtaihlcdkcampbaaGreatDoorRows
import Derived.Test.YtaihlcdkcampbaaGreatDoorTie
import Derived.Test.YtaihlcdkcampbaaGreatDoorCards
import Derived.Below
import Derived.Deep.DeepHandedRow
import Derived.Deep.Draws
import Derived.Ground.Names2Prog
import Derived.Ground.SlgnProg
import Derived.HandedShaped
import Derived.IntWalk
import Derived.JoinedOf
import Derived.KernelRfl
import Derived.LaidMore
import Derived.Laws.Cells
import Derived.Laws.Concat
import Derived.Laws.Cover3
import Derived.Laws.Entries
import Derived.Laws.Externs
import Derived.Laws.NewBlocks
import Derived.Laws.Rows
import Derived.Laws.Sem
import Derived.Laws.Slices
import Derived.Laws.Strings
import Derived.Laws.StructEq
import Derived.Laws.World
import Derived.Lay
import Derived.Lib.AppendStr
import Derived.Lib.Builder
import Derived.Lib.ItoaLen
import Derived.Lib.LaidTab
import Derived.Lib.LaidU8
import Derived.Lib.RowBridge
import Derived.MapKept
import Derived.OpenShut
import Derived.OrdersHeld
import Derived.OrdersIn
import Derived.PinnedBridge
import Derived.ProofKit
import Derived.RangeFuncCalls
import Derived.RangeFuncLeaves
import Derived.RangeFuncRecord
import Derived.Recover
import Derived.Scope
import Derived.SevenTiedAt
import Derived.Shelf.LaysC
import Derived.Shelf.LaysM
import Derived.Shelf.Slices.Cells
import Derived.Shelf.Slices.Clone
import Derived.Shelf.Slices.CompactI
import Derived.Shelf.Slices.In.SortNone
import Derived.Shelf.Slices.SearchI
import Derived.Shelf.SlicesE.Clone
import Derived.Shelf.Small.Bits
import Derived.Shelf.Small.Strs
import Derived.Shelf.Sort.Plain
import Derived.Shelf.Strconv.Atoi
import Derived.Shelf.Strconv.AtoiAll
import Derived.Shelf.Strconv.AtoiErrFast
import Derived.Shelf.Strconv.AtoiFail
import Derived.Shelf.Strconv.AtoiInnerAll
import Derived.Shelf.Strconv.AtoiLong
import Derived.Shelf.Strconv.Clone
import Derived.Shelf.Strconv.ErrVarAll
import Derived.Shelf.Strconv.Itoa0
import Derived.Shelf.Strconv.Itoa1
import Derived.Shelf.Strconv.Itoa2
import Derived.Shelf.Strconv.Itoa3
import Derived.Shelf.Strconv.Lower
import Derived.Shelf.Strconv.ParseInt10
import Derived.Shelf.Strconv.ParseIntEmpty
import Derived.Shelf.Strconv.ParseUint10
import Derived.Shelf.Strconv.ParseUint10Any
import Derived.Shelf.Strconv.ParseUint10Empty
import Derived.Shelf.Strconv.RangeError
import Derived.Shelf.Strconv.SyntaxError
import Derived.Shelf.Strconv.ToError
import Derived.Shelf.Strconv.ToErrorRange
import Derived.Shelf.Strings.Builder1
import Derived.Shelf.Strings.BuilderF
import Derived.Shelf.Strings.Prefix
import Derived.Shelf.Strings.Search1
import Derived.SizedLaws
import Derived.Sort.Grow
import Derived.Stop.Joined
import Derived.WalkKit
import Derived.WideKeyArgs
import Derived.WideKeyRuns
import Derived.WideLaws
set_option linter.unusedVariables false
set_option linter.unusedSimpArgs false
set_option linter.unusedSectionVars false
set_option maxHeartbeats 4000000
set_option maxRecDepth 100000
namespace Go.Proofs.YtaihlcdkcampbaaGreatDoor
abbrev SZ := List UInt8
abbrev S0 := Option Addr
structure Fr where
 v : Nat -> Value
 d : List Deferred
instance : CoeFun Fr fun _ => Nat -> Value := ⟨Fr.v⟩
def upd (f : Fr) (d : Nat) (v : Value) : Fr := ⟨fun i => cond (Nat.beq i d) v (f.v i), f.d⟩
def AY (f : Fr) : Option Nat -> Value -> Fr
 | some d, v => upd f d v
 | none, _ => f
def fev (f : Fr) : Operand -> Value
 | .tmp t => f t
 | .const v => v
 | .global g => .pointer (some ⟨g, 0, none⟩)
 | .func g => .func (.func g) #[] #[]
structure Dm (n : Nat) (f : Fr) (a : Act) : Prop where
 size : a.tmps.size = n
 at_ : ∀ i, a.tmps.getD i undef = f i
 defers : a.defers = f.d
theorem Dm.eval {n : Nat} {f : Fr} {a : Act} (h : Dm n f a) (x : Operand) : a.eval x = fev f x := by
 cases x with
 | tmp t => exact h.at_ t
 | const v => rfl
 | global g => rfl
 | func g => rfl
theorem Dm.evalF {n : Nat} {f : Fr} {a : Act} (h : Dm n f a) : a.eval = fev f := funext h.eval
theorem Dm.put {n : Nat} {f : Fr} {a : Act} (h : Dm n f a) {dst : Option Nat} (hd : dst.all (· < n) = true) (v : Value) : Dm n (AY f dst v) (a.put dst v) := by
 cases dst with
 | none => exact h
 | some d =>
  have hlt : d < n := by simpa using hd
  refine ⟨by simp [Act.put, h.size], fun i => ?_, by simp [Act.put, h.defers, AY, upd]⟩
  have hi := h.at_ i
  simp only [Act.put, AY, upd]
  by_cases e : i = d
  ·subst e
   have hl : i < a.tmps.size := by rw [h.size]; exact hlt
   simp [Array.getD_eq_getD_getElem?, hl]
  ·have e' : Nat.beq i d = false := by
    cases hb : Nat.beq i d with
    | false => rfl
    | true => exact absurd (Nat.eq_of_beq_eq_true hb) e
   rw [e', cond_false, <- hi]
   simp [Array.getD_eq_getD_getElem?, Array.getElem?_setIfInBounds, Ne.symm e]
def asB : Value -> Option Bool
 | .bool b => some b
 | _ => none
def yf (R : Array Oper) (f : Fr) (j : Nat) : Option Bool :=
 match (R[j]?).bind (·.dst) with
 | some d => asB (f d)
 | none => none
theorem Dm.yielded {n : Nat} {f : Fr} {a : Act} (h : Dm n f a) (R : Array Oper) (j : Nat) : yielded R a.tmps j = yf R f j := by
 unfold Go.yielded yf
 cases hd : (R[j]?).bind (·.dst) with
 | none => simp
 | some d =>
  have := h.at_ d
  simp only [Option.bind_some]
  rw [<- this, Array.getD_eq_getD_getElem?]
  cases hx : a.tmps[d]? with
  | none => simp [asB, undef]
  | some v => cases v <;> simp [asB]
def lq (n : Nat) (Q : Exit -> Fr -> World -> Prop) : Exit -> Act -> World -> Prop := fun e a w => ∃ f, Dm n f a /\ Q e f w
def okR (n : Nat) (R : Array Oper) : Bool := R.all fun o => o.dst.all (· < n)
def FW (ro : Option Nat) : Fence := { Fence.wide with round := ro }
def RWP (P : Program) (ro : Option Nat) (n : Nat) (R : Array Oper) (Q : Exit -> Fr -> World -> Prop) (l : List Nat) (f : Fr) (w : World) : Prop :=
 okR n R = true -> ∀ a, Dm n f a -> wpOpsIn (FW ro) 0 P R (lq n Q) l a w
def CWP (P : Program) (ro : Option Nat) (n : Nat) (c : Code) (Q : Exit -> Fr -> World -> Prop) (f : Fr) (w : World) : Prop :=
 ∀ a, Dm n f a -> c.wpIn (FW ro) 0 P (lq n Q) a w
def opq (R : Array Oper) (i : Nat) : Option (Option Nat × Op × TypeId × Option (Nat × Bool)) := (R[i]?).map fun o => (o.dst, o.op, o.type, o.guard)
def Ao (ρ : Operand -> Value) (op : Op) (ty : TypeId) : Sem Next := execOp ρ { dst := none, op := op, type := ty, pos := "", after := #[], guard := none }
theorem BZ (ρ : Operand -> Value) (o : Oper) : execOp ρ o = Ao ρ o.op o.type := rfl
def Il : Op -> Bool
 | .defer _ => true
 | _ => false
theorem GM {P : Program} {ρ : Operand -> Value} {op : Op} {ty : TypeId} {w w' : World} {x : Next} (hx : ∀ d, x ≠ .defer d) (h : (Ao ρ op ty).run P w = .ok x w') : Il op = false := by
 cases op <;> first | rfl | skip
 rename_i c
 have e : Ao ρ (.defer c) ty = (do pure (Next.defer (<- resolve ρ c ty))) := rfl
 rw [e, Sem.run_bind] at h
 cases hr : (resolve ρ c ty).run P w with
 | ok d w1 => rw [hr] at h; simp at h; exact absurd h.1.symm (hx _)
 | halt x w1 => rw [hr] at h; simp [Result.andThen] at h
theorem E9 {op : Op} (h : Il op = false) (ro : Option Nat) (ρ : Operand -> Value) (o : Oper) (ho : o.op = op) : Oper.semAt ro ρ o = execOp ρ o :=
 Oper.semAt_eq ro ρ o fun c hc => by rw [ho] at hc; rw [hc] at h; cases h
theorem Bl {P : Program} {ro : Option Nat} {w : World} {ρ : Operand -> Value} {o : Oper} : ∀ f, o.about P w ρ = some f -> (FW ro).fn f := fun _ _ => trivial
theorem FC {P : Program} {ro : Option Nat} {n : Nat} {f : FuncId} {args : Array Value} {w : World} {S : Ending -> World -> Prop} (h : Calls P f args w S) : CallsIn (FW ro) n P f args w S :=
 (callsIn_wide (n := n)).2 h
def gd (R : Array Oper) (f : Fr) : Option (Nat × Bool) -> Bool
 | none => true
 | some (j, want) => yf R f j == some want
theorem Dm.wanted {n : Nat} {f : Fr} {a : Act} (h : Dm n f a) (R : Array Oper) (o : Oper) : Region.wanted o (Go.yielded R a.tmps) = gd R f o.guard := by
 unfold Region.wanted gd
 cases o.guard with
 | none => rfl
 | some p => obtain ⟨j, want⟩ := p; simp [h.yielded R j]
section
variable {P : Program} {ro : Option Nat} {n : Nat} {R : Array Oper} {Q : Exit -> Fr -> World -> Prop}
theorem B7 {i : Nat} {dst : Option Nat} {op : Op} {ty : TypeId} {g : Option (Nat × Bool)} (h : opq R i = some (dst, op, ty, g)) :
  ∃ o : Oper, R[i]? = some o /\ o.dst = dst /\ o.op = op /\ o.type = ty /\ o.guard = g := by
 unfold opq at h
 cases ho : R[i]? with
 | none => simp [ho] at h
 | some o =>
  simp only [ho, Option.map_some, Option.some.injEq, Prod.mk.injEq] at h
  exact ⟨o, rfl, h.1, h.2.1, h.2.2.1, h.2.2.2⟩
theorem EM (h : okR n R = true) {i : Nat} {o : Oper} (ho : R[i]? = some o) : o.dst.all (· < n) = true := by
 unfold okR at h
 rw [Array.all_eq_true] at h
 have hi : i < R.size := by
  rcases Nat.lt_or_ge i R.size with h' | h'
  ·exact h'
  ·simp [Array.getElem?_eq_none h'] at ho
 have := h i hi
 have e : R[i] = o := by simpa [Array.getElem?_eq_getElem hi] using ho
 rw [e] at this
 exact this
theorem RWP.nil {f : Fr} {w : World} (h : Q .normal f w) : RWP P ro n R Q [] f w := fun _ a ha => ⟨f, ha, h⟩
abbrev SC := @RWP.nil
theorem RWP.val {i : Nat} {rest : List Nat} {f : Fr} {w w' : World} {v : Value} {dst : Option Nat} {op : Op} {ty : TypeId} {g : Option (Nat × Bool)}
  (ho : opq R i = some (dst, op, ty, g)) (hg : gd R f g = true) (hy : (Ao (fev f) op ty).run P w = .ok (.value v) w')
  (k : RWP P ro n R Q rest (AY f dst v) w') : RWP P ro n R Q (i :: rest) f w := by
 intro hok a ha
 obtain ⟨o, hR, hd, hop, hty, hgd⟩ := B7 ho
 rw [wpOpsIn]
 simp only [hR]
 rw [ha.wanted R o, hgd, hg]
 simp only [if_true]
 refine ⟨Bl, ?_⟩
 rw [E9 (GM (fun _ e => by cases e) hy) _ _ o hop, BZ, ha.evalF, hop, hty, hy]
 simp only [Oper.uponIn]
 rw [hd]
 exact k hok _ (ha.put (by rw [<- hd]; exact EM hok hR) v)
abbrev SD := @RWP.val
theorem RWP.unit {i : Nat} {rest : List Nat} {f : Fr} {w w' : World} {op : Op} {ty : TypeId} {g : Option (Nat × Bool)}
  (ho : opq R i = some (none, op, ty, g)) (hg : gd R f g = true) (hy : (Ao (fev f) op ty).run P w = .ok .skip w')
  (k : RWP P ro n R Q rest f w') : RWP P ro n R Q (i :: rest) f w := by
 intro hok a ha
 obtain ⟨o, hR, hd, hop, hty, hgd⟩ := B7 ho
 rw [wpOpsIn]
 simp only [hR]
 rw [ha.wanted R o, hgd, hg]
 simp only [if_true]
 refine ⟨Bl, ?_⟩
 rw [E9 (GM (fun _ e => by cases e) hy) _ _ o hop, BZ, ha.evalF, hop, hty, hy]
 simp only [Oper.uponIn]
 rw [hd]
 exact k hok _ ha
theorem RWP.skip {i : Nat} {rest : List Nat} {f : Fr} {w : World} {dst : Option Nat} {op : Op} {ty : TypeId} {g : Option (Nat × Bool)}
  (ho : opq R i = some (dst, op, ty, g)) (hg : gd R f g = false)
  (k : RWP P ro n R Q rest (AY f dst undef) w) : RWP P ro n R Q (i :: rest) f w := by
 intro hok a ha
 obtain ⟨o, hR, hd, hop, hty, hgd⟩ := B7 ho
 rw [wpOpsIn]
 simp only [hR]
 rw [ha.wanted R o, hgd, hg, hd]
 simp only [Bool.false_eq_true, if_false]
 refine ⟨Bl, ?_⟩
 exact k hok _ (ha.put (by rw [<- hd]; exact EM hok hR) _)
theorem RWP.enter {i : Nat} {rest : List Nat} {f : Fr} {w : World} {dst : Option Nat} {op : Op} {ty : TypeId} {g : Option (Nat × Bool)} {fid : FuncId} {args : Array Value} {S : Ending -> World -> Prop}
  (ho : opq R i = some (dst, op, ty, g)) (hg : gd R f g = true) (hy : (Ao (fev f) op ty).run P w = .ok (.enter fid args) w)
  (hc : Calls P fid args w S)
  (k : ∀ e w', S e w' -> match e with
   | .returned v => RWP P ro n R Q rest (AY f dst v) w'
   | .panicked Jr => Q (.panic Jr) f w'
   | .outgrown => False) : RWP P ro n R Q (i :: rest) f w := by
 intro hok a ha
 obtain ⟨o, hR, hd, hop, hty, hgd⟩ := B7 ho
 rw [wpOpsIn]
 simp only [hR]
 rw [ha.wanted R o, hgd, hg]
 simp only [if_true]
 refine ⟨Bl, ?_⟩
 rw [E9 (GM (fun _ e => by cases e) hy) _ _ o hop, BZ, ha.evalF, hop, hty, hy]
 simp only [Oper.uponIn]
 refine ⟨(fun h => by cases h), (FC hc).mono fun e w' hS => ?_⟩
 have := k e w' hS
 cases e with
 | returned v => simp only at this ⊢; rw [hd]; exact this hok _ (ha.put (by rw [<- hd]; exact EM hok hR) v)
 | panicked ch => simp only at this ⊢; exact ⟨f, ha, this⟩
 | outgrown => exact this.elim
abbrev SE := @RWP.enter
theorem RWP.panics {i : Nat} {rest : List Nat} {f : Fr} {w w' : World} {v : Value} {dst : Option Nat} {op : Op} {ty : TypeId} {g : Option (Nat × Bool)}
  (ho : opq R i = some (dst, op, ty, g)) (hg : gd R f g = true) (hy : (Ao (fev f) op ty).run P w = .halt (.panic v) w') (hnd : Il op = false := by rfl)
  (k : Q (.panic [{ v, recovered := false }]) f w') : RWP P ro n R Q (i :: rest) f w := by
 intro hok a ha
 obtain ⟨o, hR, hd, hop, hty, hgd⟩ := B7 ho
 rw [wpOpsIn]
 simp only [hR]
 rw [ha.wanted R o, hgd, hg]
 simp only [if_true]
 refine ⟨Bl, ?_⟩
 rw [E9 hnd _ _ o hop, BZ, ha.evalF, hop, hty, hy]
 simp only [Oper.uponIn]
 exact ⟨f, ha, k⟩
def Cb (fn : Func) : Code := fn.body.getD .skip
def cs1 : Code -> Code | .seq a _ => a | _ => .skip
def cs2 : Code -> Code | .seq _ b => b | _ => .skip
def cbd : Code -> Code | .block _ b => b | .loop b => b | .scope b => b | _ => .skip
def cid : Code -> Nat | .block id _ => id | .region id _ _ => id | .exit id => id | _ => 0
def DR : Code -> Array Oper | .region _ R _ => R | _ => #[]
def PT : Code -> Code | .cond _ a _ => a | _ => .skip
def PX : Code -> Code | .cond _ _ b => b | _ => .skip
def NB : Code -> Operand | .cond c _ _ => c | _ => .tmp 0
def kin : Code -> Nat
 | .skip => 0 | .region _ _ false => 1 | .region _ _ true => 2 | .seq _ _ => 3 | .cond _ _ _ => 4 | .block _ _ => 5 | .loop _ => 6 | .exit _ => 7 | .ret => 8 | _ => 9
def E8 (K : Fr -> World -> Prop) (Q : Exit -> Fr -> World -> Prop) : Exit -> Fr -> World -> Prop
 | .normal, f, w => K f w
 | e, f, w => Q e f w
def E6 (id : Nat) (Q : Exit -> Fr -> World -> Prop) : Exit -> Fr -> World -> Prop
 | .exit id', f, w => if id' = id then Q .normal f w else Q (.exit id') f w
 | e, f, w => Q e f w
theorem CWP.mono {c : Code} {Q' : Exit -> Fr -> World -> Prop} {f : Fr} {w : World} (h : CWP P ro n c Q' f w) (hq : ∀ e f w, Q' e f w -> Q e f w) : CWP P ro n c Q f w :=
 fun a ha => wpIn_mono (h a ha) fun _ _ _ ⟨f, hf, hQ⟩ => ⟨f, hf, hq _ _ _ hQ⟩
theorem CWP.skip {c : Code} (hk : kin c = 0) {f : Fr} {w : World} (h : Q .normal f w) : CWP P ro n c Q f w := by
 cases c <;> simp [kin] at hk
 ·exact fun a ha => wpIn_skip ⟨f, ha, h⟩
 ·rename_i d; cases d <;> simp [kin] at hk
theorem CWP.ret {c : Code} (hk : kin c = 8) {f : Fr} {w : World} (h : Q .ret f w) : CWP P ro n c Q f w := by
 cases c <;> simp [kin] at hk
 ·rename_i d; cases d <;> simp [kin] at hk
 ·exact fun a ha => wpIn_ret ⟨f, ha, h⟩
theorem CWP.exit {c : Code} (hk : kin c = 7) {f : Fr} {w : World} (h : Q (.exit (cid c)) f w) : CWP P ro n c Q f w := by
 cases c <;> simp [kin] at hk
 ·rename_i d; cases d <;> simp [kin] at hk
 ·exact fun a ha => wpIn_exit ⟨f, ha, h⟩
theorem CWP.region {c : Code} (hk : kin c = 1) (hok : okR n (DR c) = true) {l : List Nat} (hl : List.range (DR c).size = l) {f : Fr} {w : World} (h : RWP P ro n (DR c) Q l f w) : CWP P ro n c Q f w := by
 subst hl
 cases c <;> simp [kin] at hk
 rename_i id ops d
 cases d <;> simp [kin] at hk
 exact fun a ha => wpIn_region (h hok a ha)
theorem CWP.seq {c : Code} (hk : kin c = 3) {f : Fr} {w : World} (h : CWP P ro n (cs1 c) (E8 (CWP P ro n (cs2 c) Q) Q) f w) : CWP P ro n c Q f w := by
 cases c <;> simp [kin] at hk
 ·rename_i d; cases d <;> simp [kin] at hk
 ·refine fun a ha => wpIn_seq (wpIn_mono (h a ha) ?_)
  rintro e a w ⟨f, hf, hQ⟩
  cases e <;> first | exact hQ a hf | exact ⟨f, hf, hQ⟩
theorem CWP.block {c : Code} (hk : kin c = 5) {f : Fr} {w : World} (h : CWP P ro n (cbd c) (E6 (cid c) Q) f w) : CWP P ro n c Q f w := by
 cases c <;> simp [kin] at hk
 ·rename_i d; cases d <;> simp [kin] at hk
 ·rename_i id body
  refine fun a ha => wpIn_block (wpIn_mono (h a ha) ?_)
  rintro e a w ⟨f, hf, hQ⟩
  cases e with
  | exit id' =>
   simp only [E6, cid] at hQ
   simp only [Exit.inBlock]
   split
   ·rename_i he; simp only [he, if_true] at hQ; exact ⟨f, hf, hQ⟩
   ·rename_i he; simp only [he, if_false] at hQ; exact ⟨f, hf, hQ⟩
  | _ => exact ⟨f, hf, hQ⟩
theorem CWP.cond {c : Code} (hk : kin c = 4) {f : Fr} {w : World} {t : Bool} (hc : fev f (NB c) = .bool t) (ht : t = true -> CWP P ro n (PT c) Q f w) (hf : t = false -> CWP P ro n (PX c) Q f w) : CWP P ro n c Q f w := by
 cases c <;> simp [kin] at hk
 ·rename_i d; cases d <;> simp [kin] at hk
 ·exact fun a ha => wpIn_cond_split (by rw [ha.eval]; exact hc) (fun h => ht h a ha) (fun h => hf h a ha)
theorem CWP.loop {c : Code} (hk : kin c = 6) {f : Fr} {w : World} (I : Nat -> Fr -> World -> Prop) (m : Nat) (h0 : I m f w)
  (round : ∀ m f w, I m f w -> CWP P ro n (cbd c) (E8 (fun f' w' => ∃ m', m' < m /\ I m' f' w') Q) f w) : CWP P ro n c Q f w := by
 cases c <;> simp [kin] at hk
 ·rename_i d; cases d <;> simp [kin] at hk
 ·rename_i body
  intro a ha b k cs hro hb hr
  have key : ∀ m a w f, Dm n f a -> I m f w ->
    ∃ e a' w', lq n Q e a' w' /\ ArrivesIn (Machine.fenced P (FW ro)) P (lone (b.atR a (.code body :: .inLoop body :: k)) cs w) b k cs e a' w' := by
   intro m
   induction m using Nat.strongRecOn with
   | _ m ih =>
    intro a w f hfa hI
    obtain ⟨e, a₁, w₁, ⟨f1, hf1, hq⟩, harr⟩ := round m f w hI a hfa b (.inLoop body :: k) cs hro hb hr
    cases e with
    | normal =>
     obtain ⟨m', hlt, hI1⟩ := hq
     obtain ⟨e₂, a₂, w₂, hq₂, harr₂⟩ := ih m' hlt a₁ w₁ f1 hf1 hI1
     exact ⟨e₂, a₂, w₂, hq₂, .of_steps (StepsIn.trans harr (.one (fenced_calm hb hr rfl) stepR_inLoop)) harr₂⟩
    | exit id => exact ⟨_, a₁, w₁, ⟨f1, hf1, hq⟩, .pass (x := .inLoop body) rfl (fun _ _ => .inl (by simp)) harr⟩
    | goto l => exact ⟨_, a₁, w₁, ⟨f1, hf1, hq⟩, .pass (x := .inLoop body) rfl (fun _ _ => .inl (by simp)) harr⟩
    | ret => exact ⟨_, a₁, w₁, ⟨f1, hf1, hq⟩, .pass (x := .inLoop body) rfl (fun _ _ => .inl (by simp)) harr⟩
    | panic ch => exact ⟨_, a₁, w₁, ⟨f1, hf1, hq⟩, .pass (x := .inLoop body) rfl (fun _ _ => .inl (by simp)) harr⟩
    | outgrown => exact ⟨_, a₁, w₁, ⟨f1, hf1, hq⟩, .pass (x := .inLoop body) rfl (fun _ _ => .inl (by simp)) harr⟩
  obtain ⟨e, a', w', hq, harr⟩ := key m a w f ha h0
  exact ⟨e, a', w', hq, .of_steps (.one (fenced_calm hb hr rfl) stepR_loop) harr⟩
abbrev SF := @CWP.loop
def IP (f : Fr) : ResultVar -> Sem Value
 | .tmp t => pure (f t)
 | .cell a t => do loadVar t (<- asAddr (f a))
def Cf (rs : Array ResultVar) (f : Fr) : Sem Value := do
 let vs <- rs.mapM (IP f)
 pure (if h : vs.size = 1 then vs[0] else .tuple vs)
theorem Dm.results {f : Fr} {a : Act} (h : Dm n f a) (fn : Func) : results fn a.tmps = Cf fn.results f := by
 unfold Go.results Cf
 congr 1
 ·congr 1
  funext x
  cases x <;> simp [h.at_, IP]
def RG (P : Program) (rs : Array ResultVar) (S : Ending -> World -> Prop) : Exit -> Fr -> World -> Prop
 | .normal, f, w | .ret, f, w => f.d = [] /\ ∃ v, (Cf rs f).run P w = .ok v w /\ S (.returned v) w
 | .panic Jr, f, w => f.d = [] /\ S (.panicked Jr) w
 | .outgrown, _, w => S .outgrown w
 | _, _, _ => False
def f0 (args : List Value) : Fr := ⟨fun i => args.getD i undef, []⟩
theorem EB {fid : FuncId} {fn : Func} {c : Code} {args : List Value} {w : World} {S : Ending -> World -> Prop}
  (hf : P.funcs[fid]? = some fn) (hb : fn.body = some c) (hn : fn.ntmps = n) (hsz : decide (args.length <= n) = true)
  (h : CWP P none n c (RG P fn.results S) (f0 args) w) : Calls P fid args.toArray w S := by
 have hsz' : args.length <= n := by simpa using hsz
 refine calls_of_wp hf hb (wp_mono (wpIn_wide.1 (h _ ⟨?_, ?_, rfl⟩)) ?_)
 ·simp; omega
 ·intro i
  simp only [f0]
  rw [Array.getD_eq_getD_getElem?]
  by_cases hi : i < args.length
  ·simp [Array.getElem?_append, hi]
  ·rw [Array.getElem?_append_right (by simp; omega)]
   rw [List.getD_eq_getElem?_getD, List.getElem?_eq_none (by omega)]
   simp only [List.getElem?_toArray, Array.getElem?_replicate]
   split <;> rfl
 ·rintro e a w ⟨f, hf, hQ⟩
  cases e with
  | normal => obtain ⟨hd, v, hr, hS⟩ := hQ; exact ⟨hf.defers.trans hd, v, by rw [hf.results fn]; exact hr, hS⟩
  | ret => obtain ⟨hd, v, hr, hS⟩ := hQ; exact ⟨hf.defers.trans hd, v, by rw [hf.results fn]; exact hr, hS⟩
  | panic ch => exact ⟨hf.defers.trans hQ.1, hQ.2⟩
  | outgrown => exact hQ
  | exit id => exact hQ
  | goto l => exact hQ
end
def Px : TypeDesc -> Bool
 | .struct _ | .array _ _ => true
 | _ => false
def Dr (P : Program) (t : TypeId) : Option (Bool × Nat) :=
 match P.underlying t, P.info? t with
 | some d, some i => some (Px d, i.size)
 | _, _ => none
def Ip (P : Program) (s : TypeId) (i : Nat) : Option (Nat × Nat) :=
 match P.underlying s with
 | some (.struct fs) => match fs[i]? with
  | some f => match P.info? f.type with
   | some j => some (f.offset, j.size)
   | none => none
  | none => none
 | _ => none
def NA (P : Program) (s : TypeId) (i : Nat) : Option (Nat × TypeId) :=
 match P.underlying s with
 | some (.struct fs) => match fs[i]? with
  | some f => some (f.offset, f.type)
  | none => none
 | _ => none
def BA (P : Program) (t : TypeId) : Option Value := match P.info? t with | some i => i.zero | none => none
def A1 (P : Program) (t : TypeId) : Option (TypeId × Nat × Nat) :=
 match P.underlying t with
 | some (.slice e) => match P.info? e with
  | some i => some (e, i.size, i.bytes)
  | none => none
 | _ => none
def As (C : Array Value) (o k : Nat) : List Value := (C.toList.drop o).take k
def mkV (agg : Bool) (cs : List Value) : Value := bif agg then .agg cs.toArray else cs.headD undef
def C3 : Array Value -> Nat -> List Value -> Array Value
 | C, _, [] => C
 | C, o, v :: vs => C3 (C.setIfInBounds o v) (o + 1) vs
theorem Jc : ∀ (vs : List Value) (C : Array Value) (o : Nat), (C3 C o vs).size = C.size
 | [], _, _ => rfl
 | v :: vs, C, o => by rw [C3, Jc vs]; simp
def Cm (w : World) (b : Nat) (o : Obj) : World := { w with heap := w.heap.setIfInBounds b o }
@[simp] theorem Ry (w : World) (b : Nat) (o : Obj) : (Cm w b o).heap.size = w.heap.size := by simp [Cm]
theorem Lh {w : World} {b : Nat} {o o' : Obj} (h : w.heap[b]? = some o) : (Cm w b o').heap[b]? = some o' := by
 have : b < w.heap.size := (Array.getElem?_eq_some_iff.1 h).1
 simp [Cm, this]
theorem Ho (w : World) {b c : Nat} (o : Obj) (h : c ≠ b) : (Cm w b o).heap[c]? = w.heap[c]? := by
 simp [Cm, Array.getElem?_setIfInBounds, Ne.symm h]
theorem OA {w : World} {b : Nat} {o : Obj} (h : w.heap[b]? = some o) : Cm w b o = w := by
 have hb : b < w.heap.size := (Array.getElem?_eq_some_iff.1 h).1
 have he := (Array.getElem?_eq_some_iff.1 h).2
 cases w with
 | mk heap tape drawn os output =>
  simp only [Cm, World.mk.injEq, and_true]
  apply Array.ext
  ·simp
  ·intro i h1 h2
   rw [Array.getElem_setIfInBounds]
   split
   ·rename_i hi; subst hi; exact he.symm
   ·rfl
theorem OB (w : World) (b : Nat) (o o' : Obj) : Cm (Cm w b o) b o' = Cm w b o' := by
 cases w with
 | mk heap tape drawn os output =>
  simp only [Cm, World.mk.injEq, and_true]
  apply Array.ext
  ·simp
  ·intro i h1 h2
   have h3 : i < heap.size := by simpa using h1
   rw [Array.getElem_setIfInBounds (hj := by simpa using h3), Array.getElem_setIfInBounds (hj := h3), Array.getElem_setIfInBounds (hj := h3)]
   split <;> rfl
theorem LG {w : World} {b o : Nat} {C : Array Value} {E : TypeId} {fz : Nat × Nat} {v : Value} (h : w.heap[b]? = some (.cells C E fz)) :
  w.setCell ⟨b, o, none⟩ v = Cm w b (.cells (C.setIfInBounds o v) E fz) := by
 have hb : b < w.heap.size := (Array.getElem?_eq_some_iff.1 h).1
 have he := (Array.getElem?_eq_some_iff.1 h).2
 cases w with
 | mk heap tape drawn os output =>
  simp only at he hb
  simp only [World.setCell, Cm, World.mk.injEq, and_true]
  apply Array.ext
  ·simp
  ·intro i h1 h2
   have h3 : i < heap.size := by simpa using h1
   rw [Array.getElem_modify, Array.getElem_setIfInBounds (hj := h3)]
   by_cases hi : b = i
   ·subst hi
    simp [he]
   ·simp [hi]
theorem Iz {w : World} {b : Nat} {C : Array Value} {E : TypeId} {fz : Nat × Nat} (h : w.heap[b]? = some (.cells C E fz)) (o : Nat) : w.cell? ⟨b, o, none⟩ = C[o]? := by
 simp [World.cell?, h]
abbrev Mem := Nat -> Option Obj
abbrev S1 (w0 : World) (F0 : Mem) : Prop := ∀ b o, F0 b = some o -> w0.heap[b]? = some o
def Mem.le (F F' : Mem) : Prop := ∀ b o, F b = some o -> F' b = some o
abbrev SG := @Mem.le
theorem Mem.le.refl (F : Mem) : SG F F := fun _ _ h => h
abbrev SH := @Mem.le.refl
theorem Mem.le.trans {A B C : Mem} (h : SG A B) (k : SG B C) : SG A C := fun b o x => k b o (h b o x)
def NP (w0 w : World) : Prop := w.os = w0.os /\ w.output = w0.output /\ w.tape = w0.tape
theorem NP.trans {a b c : World} (h : NP a b) (k : NP b c) : NP a c := ⟨k.1.trans h.1, k.2.1.trans h.2.1, k.2.2.trans h.2.2⟩
structure HS (w0 : World) (F0 : Mem) (w : World) (F : Mem) (L : List (Option Nat × Obj)) : Prop where
 base : ∀ b o, F0 b = some o -> w0.heap[b]? = some o
 fix : NP w0 w
 size : w0.heap.size <= w.heap.size
 keep : ∀ b, b < w0.heap.size -> w.heap[b]? = w0.heap[b]?
 f0 : ∀ b, b < w0.heap.size -> F b = F0 b
 pers : ∀ b o, F b = some o -> w.heap[b]? = some o
 own : ∀ b o, (some b, o) ∈ L -> w.heap[b]? = some o /\ F b = none /\ w0.heap.size <= b
 nd : (L.filterMap (·.1)).Nodup
section
variable {w0 w w' w1 : World} {F0 F F1 : Mem} {L : List (Option Nat × Obj)}
theorem BQ {w : World} {b : Nat} {o : Obj} (h : w.heap[b]? = some o) : b < w.heap.size := (Array.getElem?_eq_some_iff.1 h).1
theorem HS.start (h : ∀ b o, F b = some o -> w.heap[b]? = some o) : HS w F w F [] :=
 ⟨h, ⟨rfl, rfl, rfl⟩, Nat.le_refl _, fun _ _ => rfl, fun _ _ => rfl, h, fun _ _ h => (by cases h), List.nodup_nil⟩
abbrev SI := @HS.start
theorem HS.le (h : HS w0 F0 w F L) : SG F0 F := fun b o hb => by
 rw [h.f0 b (BQ (h.base b o hb))]; exact hb
theorem HS.heap (h : HS w0 F0 w F L) (e : w'.heap = w.heap) (ef : NP w w' := by exact ⟨rfl, rfl, rfl⟩) : HS w0 F0 w' F L :=
 ⟨h.base, h.fix.trans ef, by rw [e]; exact h.size, fun b hb => by rw [e]; exact h.keep b hb, h.f0, fun b o hb => by rw [e]; exact h.pers b o hb, fun b o hm => by rw [e]; exact h.own b o hm, h.nd⟩
theorem HS.fresh (h : HS w0 F0 w F L) : F w.heap.size = none := by
 cases hF : F w.heap.size with
 | none => rfl
 | some o => exact absurd (BQ (h.pers _ _ hF)) (Nat.lt_irrefl _)
theorem Hq {b : Nat} {L : List (Option Nat × Obj)} (h : b ∈ L.filterMap (·.1)) : ∃ o, (some b, o) ∈ L := by
 obtain ⟨⟨ob, o⟩, hm, he⟩ := List.mem_filterMap.1 h
 exact ⟨o, by simp only at he; rw [<- he]; exact hm⟩
theorem EZ (w : World) (o : Obj) {b : Nat} (h : b < w.heap.size) : (w.alloc o).heap[b]? = w.heap[b]? := by
 simp only [World.alloc]; rw [Array.getElem?_push_lt h]; simp [h]
theorem KT (w : World) (o : Obj) : (w.alloc o).heap[w.heap.size]? = some o := by simp only [World.alloc]; simp
theorem HS.alloc (h : HS w0 F0 w F L) (o : Obj) : HS w0 F0 (w.alloc o) F ((some w.heap.size, o) :: L) := by
 refine ⟨h.base, h.fix.trans ⟨rfl, rfl, rfl⟩, ?_, fun b hb => ?_, h.f0, fun b o hb => ?_, fun b o' hm => ?_, ?_⟩
 ·have := h.size; simp; omega
 ·rw [EZ w _ (Nat.lt_of_lt_of_le hb h.size)]; exact h.keep b hb
 ·have := h.pers b o hb
  rw [EZ w _ (BQ this)]; exact this
 ·rcases List.mem_cons.1 hm with e | hm
  ·cases e
   exact ⟨KT w _, h.fresh, h.size⟩
  ·obtain ⟨h1, h2, h3⟩ := h.own b o' hm
   exact ⟨by rw [EZ w _ (BQ h1)]; exact h1, h2, h3⟩
 ·simp only [List.filterMap_cons]
  refine List.nodup_cons.2 ⟨fun hm => ?_, h.nd⟩
  obtain ⟨o', hm⟩ := Hq hm
  exact absurd (BQ (h.own _ _ hm).1) (Nat.lt_irrefl _)
theorem HS.call (h : HS w0 F0 w F L) (hc : HS w F w1 F1 []) : HS w0 F0 w1 F1 L := by
 refine ⟨h.base, h.fix.trans hc.fix, Nat.le_trans h.size hc.size, fun b hb => ?_, fun b hb => ?_, hc.pers, fun b o hm => ?_, h.nd⟩
 ·rw [hc.keep b (Nat.lt_of_lt_of_le hb h.size)]; exact h.keep b hb
 ·rw [hc.f0 b (Nat.lt_of_lt_of_le hb h.size)]; exact h.f0 b hb
 ·obtain ⟨h1, h2, h3⟩ := h.own b o hm
  have hl := BQ h1
  exact ⟨by rw [hc.keep b hl]; exact h1, by rw [hc.f0 b hl]; exact h2, h3⟩
theorem HS.put (h : HS w0 F0 w F L) {k b : Nat} {o : Obj} (hk : L[k]? = some (some b, o)) (o' : Obj) : HS w0 F0 (Cm w b o') F (L.set k (some b, o')) := by
 have hm : (some b, o) ∈ L := List.mem_of_getElem? hk
 obtain ⟨h1, h2, h3⟩ := h.own b o hm
 have hkl : k < L.length := by
  rcases Nat.lt_or_ge k L.length with h' | h'
  ·exact h'
  ·rw [List.getElem?_eq_none h'] at hk; cases hk
 have hmap : (L.set k (some b, o')).filterMap (·.1) = L.filterMap (·.1) := by
  clear h hm h1 h2 h3
  induction L generalizing k with
  | nil => rfl
  | cons x L ih =>
   cases k with
   | zero =>
    simp only [List.getElem?_cons_zero, Option.some.injEq] at hk
    subst hk
    rfl
   | succ k =>
    simp only [List.getElem?_cons_succ] at hk
    simp only [List.set_cons_succ, List.filterMap_cons]
    rw [ih hk (by simpa using hkl)]
 refine ⟨h.base, h.fix.trans ⟨rfl, rfl, rfl⟩, by simpa using h.size, fun c hc => ?_, h.f0, fun c oc hF => ?_, fun c oc hmc => ?_, by rw [hmap]; exact h.nd⟩
 ·rw [Ho _ _ (by omega)]; exact h.keep c hc
 ·rw [Ho _ _ (fun e => by rw [e, h2] at hF; cases hF)]; exact h.pers c oc hF
 ·by_cases hcb : c = b
  ·subst hcb
   have : oc = o' := by
    have hnd := h.nd
    clear h h1 h2 h3 hmap hm
    induction L generalizing k with
    | nil => cases hmc
    | cons x L ih =>
     cases k with
     | zero =>
      simp only [List.getElem?_cons_zero, Option.some.injEq] at hk
      subst hk
      simp only [List.set_cons_zero] at hmc
      rcases List.mem_cons.1 hmc with e | hmc
      ·cases e; rfl
      ·simp only [List.filterMap_cons] at hnd
       exact absurd (List.mem_filterMap.2 ⟨(some c, oc), hmc, rfl⟩ : c ∈ L.filterMap (·.1)) (List.nodup_cons.1 hnd).1
     | succ k =>
      simp only [List.getElem?_cons_succ] at hk
      simp only [List.set_cons_succ] at hmc
      rcases List.mem_cons.1 hmc with e | hmc
      ·subst e
       simp only [List.filterMap_cons] at hnd
       exact absurd (List.mem_filterMap.2 ⟨(some c, o), List.mem_of_getElem? hk, rfl⟩ : c ∈ L.filterMap (·.1)) (List.nodup_cons.1 hnd).1
      ·refine ih (by simpa using hkl) hk hmc ?_
       simp only [List.filterMap_cons] at hnd
       split at hnd
       ·exact hnd
       ·exact (List.nodup_cons.1 hnd).2
   subst this
   exact ⟨Lh h1, h2, h3⟩
  ·have : (some c, oc) ∈ L := by
    rcases List.mem_or_eq_of_mem_set hmc with hh | hh
    ·exact hh
    ·cases hh; exact absurd rfl hcb
   obtain ⟨g1, g2, g3⟩ := h.own c oc this
   exact ⟨by rw [Ho _ _ hcb]; exact g1, g2, g3⟩
def JM (F : Mem) (p : Option Nat × Obj) : Mem := fun b => if p.1 = some b then some p.2 else F b
theorem B8 {α : Type} {x : α} : ∀ {k : Nat} {L : List α}, x ∈ L.eraseIdx k -> x ∈ L
 | _, [], h => by cases h
 | 0, y :: L, h => List.mem_cons_of_mem _ h
 | k + 1, y :: L, h => by
  simp only [List.eraseIdx_cons_succ] at h
  rcases List.mem_cons.1 h with e | h
  ·subst e; exact List.mem_cons_self
  ·exact List.mem_cons_of_mem _ (B8 h)
theorem DO : ∀ {k : Nat} {L : List (Option Nat × Obj)}, (L.filterMap (·.1)).Nodup -> ((L.eraseIdx k).filterMap (·.1)).Nodup
 | _, [], _ => List.nodup_nil
 | 0, y :: L, h => by
  simp only [List.filterMap_cons] at h
  simp only [List.eraseIdx_cons_zero]
  split at h
  ·exact h
  ·exact (List.nodup_cons.1 h).2
 | k + 1, y :: L, h => by
  simp only [List.eraseIdx_cons_succ, List.filterMap_cons] at h ⊢
  cases hy : y.1 with
  | none => simp only [hy] at h ⊢; exact DO h
  | some b =>
   simp only [hy] at h ⊢
   refine List.nodup_cons.2 ⟨fun hm => (List.nodup_cons.1 h).1 ?_, DO (List.nodup_cons.1 h).2⟩
   obtain ⟨o, hm⟩ := Hq hm
   exact List.mem_filterMap.2 ⟨_, B8 hm, rfl⟩
theorem HS.drop (h : HS w0 F0 w F L) (k : Nat) : HS w0 F0 w F (L.eraseIdx k) :=
 ⟨h.base, h.fix, h.size, h.keep, h.f0, h.pers, fun b o hm => h.own b o (B8 hm), DO h.nd⟩
theorem Kn : ∀ {k : Nat} {L : List (Option Nat × Obj)} {b : Nat} {o : Obj}, L[k]? = some (some b, o) -> (L.filterMap (·.1)).Nodup -> ∀ c oc, (some c, oc) ∈ L.eraseIdx k -> c ≠ b
 | _, [], _, _, hk, _ => by simp at hk
 | 0, y :: L, b, o, hk, hnd => fun c oc hm e => by
  simp only [List.getElem?_cons_zero, Option.some.injEq] at hk
  subst hk
  subst e
  simp only [List.filterMap_cons] at hnd
  exact (List.nodup_cons.1 hnd).1 (List.mem_filterMap.2 ⟨_, hm, rfl⟩)
 | k + 1, y :: L, b, o, hk, hnd => fun c oc hm e => by
  simp only [List.getElem?_cons_succ] at hk
  simp only [List.eraseIdx_cons_succ] at hm
  rcases List.mem_cons.1 hm with e' | hm
  ·subst e'
   subst e
   simp only [List.filterMap_cons] at hnd
   exact (List.nodup_cons.1 hnd).1 (List.mem_filterMap.2 ⟨_, List.mem_of_getElem? hk, rfl⟩)
  ·refine Kn hk ?_ c oc hm e
   simp only [List.filterMap_cons] at hnd
   split at hnd
   ·exact hnd
   ·exact (List.nodup_cons.1 hnd).2
theorem HS.freeze (h : HS w0 F0 w F L) {k : Nat} {p : Option Nat × Obj} (hk : L[k]? = some p) : HS w0 F0 w (JM F p) (L.eraseIdx k) /\ SG F (JM F p) := by
 obtain ⟨ob, o⟩ := p
 cases ob with
 | none =>
  have : JM F (Option.none, o) = F := by funext b; simp [JM]
  rw [this]
  exact ⟨h.drop k, SH F⟩
 | some b =>
  obtain ⟨h1, h2, h3⟩ := h.own b o (List.mem_of_getElem? hk)
  refine ⟨⟨h.base, h.fix, h.size, h.keep, fun c hc => ?_, fun c oc hF => ?_, fun c oc hm => ?_, DO h.nd⟩, fun c oc hF => ?_⟩
  ·have : b ≠ c := by omega
   simp [JM, this, h.f0 c hc]
  ·simp only [JM] at hF
   split at hF
   ·rename_i e; cases e; cases hF; exact h1
   ·exact h.pers c oc hF
  ·obtain ⟨g1, g2, g3⟩ := h.own c oc (B8 hm)
   have hne := Kn hk h.nd c oc hm
   refine ⟨g1, ?_, g3⟩
   simp [JM, Ne.symm hne, g2]
  ·have : b ≠ c := fun e => by rw [<- e, h2] at hF; cases hF
   simp [JM, this, hF]
theorem Ls (F : Mem) (b : Nat) (o : Obj) : JM F (some b, o) b = some o := by simp [JM]
theorem HS.ownAt (h : HS w0 F0 w F L) {k b : Nat} {o : Obj} (hk : L[k]? = some (some b, o)) : w.heap[b]? = some o := (h.own b o (List.mem_of_getElem? hk)).1
end
def AV (w : World) (F : Mem) (post : Mem -> Value -> Prop) : Ending -> World -> Prop :=
 fun e w' => ∃ r F', e = .returned r /\ HS w F w' F' [] /\ post F' r
abbrev W64 (n : Int) : Int := IntKind.i64.wrap n
section
variable {P : Program} {w : World} {ρ : Operand -> Value} {ty : TypeId}
theorem AL {x : Operand} {v : Value} (h : ρ x = v) : (Ao ρ (.move x) ty).run P w = .ok (.value v) w := by subst h; rfl
theorem Az {x : Operand} {v : Value} (h : ρ x = v) : (Ao ρ (.assign x) ty).run P w = .ok (.value v) w := by subst h; rfl
theorem IJ {c a b : Operand} {t : Bool} {v : Value} (hc : ρ c = .bool t) (ht : t = true) (h : ρ a = v) : (Ao ρ (.pick c a b) ty).run P w = .ok (.value v) w := by
 subst h ht; simp [Ao, execOp, hc, asBool]
theorem IK {c a b : Operand} {t : Bool} {v : Value} (hc : ρ c = .bool t) (ht : t = false) (h : ρ b = v) : (Ao ρ (.pick c a b) ty).run P w = .ok (.value v) w := by
 subst h ht; simp [Ao, execOp, hc, asBool]
section ints
variable {x y : Operand} {k : IntKind} {a b : Int} {t t' : TypeId}
theorem Qt (hx : ρ x = .int k a) (hy : ρ y = .int k b) : (Ao ρ (.binOp .add t x y t') ty).run P w = .ok (.value (.int k (k.wrap (a + b)))) w := by
 simp [Ao, execOp, hx, hy, eqGuard, binOp, Op.intArith]
theorem Qf (hx : ρ x = .int k a) (hy : ρ y = .int k b) : (Ao ρ (.binOp .sub t x y t') ty).run P w = .ok (.value (.int k (k.wrap (a - b)))) w := by
 simp [Ao, execOp, hx, hy, eqGuard, binOp, Op.intArith]
theorem Ql (hx : ρ x = .int k a) (hy : ρ y = .int k b) : (Ao ρ (.binOp .mul t x y t') ty).run P w = .ok (.value (.int k (k.wrap (a * b)))) w := by
 simp [Ao, execOp, hx, hy, eqGuard, binOp, Op.intArith]
theorem Qh (hx : ρ x = .int k a) (hy : ρ y = .int k b) (hb : decide (b = 0) = false) : (Ao ρ (.binOp .quo t x y t') ty).run P w = .ok (.value (.int k (k.wrap (a.tdiv b)))) w := by
 have : b ≠ 0 := by simpa using hb
 simp [Ao, execOp, hx, hy, eqGuard, binOp, Op.intDiv, this]
theorem Qg (hx : ρ x = .int k a) (hy : ρ y = .int k b) (hb : decide (b = 0) = false) : (Ao ρ (.binOp .rem t x y t') ty).run P w = .ok (.value (.int k (a.tmod b))) w := by
 have : b ≠ 0 := by simpa using hb
 simp [Ao, execOp, hx, hy, eqGuard, binOp, Op.intDiv, this]
theorem Qm (hx : ρ x = .int k a) (hy : ρ y = .int k b) : (Ao ρ (.binOp .lss t x y t') ty).run P w = .ok (.value (.bool (decide (a < b)))) w := by
 simp [Ao, execOp, hx, hy, eqGuard, binOp, Op.intCmp]
theorem Qn (hx : ρ x = .int k a) (hy : ρ y = .int k b) : (Ao ρ (.binOp .leq t x y t') ty).run P w = .ok (.value (.bool (decide (a <= b)))) w := by
 simp [Ao, execOp, hx, hy, eqGuard, binOp, Op.intCmp]
theorem NX (hx : ρ x = .int k a) (hy : ρ y = .int k b) : (Ao ρ (.binOp .gtr t x y t') ty).run P w = .ok (.value (.bool (decide (a > b)))) w := by
 simp [Ao, execOp, hx, hy, eqGuard, binOp, Op.intCmp]
theorem Qp (hx : ρ x = .int k a) (hy : ρ y = .int k b) : (Ao ρ (.binOp .geq t x y t') ty).run P w = .ok (.value (.bool (decide (a >= b)))) w := by
 simp [Ao, execOp, hx, hy, eqGuard, binOp, Op.intCmp]
theorem NY (hx : ρ x = .int k a) (hy : ρ y = .int k b) : (Ao ρ (.binOp .eql t x y t') ty).run P w = .ok (.value (.bool (a == b))) w := by
 simp [Ao, execOp, hx, hy, eqGuard_at_int, binOp, Op.intCmp]
theorem HH (hx : ρ x = .int k a) (hy : ρ y = .int k b) : (Ao ρ (.binOp .neq t x y t') ty).run P w = .ok (.value (.bool (a != b))) w := by
 simp [Ao, execOp, hx, hy, eqGuard_at_int, binOp, Op.intCmp]
theorem Qj (hx : ρ x = .int k a) : (Ao ρ (.unOp .neg t x) ty).run P w = .ok (.value (.int k (k.wrap (0 - a)))) w := by
 simp [Ao, execOp, hx, Op.unary, Op.intArith]
end ints
section bools
variable {x y : Operand} {a b : Bool} {t t' : TypeId}
theorem LI (hx : ρ x = .bool a) : (Ao ρ (.unOp .not t x) ty).run P w = .ok (.value (.bool (!a))) w := by
 simp [Ao, execOp, hx, Op.unary]
theorem Qr (hx : ρ x = .bool a) (hy : ρ y = .bool b) (hu : P.underlying t = some .bool) : (Ao ρ (.binOp .eql t x y t') ty).run P w = .ok (.value (.bool (a == b))) w := by
 have e : Ao ρ (.binOp .eql t x y t') ty = (do pure (Next.value (<- (do eqGuard .eql t x y (ρ x) (ρ y); binOp .eql t (ρ x) (ρ y))))) := rfl
 have e2 : binOp .eql t (.bool a) (.bool b) = (do pure (Value.bool (<- Op.equalIn (9999 + 1) t (.bool a) (.bool b)))) := rfl
 rw [e, hx, hy, eqGuard_at_bool, e2]
 simp only [Sem.run_bind, Sem.run_pure, Result.andThen_ok, run_equalIn_bool' w 9999 t a b hu]
theorem Qk (hx : ρ x = .bool a) (hy : ρ y = .bool b) (hu : P.underlying t = some .bool) : (Ao ρ (.binOp .neq t x y t') ty).run P w = .ok (.value (.bool (!(a == b)))) w := by
 have e : Ao ρ (.binOp .neq t x y t') ty = (do pure (Next.value (<- (do eqGuard .neq t x y (ρ x) (ρ y); binOp .neq t (ρ x) (ρ y))))) := rfl
 have e2 : binOp .neq t (.bool a) (.bool b) = (do pure (Value.bool (!(<- Op.equalIn (9999 + 1) t (.bool a) (.bool b))))) := rfl
 rw [e, hx, hy, eqGuard_at_bool, e2]
 simp only [Sem.run_bind, Sem.run_pure, Result.andThen_ok, run_equalIn_bool' w 9999 t a b hu]
end bools
theorem EQ {C : Array Value} {o k : Nat} (h : (As C o k).length = k) {j : Nat} (hj : j < k) : C[o + j]? = (As C o k)[j]? := by
 unfold As at *
 rw [List.getElem?_take_of_lt hj, List.getElem?_drop, Array.getElem?_toList]
theorem JG (C : Array Value) (o k : Nat) : (As C o k).toArray = C.extract o (o + k) := by
 apply Array.ext'
 simp only [As, Array.toList_extract, List.extract]
 rw [show o + k - o = k by omega]
theorem EG {t : TypeId} {g : Bool} {s : Nat} (h : Dr P t = some (g, s)) : ∃ d i, P.underlying t = some d /\ P.info? t = some i /\ Px d = g /\ i.size = s := by
 unfold Dr at h
 split at h
 ·rename_i d i hd hi
  simp only [Option.some.injEq, Prod.mk.injEq] at h
  exact ⟨d, i, hd, hi, h.1, h.2⟩
 ·cases h
theorem K7 {t : TypeId} {g : Bool} {s : Nat} (h : Dr P t = some (g, s)) (w : World) : (isAgg t).run P w = .ok g w := by
 obtain ⟨d, i, hd, hi, hg, hs⟩ := EG h
 subst hg
 unfold isAgg
 rw [Sem.run_bind, run_underlying hd]
 cases d <;> rfl
theorem CC {t : TypeId} {i : TypeInfo} (h : P.info? t = some i) (w : World) : (sizeOf t).run P w = .ok i.size w := by
 simp [sizeOf, typeInfo, h]
theorem FY {t : TypeId} {g : Bool} {s : Nat} (h : Dr P t = some (g, s)) (w : World) : (sizeOf t).run P w = .ok s w := by
 obtain ⟨d, i, hd, hi, hg, hs⟩ := EG h
 rw [CC hi, hs]
theorem JV {t : TypeId} {g : Bool} {s : Nat} (ht : Dr P t = some (g, s)) {C : Array Value} {o : Nat} (hl : (As C o s).length = s) (hgs : g = true \/ s = 1) (w : World) :
  (part t C o).run P w = .ok (mkV g (As C o s)) w := by
 unfold part
 rw [Sem.run_bind, K7 ht]
 cases g with
 | true =>
  simp only [Result.andThen_ok, if_true, Sem.run_bind, FY ht, Sem.run_pure, mkV, cond_true]
  rw [JG]
 | false =>
  have hs1 : s = 1 := by simpa using hgs
  subst hs1
  have := EQ hl (j := 0) (by omega)
  simp only [Nat.add_zero] at this
  simp only [Result.andThen_ok, Bool.false_eq_true, if_false, this, mkV, cond_false]
  match hc : As C o 1, hl with
  | [v], _ => rfl
def Hc (P : Program) (eq : TypeId -> Value -> Value -> Option Bool) (xs ys : Array Value) : List Field -> Option Bool
 | [] => some true
 | f :: fs =>
  if f.name == "_" then Hc P eq xs ys fs else
  match Dr P f.type with
  | none => none
  | some (g, s) =>
   if (As xs f.offset s).length == s && (As ys f.offset s).length == s && (g || s == 1) then
    match eq f.type (mkV g (As xs f.offset s)) (mkV g (As ys f.offset s)), Hc P eq xs ys fs with
    | some a, some b => some (a && b)
    | _, _ => none
   else none
def eqV (P : Program) : Nat -> TypeId -> Value -> Value -> Option Bool
 | 0, _, _, _ => none
 | d + 1, t, x, y =>
  match P.underlying t with
  | some .bool => match x, y with | .bool a, .bool b => some (a == b) | _, _ => none
  | some (.int _) => match x, y with | .int k a, .int k' b => if k = k' then some (a == b) else none | _, _ => none
  | some .string => match x, y with | .string a, .string b => some (a.data.toList == b.data.toList) | _, _ => none
  | some (.struct fs) => match x, y with | .agg xs, .agg ys => if P.stoodInHeld t then none else Hc P (eqV P d) xs ys fs.toList | _, _ => none
  | _ => none
theorem I1 {eq : TypeId -> Value -> Value -> Option Bool} {d : Nat} (he : ∀ t x y b, eq t x y = some b -> ∀ w, (Op.equalIn d t x y).run P w = .ok b w) (xs ys : Array Value) :
  ∀ (fs : List Field) (b : Bool), Hc P eq xs ys fs = some b -> ∀ w, (Op.eqFields d xs ys fs).run P w = .ok b w
 | [], b, h, w => by simp only [Hc, Option.some.injEq] at h; subst h; rfl
 | f :: fs, b, h, w => by
  unfold Hc at h
  unfold Op.eqFields
  by_cases hn : f.name = "_"
  ·have hn' : (f.name == "_") = true := by simpa using hn
   rw [hn'] at h
   simp only [if_true] at h
   rw [if_neg (by simpa using hn)]
   exact I1 he xs ys fs b h w
  ·have hn' : (f.name == "_") = false := by simpa using hn
   rw [hn'] at h
   simp only [Bool.false_eq_true, if_false] at h
   rw [if_pos (by simpa using hn)]
   cases ht : Dr P f.type with
   | none => rw [ht] at h; cases h
   | some p =>
    obtain ⟨g, s⟩ := p
    rw [ht] at h
    simp only at h
    split at h
    ·rename_i hc
     simp only [Bool.and_eq_true, beq_iff_eq, Bool.or_eq_true] at hc
     split at h
     ·rename_i a c h1 h2
      simp only [Option.some.injEq] at h
      subst h
      simp only [Sem.run_bind, JV ht hc.1.1 hc.2, JV ht hc.1.2 hc.2, Result.andThen_ok, he _ _ _ _ h1, Sem.run_ite, Sem.run_pure]
      cases a with
      | false => simp
      | true => simp [I1 he xs ys fs c h2 w]
     ·cases h
    ·cases h
theorem LU : ∀ (d : Nat) (t : TypeId) (x y : Value) (b : Bool), eqV P d t x y = some b -> ∀ w, (Op.equalIn d t x y).run P w = .ok b w
 | 0, _, _, _, _, h, _ => by cases h
 | d + 1, t, x, y, b, h, w => by
  unfold eqV at h
  split at h
  ·rename_i hu
   split at h
   ·simp only [Option.some.injEq] at h; subst h; exact run_equalIn_bool' w d t _ _ hu
   ·cases h
  ·rename_i hu
   split at h
   ·split at h
    ·rename_i hk
     simp only [Option.some.injEq] at h; subst h; subst hk; exact run_equalIn_int w d t _ _ _ _ hu
    ·cases h
   ·cases h
  ·rename_i hu
   split at h
   ·simp only [Option.some.injEq] at h; subst h; rw [<- ByteArray.toList_eq, <- ByteArray.toList_eq]; exact run_equalIn_string w d t _ _ hu
   ·cases h
  ·rename_i fs hu
   split at h
   ·split at h
    ·cases h
    ·rename_i hp
     have hf : P.fieldsOf t = fs := by simp [Program.fieldsOf, hu]
     rw [run_equalIn_struct w d t _ _ (by rw [hf]; exact hu) (by simpa using hp), hf]
     exact I1 (LU d) _ _ _ _ h w
   ·cases h
  ·cases h
theorem PJ {e1 e2 : TypeId -> Value -> Value -> Option Bool} (he : ∀ t x y b, e1 t x y = some b -> e2 t x y = some b) (xs ys : Array Value) :
  ∀ (l : List Field) (c : Bool), Hc P e1 xs ys l = some c -> Hc P e2 xs ys l = some c := by
 intro l
 induction l with
 | nil => exact fun c h => h
 | cons f l ih =>
  intro c h
  unfold Hc at h ⊢
  by_cases hn : (f.name == "_") = true
  ·rw [if_pos hn] at h ⊢; exact ih c h
  ·rw [if_neg hn] at h ⊢
   cases ht : Dr P f.type with
   | none => rw [ht] at h; cases h
   | some p =>
    obtain ⟨g, s⟩ := p
    rw [ht] at h
    simp only at h ⊢
    split at h
    ·rename_i hc
     rw [if_pos hc]
     cases h1 : e1 f.type (mkV g (As xs f.offset s)) (mkV g (As ys f.offset s)) with
     | none => rw [h1] at h; cases h
     | some a =>
      cases h2 : Hc P e1 xs ys l with
      | none => rw [h1, h2] at h; cases h
      | some b => rw [h1, h2] at h; rw [he _ _ _ _ h1, ih _ h2]; exact h
    ·cases h
theorem PH : ∀ (d : Nat) (t : TypeId) (x y : Value) (b : Bool), eqV P d t x y = some b -> eqV P (d + 1) t x y = some b
 | 0, _, _, _, _, h => by cases h
 | d + 1, t, x, y, b, h => by
  unfold eqV at h ⊢
  cases hu : P.underlying t with
  | none => rw [hu] at h; cases h
  | some td =>
   rw [hu] at h
   cases td with
   | struct fs =>
    simp only at h ⊢
    cases x <;> cases y <;> first | (cases h; done) | skip
    rename_i xs ys
    simp only at h ⊢
    split at h
    ·cases h
    ·rename_i hp
     rw [if_neg hp]
     exact PJ (PH d) xs ys fs.toList b h
   | _ => exact h
theorem PI {d : Nat} (k : Nat) {t : TypeId} {x y : Value} {b : Bool} (h : eqV P d t x y = some b) : eqV P (d + k) t x y = some b := by
 induction k with
 | zero => exact h
 | succ k ih => exact PH _ _ _ _ _ ih
theorem Qq {x y : Operand} {xs ys : Array Value} {t t' : TypeId} {b : Bool} (hx : ρ x = .agg xs) (hy : ρ y = .agg ys) (hg : P.eqGuardType P.depth t = false) (he : eqV P 8 t (.agg xs) (.agg ys) = some b) :
  (Ao ρ (.binOp .eql t x y t') ty).run P w = .ok (.value (.bool b)) w := by
 have e : Ao ρ (.binOp .eql t x y t') ty = (do pure (Next.value (<- (do eqGuard .eql t x y (ρ x) (ρ y); binOp .eql t (ρ x) (ρ y))))) := rfl
 rw [e, hx, hy]
 simp only [Sem.run_bind, run_eqGuard_agg w .eql t x y xs ys hg, Result.andThen_ok, run_eql_struct, LU 10000 t _ _ b (PI 9992 he), Sem.run_pure]
theorem Qi {x y : Operand} {xs ys : Array Value} {t t' : TypeId} {b : Bool} (hx : ρ x = .agg xs) (hy : ρ y = .agg ys) (hg : P.eqGuardType P.depth t = false) (he : eqV P 8 t (.agg xs) (.agg ys) = some b) :
  (Ao ρ (.binOp .neq t x y t') ty).run P w = .ok (.value (.bool (!b))) w := by
 have e : Ao ρ (.binOp .neq t x y t') ty = (do pure (Next.value (<- (do eqGuard .neq t x y (ρ x) (ρ y); binOp .neq t (ρ x) (ρ y))))) := rfl
 rw [e, hx, hy]
 simp only [Sem.run_bind, run_eqGuard_agg w .neq t x y xs ys hg, Result.andThen_ok, run_neq_struct, LU 10000 t _ _ b (PI 9992 he), Sem.run_pure]
theorem BH {x : Operand} {vs : Array Value} {i : Nat} {v : Value} (hx : ρ x = .tuple vs) (hv : vs[i]? = some v) : (Ao ρ (.extract x i) ty).run P w = .ok (.value v) w := by
 simp [Ao, execOp, hx, Instr.extract, hv]
theorem LT {s : TypeId} {i o k : Nat} (h : Ip P s i = some (o, k)) : ∃ fs f j, P.underlying s = some (.struct fs) /\ fs[i]? = some f /\ P.info? f.type = some j /\ f.offset = o /\ j.size = k := by
 unfold Ip at h
 split at h
 ·rename_i fs hu
  split at h
  ·rename_i f hf
   split at h
   ·rename_i j hj
    simp only [Option.some.injEq, Prod.mk.injEq] at h
    exact ⟨fs, f, j, hu, hf, hj, h.1, h.2⟩
   ·cases h
  ·cases h
 ·cases h
theorem BX {s : TypeId} {x : Operand} {i o k b o0 : Nat} (hx : ρ x = .pointer (some ⟨b, o0, none⟩)) (hf : Ip P s i = some (o, k)) (hk : decide (k = 0) = false) {o1 : Nat} (ho : o0 + o = o1) :
  (Ao ρ (.fieldAddr s x i) ty).run P w = .ok (.value (.pointer (some ⟨b, o1, none⟩))) w := by
 obtain ⟨fs, f, j, hu, hfi, hj, hfo, hjs⟩ := LT hf
 have hk' : k ≠ 0 := by simpa using hk
 subst ho
 simp only [Ao, execOp, hx, Instr.fieldAt, Instr.sureAddr, Sem.run_bind, run_underlying hu, Result.andThen_ok, hfi, Sem.run_pure, fieldPlace, CC hj, hjs, hk', if_false, hfo, Addr.add]
 split
 ·rename_i h0; simp [h0]
 ·rfl
theorem Ox {s : TypeId} {x : Operand} {i o k : Nat} {cs : Array Value} {v : Value} (hx : ρ x = .agg cs) {fs : Array Field} {f : Field} (hu : P.underlying s = some (.struct fs)) (hf : fs[i]? = some f) {g : Bool}
  (ht : Dr P f.type = some (g, k)) (hl : (As cs f.offset k).length = k) (hgs : (g || k == 1) = true) (hv : mkV g (As cs f.offset k) = v) : (Ao ρ (.field s x i) ty).run P w = .ok (.value v) w := by
 subst hv
 simp only [Ao, execOp, hx, Instr.field, Sem.run_bind, run_underlying hu, Result.andThen_ok, hf, asAgg, Sem.run_pure, JV ht hl (by simpa using hgs)]
theorem GJ {t E : TypeId} {x y : Operand} {k : IntKind} {b o n c : Nat} {i : Int} {s by_ : Nat} (hx : ρ x = .slice (some ⟨b, o, none⟩) n c) (hy : ρ y = .int k i) (he : A1 P t = some (E, s, by_))
  (hi : 0 <= i /\ i < (n : Int)) : (Ao ρ (.indexAddr t x y) ty).run P w = .ok (.value (.pointer (some ⟨b, o + i.toNat * s, none⟩))) w := by
 unfold A1 at he
 split at he
 ·rename_i e hu
  split at he
  ·rename_i j hj
   simp only [Option.some.injEq, Prod.mk.injEq] at he
   obtain ⟨rfl, rfl, rfl⟩ := he
   have hdo : Ao ρ (.indexAddr t x y) ty = (do pure (Next.value (<- Instr.indexAt t (ρ x) (ρ y)))) := rfl
   rw [hdo, hx, hy]
   simp only [Instr.indexAt, asIntOf, Sem.run_bind, Sem.run_pure, Result.andThen_ok, run_underlying hu, hi, and_self, if_true, CC hj, Addr.add]
   split
   ·rename_i h0; simp [h0]
   ·rfl
  ·cases he
 ·cases he
theorem Ak {t : TypeId} {g : Bool} {s b o : Nat} {C : Array Value} {E : TypeId} {fz : Nat × Nat} (ht : Dr P t = some (g, s)) (hb : w.heap[b]? = some (.cells C E fz))
  (hl : (As C o s).length = s) (hgs : g = true \/ s = 1) : (loadVar t ⟨b, o, none⟩).run P w = .ok (mkV g (As C o s)) w := by
 unfold loadVar
 rw [Sem.run_bind, K7 ht]
 cases g with
 | true =>
  simp only [Result.andThen_ok, if_true, Sem.run_bind, FY ht, Sem.run_pure, mkV, cond_true]
  have hh := run_loadCells_list (P := P) (w := w) ⟨b, o, none⟩ (As C o s) (fun j v hj => by
   have hjs : j < s := by
    rcases Nat.lt_or_ge j s with h' | h'
    ·exact h'
    ·rw [List.getElem?_eq_none (by omega)] at hj; cases hj
   rw [Addr.add_lit, Iz hb, EQ hl hjs]; exact hj)
  rw [hl] at hh
  rw [hh]
  rfl
 | false =>
  have hs1 : s = 1 := by simpa using hgs
  subst hs1
  have := EQ hl (j := 0) (by omega)
  simp only [Nat.add_zero] at this
  simp only [Result.andThen_ok, Bool.false_eq_true, if_false, run_load, Iz hb, this, mkV, cond_false]
  match hc : As C o 1, hl with
  | [v], _ => rfl
theorem B6 {t : TypeId} {x : Operand} {g : Bool} {s b o : Nat} {C : Array Value} {E : TypeId} {fz : Nat × Nat} {v : Value} (hx : ρ x = .pointer (some ⟨b, o, none⟩)) (ht : Dr P t = some (g, s))
  (hb : w.heap[b]? = some (.cells C E fz)) (hl : (As C o s).length = s) (hgs : (g || s == 1) = true) (hv : mkV g (As C o s) = v) :
  (Ao ρ (.load t x) ty).run P w = .ok (.value v) w := by
 subst hv
 have e : Ao ρ (.load t x) ty = (do pure (Next.value (<- Instr.loadAt t (ρ x)))) := rfl
 rw [e, hx]
 simp only [Instr.loadAt, Instr.sureAddr, Sem.run_bind, Sem.run_pure, Result.andThen_ok, Ak ht hb hl (by simpa using hgs)]
theorem Qs {t : TypeId} {x : Operand} {v : Value} (hx : ρ x = v) : (Ao ρ (.box t x) ty).run P w = .ok (.value (.pointer (some ⟨w.heap.size, 0, none⟩))) (w.alloc (.cells v.cells t)) := by
 subst hx; rfl
theorem Oy {t : TypeId} {z : Value} (hz : BA P t = some z) : (Ao ρ (.alloc t) ty).run P w = .ok (.value (.pointer (some ⟨w.heap.size, 0, none⟩))) (w.alloc (.cells z.cells t)) := by
 unfold BA at hz
 split at hz
 ·rename_i i hi
  have e : Ao ρ (.alloc t) ty = (do pure (Next.value (<- Instr.alloc t true (.tuple #[])))) := rfl
  rw [e]
  simp only [Instr.alloc, zeroValue, typeInfo, Sem.run_bind, run_program, Result.andThen_ok, hi, hz, Sem.run_pure]
  rfl
 ·cases hz
theorem Em (E : TypeId) : ∀ (vs : List Value) (w : World) (b o i : Nat) (C : Array Value), w.heap[b]? = some (.cells C E (0, 0)) -> o + i + vs.length <= C.size -> vs.all (·.oneCell') = true ->
  (storeCells ⟨b, o, none⟩ vs i).run P w = .ok () (Cm w b (.cells (C3 C (o + i) vs) E (0, 0)))
 | [], w, b, o, i, C, hb, _, _ => by simp only [storeCells, C3, Sem.run_pure]; rw [OA hb]
 | v :: vs, w, b, o, i, C, hb, hl, h1 => by
  simp only [List.all_cons, Bool.and_eq_true] at h1
  simp only [List.length_cons] at hl
  have hlt : o + i < C.size := by omega
  have hc : w.cell? ⟨b, o + i, none⟩ = some C[o + i] := by rw [Iz hb]; simp [hlt]
  have hf : w.frozen? ⟨b, o + i, none⟩ = false := by simp [World.frozen?, hb]
  simp only [storeCells, Addr.add_lit, Sem.run_bind, run_store P w _ v _ h1.1, hc, hf, Bool.false_eq_true, if_false, Result.andThen_ok]
  rw [LG hb]
  rw [Em E vs _ b o (i + 1) (C.setIfInBounds (o + i) v) (Lh hb) (by simp; omega) h1.2, OB]
  simp only [C3]
  rw [show o + (i + 1) = o + i + 1 by omega]
theorem Fm {t : TypeId} {x y : Operand} {g : Bool} {s b o : Nat} {C : Array Value} {E : TypeId} {v : Value} (hx : ρ x = .pointer (some ⟨b, o, none⟩)) (hy : ρ y = v) (ht : Dr P t = some (g, s))
  (hb : w.heap[b]? = some (.cells C E (0, 0))) (hs : v.cells.size = s) (hl : decide (o + s <= C.size) = true) (h1 : v.cells.toList.all (·.oneCell') = true) {C' : Array Value} (hC : C3 C o v.cells.toList = C') :
  (Ao ρ (.store t x y) ty).run P w = .ok .skip (Cm w b (.cells C' E (0, 0))) := by
 subst hy hC
 have e : Ao ρ (.store t x y) ty = (do Instr.storeAt t (ρ x) (ρ y); pure .skip) := rfl
 have hl' : o + s <= C.size := by simpa using hl
 rw [e, hx]
 simp only [Instr.storeAt, Instr.sureAddr, storeVar, Sem.run_bind, Sem.run_pure, Result.andThen_ok, FY ht, hs, ne_eq, not_true_eq_false, if_false]
 rw [Em E _ w b o 0 C hb (by simp [hs]; omega) h1]
 rfl
def Aq (P : Program) (g : FuncId) : Prop := ∀ (args : Array Value) (w : World), (callFunc g args).run P w = .ok (.enter g args) w
theorem map_toArray (aos : Array Operand) (ρ : Operand -> Value) : aos.map ρ = (aos.toList.map ρ).toArray := by
 apply Array.ext'; simp
theorem C8 {f : Operand} {aos : Array Operand} {ats : Array TypeId} {g : FuncId} {first cap : Array Value} {args : List Value} (hf : ρ f = .func (.func g) first cap) (hg : Aq P g) (ha : first.toList ++ aos.toList.map ρ ++ cap.toList = args) :
  (Ao ρ (.call { callee := .value f, args := aos, argTypes := ats }) ty).run P w = .ok (.enter g args.toArray) w := by
 subst ha
 have e : Ao ρ (.call { callee := .value f, args := aos, argTypes := ats }) ty = (do let d <- Deferred.ofValue (ρ f) (aos.map ρ); invoke d.target d.args) := rfl
 rw [e, hf]
 simp only [Deferred.ofValue, Sem.run_bind, Sem.run_pure, Result.andThen_ok, invoke]
 rw [hg]
 congr 2
 apply Array.ext'; simp
theorem CJ {fn : Fn} {first cap : Array Operand} {fl cl : List Value} (hf : first.toList.map ρ = fl) (hc : cap.toList.map ρ = cl) : (Ao ρ (.makeFunc fn first cap) ty).run P w = .ok (.value (.func fn fl.toArray cl.toArray)) w := by
 subst hf hc
 rw [<- map_toArray, <- map_toArray]; rfl
theorem JW {x : Operand} {ats : Array TypeId} {t E : TypeId} {s by_ : Nat} {a : S0} {n c : Nat} (hx : ρ x = .slice a n c) (ht : ats[0]? = some t) (he : A1 P t = some (E, s, by_)) :
  (Ao ρ (.call { callee := .builtin .len, args := #[x], argTypes := ats }) ty).run P w = .ok (.value (.int .i64 (n : Int))) w := by
 unfold A1 at he
 split at he
 ·rename_i e hu
  have e1 : Ao ρ (.call { callee := .builtin .len, args := #[x], argTypes := ats }) ty = (do pure (Next.value (<- Builtin.len_ ats ty (Array.map ρ #[x])))) := rfl
  rw [e1, map_toArray]
  simp only [List.map_cons, List.map_nil, hx]
  simp only [Builtin.len_, ht, Sem.run_bind, List.getElem?_toArray, List.getElem?_cons_zero, run_underlying hu, Result.andThen_ok, Sem.run_pure, goInt]
 ·cases he
end
structure Ty (α : Type) where
 sz : Nat
 agg : Bool
 R : Mem -> List Value -> α -> Prop
 len : ∀ {F : Mem} {cs : List Value} {x : α}, R F cs x -> cs.length = sz
 mono : ∀ {F F' : Mem} {cs : List Value} {x : α}, SG F F' -> R F cs x -> R F' cs x
 ok : (agg || sz == 1) = true
def Ty.V {α : Type} (T : Ty α) (F : Mem) (v : Value) (x : α) : Prop := ∃ cs, T.R F cs x /\ v = mkV T.agg cs
theorem Ty.V.mono {α : Type} {T : Ty α} {F F' : Mem} {v : Value} {x : α} (h : T.V F v x) (hl : SG F F') : T.V F' v x :=
 let ⟨cs, h1, h2⟩ := h; ⟨cs, T.mono hl h1, h2⟩
def Ci : Ty Int := ⟨1, false, fun _ cs x => cs = [.int .i64 x], fun h => by subst h; rfl, fun _ h => h, rfl⟩
def SlA {α : Type} (T : Ty α) (F : Mem) (a : S0) (l : List α) : Prop :=
 l = [] \/ ∃ b o C E fz, a = some ⟨b, o, none⟩ /\ F b = some (.cells C E fz) /\ ∀ i x, l[i]? = some x -> T.R F (As C (o + i * T.sz) T.sz) x
theorem SlA.mono {α : Type} {T : Ty α} {F F' : Mem} {a : S0} {l : List α} (h : SlA T F a l) (hl : SG F F') : SlA T F' a l := by
 rcases h with h | ⟨b, o, C, E, fz, ha, hF, hx⟩
 ·exact .inl h
 ·exact .inr ⟨b, o, C, E, fz, ha, hl _ _ hF, fun i x hi => T.mono hl (hx i x hi)⟩
abbrev SJ := @SlA.mono
def LC (n c : Nat) : Prop := n <= c /\ n < 9223372036854775808
theorem LC.nil {α : Type} : LC ([] : List α).length 0 := ⟨Nat.le_refl _, by simp⟩
abbrev SK := @LC.nil
def tSl {α : Type} (T : Ty α) : Ty (List α) := ⟨1, false, fun F cs l => ∃ a c, cs = [.slice a l.length c] /\ LC l.length c /\ SlA T F a l,
 fun h => by obtain ⟨a, c, h, _⟩ := h; subst h; rfl, fun hl h => by obtain ⟨a, c, h1, h2, h3⟩ := h; exact ⟨a, c, h1, h2, h3.mono hl⟩, rfl⟩
def idx {α : Type} (l : List α) (i : Int) : Option α := if 0 <= i then l[i.toNat]? else none
theorem Aw {α : Type} {l : List α} {i : Int} {x : α} (h : idx l i = some x) : (0 <= i /\ i < (l.length : Int)) /\ l[i.toNat]? = some x := by
 unfold idx at h
 split at h
 ·rename_i hi
  have hlt : i.toNat < l.length := by
   rcases Nat.lt_or_ge i.toNat l.length with h' | h'
   ·exact h'
   ·rw [List.getElem?_eq_none h'] at h; cases h
  exact ⟨⟨hi, by omega⟩, h⟩
 ·cases h
theorem bind_some {α β : Type} {o : Option α} {k : α -> Option β} {r : β} (h : o.bind k = some r) : ∃ x, o = some x /\ k x = some r := by
 cases o with
 | none => cases h
 | some x => exact ⟨x, rfl, h⟩
theorem PU {α : Type} {b : Bool} {x y : α} {r : α} (h : (bif b then x else y) = r) (hb : b = true) : x = r := by subst hb; exact h
theorem PV {α : Type} {b : Bool} {x y : α} {r : α} (h : (bif b then x else y) = r) (hb : b = false) : y = r := by subst hb; exact h
theorem Ab {α : Type} {x y : α} (h : some x = some y) : x = y := by cases h; rfl
inductive Bn (ρ σ : Type) where
 | next (s : σ)
 | done (s : σ)
 | ret (r : ρ)
def AX {ρ σ : Type} (body : σ -> Option (Bn ρ σ)) : Nat -> σ -> Option (Bn ρ σ)
 | 0, _ => none
 | n + 1, s => match body s with
  | some (.next s') => AX body n s'
  | r => r
section
variable {P : Program} {ro : Option Nat} {n : Nat} {R : Array Oper} {Q : Exit -> Fr -> World -> Prop}
def FA (R : Array Oper) (j : Nat) : Option Nat := (R[j]?).bind (·.dst)
theorem Nz {f : Fr} {j d : Nat} {want b : Bool} (hj : FA R j = some d) (hf : f d = .bool b) (hb : b = want) : gd R f (some (j, want)) = true := by
 unfold FA at hj
 simp [gd, yf, hj, hf, asB, hb]
theorem RN {f : Fr} {j d : Nat} {want b : Bool} (hj : FA R j = some d) (hf : f d = .bool b) (hb : b = !want) : gd R f (some (j, want)) = false := by
 unfold FA at hj
 simp [gd, yf, hj, hf, asB, hb]
theorem RM {f : Fr} {j d : Nat} {want : Bool} (hj : FA R j = some d) (hf : f d = undef) : gd R f (some (j, want)) = false := by
 unfold FA at hj
 simp [gd, yf, hj, hf, asB, undef]
theorem RWP.split {l : List Nat} {f : Fr} {w : World} (b : Bool) (ht : b = true -> RWP P ro n R Q l f w) (hf : b = false -> RWP P ro n R Q l f w) : RWP P ro n R Q l f w := by
 cases b
 ·exact hf rfl
 ·exact ht rfl
abbrev SL := @RWP.split
theorem LetsOut.mono {A B : Exit -> Act -> World -> Prop} (hq : ∀ e a w, A e a w -> B e a w) (h : LetsOut A) : LetsOut B := let ⟨a, w, h⟩ := h; ⟨a, w, hq _ _ _ h⟩
theorem Oper.wpIn_monoQ {F : Fence} {o : Oper} {a : Act} {w : World} {K K' : Act -> World -> Prop} {A B : Exit -> Act -> World -> Prop} (h : ∀ a w, K a w -> K' a w) (hq : ∀ e a w, A e a w -> B e a w)
  (hh : o.wpIn F 0 P a w K A) : o.wpIn F 0 P a w K' B := by
 unfold Oper.wpIn at *
 refine ⟨hh.1, ?_⟩
 have hh := hh.2
 generalize (o.semAt F.round a.eval).run P w = r at *
 cases r with
 | ok n w' =>
  cases n <;> simp only [Oper.uponIn] at hh ⊢ <;>
   first
    | exact h _ _ hh
    | exact ⟨hh.1, CallsIn.mono hh.2 (fun e w'' he => by cases e <;> first | exact h _ _ he | exact hq _ _ _ he | exact LetsOut.mono hq he)⟩
    | exact ⟨hh.1, RoundIn.mono hh.2 (fun e w'' he => by cases e <;> first | exact h _ _ he | exact hq _ _ _ he | exact LetsOut.mono hq he)⟩
    | exact ⟨hh.1, RowsIn.mono hh.2 (fun _ _ he => h _ _ he)⟩
 | halt x w' => cases x <;> simp only [Oper.uponIn] at hh ⊢ <;> first | exact hq _ _ _ hh | exact hh
theorem DF {F : Fence} {ops : Array Oper} {A B : Exit -> Act -> World -> Prop} (hq : ∀ e a w, A e a w -> B e a w) : ∀ (l : List Nat) (a : Act) (w : World), wpOpsIn F 0 P ops A l a w -> wpOpsIn F 0 P ops B l a w
 | [], a, w, h => hq _ _ _ h
 | i :: l, a, w, h => by
  rw [wpOpsIn] at h ⊢
  cases ho : ops[i]? with
  | none => simp only [ho] at h ⊢; exact DF hq l a w h
  | some o =>
   simp only [ho] at h ⊢
   split
   ·rename_i hw
    simp only [hw, if_true] at h
    exact Oper.wpIn_monoQ (DF hq l) hq h
   ·rename_i hw
    simp only [hw] at h
    exact ⟨h.1, DF hq l _ _ h.2⟩
theorem RWP.cut {l : List Nat} {f : Fr} {w : World} (S : Fr -> World -> Prop) (h : RWP P ro n R (fun e f w => e = .normal /\ S f w) l f w) (k : ∀ f w, S f w -> Q .normal f w) : RWP P ro n R Q l f w :=
 fun hok a ha => DF (by rintro e a w ⟨f, hf, rfl, hS⟩; exact ⟨f, hf, k _ _ hS⟩) l a w (h hok a ha)
abbrev SM := @RWP.cut
theorem CWP.cut {c : Code} {f : Fr} {w : World} (S : Fr -> World -> Prop) (h : CWP P ro n c (fun e f w => (e = .normal /\ S f w) \/ Q e f w) f w) (k : ∀ f w, S f w -> Q .normal f w) : CWP P ro n c Q f w :=
 h.mono fun e f w hh => hh.elim (fun ⟨he, hS⟩ => he ▸ k _ _ hS) id
abbrev SN := @CWP.cut
end
section
variable {P : Program} {ro : Option Nat} {n : Nat} {R : Array Oper} {Q : Exit -> Fr -> World -> Prop} {K : Fr -> World -> Prop} {f : Fr} {w : World}
theorem Ac (h : K f w) : E8 K Q .normal f w := h
theorem AF {i : Nat} (h : Q (.exit i) f w) : E8 K Q (.exit i) f w := h
theorem Aj (h : Q .ret f w) : E8 K Q .ret f w := h
theorem An {c : List PanicEntry} (h : Q (.panic c) f w) : E8 K Q (.panic c) f w := h
theorem Ax {i : Nat} (h : Q .normal f w) : E6 i Q .normal f w := h
theorem AZ {i j : Nat} (e : j = i) (h : Q .normal f w) : E6 i Q (.exit j) f w := by subst e; simp only [E6, if_true]; exact h
theorem MS {i j : Nat} (e : j ≠ i) (h : Q (.exit j) f w) : E6 i Q (.exit j) f w := by simp only [E6, e, if_false]; exact h
theorem Al {i : Nat} (h : Q .ret f w) : E6 i Q .ret f w := h
theorem AP {i : Nat} {c : List PanicEntry} (h : Q (.panic c) f w) : E6 i Q (.panic c) f w := h
theorem CWP.cond1 {c : Code} {t : Bool} (hk : kin c = 4) (hc : fev f (NB c) = .bool t) (ht : t = true) (h : CWP P ro n (PT c) Q f w) : CWP P ro n c Q f w := CWP.cond hk hc (fun _ => h) (fun e => by rw [ht] at e; cases e)
theorem CWP.cond0 {c : Code} {t : Bool} (hk : kin c = 4) (hc : fev f (NB c) = .bool t) (ht : t = false) (h : CWP P ro n (PX c) Q f w) : CWP P ro n c Q f w := CWP.cond hk hc (fun e => by rw [ht] at e; cases e) (fun _ => h)
section
variable {α : Type} {b : Bool} {v x y : α}
theorem IC (hb : b = true) (h : v = x) : v = (bif b then x else y) := by subst hb; exact h
theorem ID (hb : b = false) (h : v = y) : v = (bif b then x else y) := by subst hb; exact h
end
theorem D0 {b v x : Bool} (hb : b = true) (h : v = x) : v = (b && x) := by subst hb; simpa using h
theorem GI {b v x : Bool} (hb : b = false) (h : v = false) : v = (b && x) := by subst hb; simpa using h
theorem FQ {b v x : Bool} (hb : b = true) (h : v = true) : v = (b || x) := by subst hb; simpa using h
theorem B5 {b v x : Bool} (hb : b = false) (h : v = x) : v = (b || x) := by subst hb; simpa using h
def Bn.k {ρ σ τ : Type} (o : Bn ρ σ) (fr : ρ -> Option τ) (fd : σ -> Option τ) : Option τ :=
 match o with
 | .next _ => none
 | .done s => fd s
 | .ret r => fr r
theorem Cu {ρ σ τ : Type} {s : σ} {fr : ρ -> Option τ} {fd : σ -> Option τ} {r : τ} (h : (Bn.done s : Bn ρ σ).k fr fd = some r) : fd s = some r := h
theorem Bf {ρ σ : Type} {body : σ -> Option (Bn ρ σ)} {m : Nat} {s : σ} {o : Bn ρ σ} (h : AX body m s = some o) :
  ∃ m' fl, m = m' + 1 /\ body s = some fl /\ ((∃ s', fl = .next s' /\ AX body m' s' = some o) \/ (fl = o /\ ∀ s', fl ≠ .next s')) := by
 cases m with
 | zero => cases h
 | succ m =>
  refine ⟨m, ?_⟩
  rw [AX] at h
  cases hb : body s with
  | none => rw [hb] at h; cases h
  | some fl =>
   rw [hb] at h
   cases fl with
   | next s' => exact ⟨_, rfl, rfl, .inl ⟨s', rfl, h⟩⟩
   | done s' => cases h; exact ⟨_, rfl, rfl, .inr ⟨rfl, fun _ e => by cases e⟩⟩
   | ret r => cases h; exact ⟨_, rfl, rfl, .inr ⟨rfl, fun _ e => by cases e⟩⟩
section
variable {ρ σ : Type} {body : σ -> Option (Bn ρ σ)} {m : Nat} {o fl : Bn ρ σ}
theorem A8 {s : σ} (h : some (Bn.next s) = some fl) (hn : (∃ s', fl = .next s' /\ AX body m s' = some o) \/ (fl = o /\ ∀ s', fl ≠ .next s')) : AX body m s = some o := by
 cases h
 rcases hn with ⟨s', e, hi⟩ | ⟨_, hne⟩
 ·cases e; exact hi
 ·exact absurd rfl (hne s)
theorem Bm {s : σ} (h : some (Bn.done s) = some fl) (hn : (∃ s', fl = .next s' /\ AX body m s' = some o) \/ (fl = o /\ ∀ s', fl ≠ .next s')) : o = .done s := by
 cases h
 rcases hn with ⟨s', e, hi⟩ | ⟨e, _⟩
 ·cases e
 ·exact e.symm
theorem Cs {r : ρ} (h : some (Bn.ret r) = some fl) (hn : (∃ s', fl = .next s' /\ AX body m s' = some o) \/ (fl = o /\ ∀ s', fl ≠ .next s')) : o = .ret r := by
 cases h
 rcases hn with ⟨s', e, hi⟩ | ⟨e, _⟩
 ·cases e
 ·exact e.symm
end
section
variable {w0 : World} {F0 F : Mem} {L : List (Option Nat × Obj)} {i : Nat} {rest : List Nat} {dst : Option Nat} {op : Op} {ty : TypeId} {g : Option (Nat × Bool)}
theorem HS.clear (h : HS w0 F0 w F L) : HS w0 F0 w F [] := ⟨h.base, h.fix, h.size, h.keep, h.f0, h.pers, fun _ _ hm => (by cases hm), List.nodup_nil⟩
theorem HS.freezeC (h : HS w0 F0 w F L) {k b : Nat} {o : Obj} (hk : L[k]? = some (some b, o)) : ∃ F', HS w0 F0 w F' (L.eraseIdx k) /\ SG F F' /\ F' b = some o :=
 ⟨_, (h.freeze hk).1, (h.freeze hk).2, Ls F b o⟩
theorem RWP.box {x : Operand} {t : TypeId} {v : Value} {C : Array Value} (ho : opq R i = some (dst, .box t x, ty, g)) (hg : gd R f g = true) (hx : fev f x = v) (hC : v.cells = C)
  (hs : HS w0 F0 w F L) (k : ∀ b w', HS w0 F0 w' F ((some b, .cells C t (0, 0)) :: L) -> RWP P ro n R Q rest (AY f dst (.pointer (some ⟨b, 0, none⟩))) w') : RWP P ro n R Q (i :: rest) f w := by
 subst hC
 exact SD ho hg (Qs hx) (k _ _ (hs.alloc _))
theorem RWP.alloc {t : TypeId} {z : Value} {C : Array Value} (ho : opq R i = some (dst, .alloc t, ty, g)) (hg : gd R f g = true) (hz : BA P t = some z) (hC : z.cells = C)
  (hs : HS w0 F0 w F L) (k : ∀ b w', HS w0 F0 w' F ((some b, .cells C t (0, 0)) :: L) -> RWP P ro n R Q rest (AY f dst (.pointer (some ⟨b, 0, none⟩))) w') : RWP P ro n R Q (i :: rest) f w := by
 subst hC
 exact SD ho hg (Oy hz) (k _ _ (hs.alloc _))
abbrev SO := @RWP.alloc
theorem RWP.store {x y : Operand} {t : TypeId} {v : Value} {gg : Bool} {s b o : Nat} {C C' : Array Value} {E : TypeId} (ho : opq R i = some (none, .store t x y, ty, g)) (hg : gd R f g = true)
  (hx : fev f x = .pointer (some ⟨b, o, none⟩)) (hy : fev f y = v) (ht : Dr P t = some (gg, s)) (hs : HS w0 F0 w F L) {k : Nat} (hk : L[k]? = some (some b, .cells C E (0, 0))) (hsz : v.cells.size = s)
  (hl : decide (o + s <= C.size) = true) (h1 : v.cells.toList.all (·.oneCell') = true) (hC : C3 C o v.cells.toList = C')
  (kk : ∀ w', HS w0 F0 w' F (L.set k (some b, .cells C' E (0, 0))) -> RWP P ro n R Q rest f w') : RWP P ro n R Q (i :: rest) f w :=
 RWP.unit ho hg (Fm hx hy ht (hs.ownAt hk) hsz hl h1 hC) (kk _ (hs.put hk _))
abbrev SP := @RWP.store
theorem RWP.call {f0 : Operand} {aos : Array Operand} {ats : Array TypeId} {fid : FuncId} {first cap : Array Value} {args : List Value} {post : Mem -> Value -> Prop}
  (ho : opq R i = some (dst, .call { callee := .value f0, args := aos, argTypes := ats }, ty, g)) (hg : gd R f g = true) (hf : fev f f0 = .func (.func fid) first cap) (hok : Aq P fid)
  (ha : first.toList ++ aos.toList.map (fev f) ++ cap.toList = args) (hs : HS w0 F0 w F L) (hc : Calls P fid args.toArray w (AV w F post))
  (k : ∀ v F1 w1, HS w0 F0 w1 F1 L -> SG F F1 -> post F1 v -> RWP P ro n R Q rest (AY f dst v) w1) : RWP P ro n R Q (i :: rest) f w := by
 refine SE ho hg (C8 hf hok ha) hc ?_
 rintro e w' ⟨r, F', rfl, h1, h2⟩
 exact k r F' w' (hs.call h1) h1.le h2
theorem Js {C : Array Value} {o k : Nat} {cs : List Value} (h : As C o k = cs) {j s : Nat} (hj : decide (j + s <= k) = true) : As C (o + j) s = (cs.drop j).take s := by
 have hj' : j + s <= k := by simpa using hj
 subst h
 unfold As
 rw [List.drop_take, List.take_take, List.drop_drop]
 rw [show min s (k - j) = s by omega]
theorem IL {ρ : Operand -> Value} {t : TypeId} {x : Operand} {gg : Bool} {s b o j kk : Nat} {C : Array Value} {E : TypeId} {fz : Nat × Nat} {v : Value} {cs : List Value} (hx : ρ x = .pointer (some ⟨b, o + j, none⟩))
  (ht : Dr P t = some (gg, s)) (hb : w.heap[b]? = some (.cells C E fz)) (hc : As C o kk = cs) (hj : decide (j + s <= kk) = true) (hl : ((cs.drop j).take s).length = s /\ True := by exact ⟨rfl, trivial⟩)
  (hgs : (gg || s == 1) = true) (hv : mkV gg ((cs.drop j).take s) = v) : (Ao ρ (.load t x) ty).run P w = .ok (.value v) w := by
 have e := Js hc hj
 exact B6 hx ht hb (by rw [e]; exact hl.1) hgs (by rw [e]; exact hv)
theorem SlA.open {α : Type} {T : Ty α} {a : S0} {l : List α} (h : SlA T F a l) {i : Nat} {x : α} (hx : l[i]? = some x) :
  ∃ b o C E fz, a = some ⟨b, o, none⟩ /\ F b = some (.cells C E fz) /\ ∀ i x, l[i]? = some x -> T.R F (As C (o + i * T.sz) T.sz) x := by
 rcases h with h | h
 ·subst h; simp at hx
 ·exact h
abbrev SQ := @SlA.open
end
def DS (F : Mem) (Lc : List (Option Nat × Obj)) (w : World) : Prop := (∀ b o, F b = some o -> w.heap[b]? = some o) /\ ∀ (k : Nat) b o, Lc[k]? = some (some b, o) -> w.heap[b]? = some o
theorem QP {w0 : World} {F0 F Fs : Mem} {L Lc : List (Option Nat × Obj)} (hs : HS w0 F0 w F L) (hl : SG Fs F) (hL : ∀ p, p ∈ Lc -> p ∈ L) : DS Fs Lc w :=
 ⟨fun b o h => hs.pers b o (hl b o h), fun k b o h => (hs.own b o (hL _ (List.mem_of_getElem? h))).1⟩
theorem DS.keep {F : Mem} {Lc : List (Option Nat × Obj)} {w w' : World} (h : DS F Lc w) (hk : ∀ b, b < w.heap.size -> w'.heap[b]? = w.heap[b]?) : DS F Lc w' :=
 ⟨fun b o hb => by have := h.1 b o hb; rw [hk b (BQ this)]; exact this, fun k b o hb => by have := h.2 k b o hb; rw [hk b (BQ this)]; exact this⟩
def DZ (F : Mem) (Lc Lz : List (Option Nat × Obj)) (zd : Bool) (w : World) : Prop := DS F Lc w /\ (zd = false -> DS F Lz w)
theorem DZ.keep {F : Mem} {Lc Lz : List (Option Nat × Obj)} {zd : Bool} {w w' : World} (h : DZ F Lc Lz zd w) (hk : ∀ b, b < w.heap.size -> w'.heap[b]? = w.heap[b]?) : DZ F Lc Lz zd w' :=
 ⟨h.1.keep hk, fun e => (h.2 e).keep hk⟩
theorem BI {w0 : World} {F0 F Fs : Mem} {L Lc Lz : List (Option Nat × Obj)} {zd : Bool} (hs : HS w0 F0 w F L) (hl : SG Fs F) (hL : ∀ p, p ∈ Lc -> p ∈ L) (hz : zd = false -> ∀ p, p ∈ Lz -> p ∈ L) : DZ Fs Lc Lz zd w :=
 ⟨QP hs hl hL, fun e => QP hs hl (hz e)⟩
section held0
variable {ops : Array Oper} {Q : Exit -> Act -> World -> Prop} {S : World -> Prop}
abbrev FU (P : Program) (ops : Array Oper) (Q : Exit -> Act -> World -> Prop) := wpOpIn (FW none) 0 P ops Q
abbrev QU (P : Program) (ops : Array Oper) (Q : Exit -> Act -> World -> Prop) := wpAnyIn (FW none) 0 P .any ops Q
theorem G4 {i : Nat} {o : Oper} {v : Value} {a : Act} (hi : ops[i]? = some o) (hy : YieldsIf P ops S o v a)
  {K : Act -> World -> Prop} {w : World} (hS : S w) (h : K (a.put o.dst v) w) : FU P ops Q i K a w := by
 unfold FU Go.wpOpIn
 simp only [hi]
 rcases hy with ⟨hw, hv⟩ | ⟨hw, rfl⟩
 ·simp only [hw, if_true, Oper.wpIn]
  refine ⟨Bl, ?_⟩
  show o.uponIn (FW none) 0 P a K Q ((execOp a.eval o).run P w)
  rw [hv w hS]; exact h
 ·simp only [hw, Bool.false_eq_true, if_false]; exact ⟨Bl, h⟩
theorem Mc {j : Nat} {oi oj : Oper} {v : Value} (hj : ops[j]? = some oj) (hap : oi.apart ops oj = true)
  (hsi : ∀ cs b, oi.op ≠ .select cs b) (hsj : ∀ cs b, oj.op ≠ .select cs b)
  (hQ : ∀ c a w, Q (.panic c) (a.put oi.dst v) w -> Q (.panic c) a w) {K : Act -> World -> Prop} {a : Act} {w : World}
  (hy : YieldsIf P ops S oi v a) (h : FU P ops Q j K (a.put oi.dst v) w) :
  FU P ops Q j (fun a' w' => YieldsIf P ops S oi v a' /\ K (a'.put oi.dst v) w') a w := by
 obtain ⟨h1, h2, h3⟩ := Oper.apart_spec hap
 have keep : ∀ (a : Act), YieldsIf P ops S oi v a -> ∀ u, YieldsIf P ops S oi v (a.put oj.dst u) := fun a hy u =>
  hy.of_same (execOp_put oi hsi a oj.dst u h3) (wanted_put oi a oj.dst u h3)
 have keepD : ∀ d, YieldsIf P ops S oi v { a with defers := d :: a.defers } := fun d => hy.of_same rfl rfl
 unfold FU wpOpIn at *
 simp only [hj] at *
 rw [wanted_put oj a oi.dst v h1] at h
 split
 ·rename_i hw
  simp only [hw, if_true] at h
  unfold Oper.wpIn at *
  refine ⟨Bl, ?_⟩
  have h := h.2
  change oj.uponIn (FW none) 0 P (a.put oi.dst v) _ Q ((execOp (a.put oi.dst v).eval oj).run P w) at h
  show oj.uponIn (FW none) 0 P a _ Q ((execOp a.eval oj).run P w)
  rw [execOp_put oj hsj a oi.dst v h1] at h
  generalize (execOp a.eval oj).run P w = r at *
  cases r with
  | ok x w' =>
   cases x <;> simp only [Oper.uponIn] at h ⊢
   case value u => exact ⟨keep a hy u, by rw [<- Act.put_comm a v u h2]; exact h⟩
   case skip => exact ⟨keep a hy _, by rw [<- Act.put_comm a v undef h2]; exact h⟩
   case defer d =>
    refine ⟨keep _ (keepD d) _, ?_⟩
    rw [<- Act.put_comm _ v undef h2, <- Act.put_defers]
    exact h
   case enter f args =>
    refine ⟨h.1, CallsIn.mono h.2 fun e w'' he => ?_⟩
    cases e with
    | returned u => exact ⟨keep a hy u, by rw [<- Act.put_comm a v u h2]; exact he⟩
    | panicked c => exact hQ _ _ _ he
    | outgrown => exact he
   case row row args => exact ⟨h.1, RowsIn.mono h.2 fun u w'' he => ⟨keep a hy u, by rw [<- Act.put_comm a v u h2]; exact he⟩⟩
   case round l f tmps assign body =>
    refine ⟨h.1, RoundIn.mono h.2 fun e w'' he => ?_⟩
    cases e with
    | returned u => exact ⟨keep a hy u, by rw [<- Act.put_comm a v u h2]; exact he⟩
    | panicked c => exact hQ _ _ _ he
    | outgrown => exact he
  | halt x w' =>
   cases x <;> simp only [Oper.uponIn] at h ⊢
   case panic u => exact hQ _ _ _ h
 ·rename_i hw
  simp only [hw] at h
  exact ⟨Bl, keep a hy _, by rw [<- Act.put_comm a v undef h2]; exact h.2⟩
end held0
section held
variable {ops : Array Oper} {Qa : Exit -> Act -> World -> Prop} {z : Nat} {S : Bool -> World -> Prop}
def Hj (P : Program) (ops : Array Oper) (Qa : Exit -> Act -> World -> Prop) (z : Nat) (S : Bool -> World -> Prop) : Nat -> Array Bool -> Act -> World -> Prop
 | 0, l, a, w => Region.ready .any ops l = [] /\ Qa .normal a w
 | fuel + 1, l, a, w => (Region.ready .any ops l = [] -> Qa .normal a w) /\
  ∀ i ∈ Region.ready .any ops l, FU P ops Qa i (fun a' w' => S ((l.setIfInBounds i true).getD z true) w' /\ Hj P ops Qa z S fuel (l.setIfInBounds i true) a' w') a w
theorem Hh : ∀ (fuel : Nat) (l : Array Bool) (a : Act) (w : World), Hj P ops Qa z S fuel l a w -> QU P ops Qa fuel l a w
 | 0, _, _, _, h => h
 | fuel + 1, _, _, _, h => ⟨h.1, fun i hi => wpOpIn_mono (fun a' w' h' => Hh fuel _ a' w' h'.2) (h.2 i hi)⟩
theorem Lt {i : Nat} {oi : Oper} {v : Value} {zd : Bool} (hi : ops[i]? = some oi) (hsel : ∀ (j : Nat) (o : Oper) cs b, ops[j]? = some o -> o.op ≠ .select cs b)
  (hQ : ∀ c a w, Qa (.panic c) (a.put oi.dst v) w -> Qa (.panic c) a w) (hiz : i ≠ z)
  (hz : ∀ oz, ops[z]? = some oz -> ∃ e ∈ oz.after, Region.binds .any e = true /\ e.on = i) :
  ∀ (fuel : Nat) (l : Array Bool) (a : Act) (w : World), l.getD z true = zd ->
   (∀ j oj, ops[j]? = some oj -> j ≠ i -> l.getD j true = false -> (∀ e ∈ oj.after, Region.binds .any e = true -> e.on ≠ i) -> oi.apart ops oj = true) ->
   i ∈ Region.ready .any ops l -> YieldsIf P ops (S zd) oi v a -> S zd w ->
   Hj P ops Qa z S fuel (l.setIfInBounds i true) (a.put oi.dst v) w -> Hj P ops Qa z S (fuel + 1) l a w := by
 intro fuel
 induction fuel with
 | zero =>
  intro l a w hzd _ hr hy hS H
  refine ⟨fun h => (by rw [h] at hr; cases hr), fun j hj => ?_⟩
  by_cases hji : j = i
  ·subst hji; exact G4 hi hy hS ⟨by rw [getD_set_ne true hiz, hzd]; exact hS, H⟩
  ·have := ready_mono hj hji
   rw [H.1] at this
   cases this
 | succ fuel ih =>
  intro l a w hzd hfree hr hy hS H
  have hiu := (mem_ready.1 hr).1
  refine ⟨fun h => (by rw [h] at hr; cases hr), fun j hj => ?_⟩
  by_cases hji : j = i
  ·subst hji; exact G4 hi hy hS ⟨by rw [getD_set_ne true hiz, hzd]; exact hS, H⟩
  ·have h1 := H.2 j (ready_mono hj hji)
   obtain ⟨hju, oj, hoj, hall⟩ := mem_ready.1 hj
   have hnot : ∀ e, e ∈ oj.after -> Region.binds .any e = true -> e.on ≠ i := fun e he hb heq => by
    have h2 := hall e he hb
    rw [heq] at h2
    rcases Nat.lt_or_ge i l.size with h' | h'
    ·simp [h'] at hiu h2; rw [hiu] at h2; cases h2
    ·simp [Array.getElem?_eq_none h'] at h2
   have hjz : j ≠ z := fun e => by
    subst e
    obtain ⟨e, he, hb, heq⟩ := hz oj hoj
    exact hnot e he hb heq
   have h2 := Mc hoj (hfree j oj hoj hji hju hnot) (fun cs b => hsel i oi cs b hi) (fun cs b => hsel j oj cs b hoj) hQ hy h1
   have hzd' : (l.setIfInBounds j true).getD z true = zd := by rw [getD_set_ne true hjz]; exact hzd
   refine wpOpIn_mono (fun a' w' h3 => ?_) h2
   obtain ⟨hy', hS', hK⟩ := h3
   rw [getD_set_ne true hjz, getD_set_ne true hiz, hzd] at hS'
   refine ⟨by rw [hzd']; exact hS', ih (l.setIfInBounds j true) a' w' hzd' (fun k ok hk hki hun hno => ?_) (ready_mono hr (Ne.symm hji)) hy' hS' ?_⟩
   ·refine hfree k ok hk hki ?_ hno
    by_cases hjk : j = k
    ·subst hjk; exact hju
    ·rw [getD_set_ne true hjk] at hun; exact hun
   ·rw [Array.setIfInBounds_comm _ _ hji]
    exact hK
theorem Md {l : Array Bool} {a : Act} {w : World} (hr : Region.ready .any ops l = []) (h : Qa .normal a w) : ∀ fuel, Hj P ops Qa z S fuel l a w
 | 0 => ⟨hr, h⟩
 | _ + 1 => ⟨fun _ => h, by rw [hr]; simp⟩
end held
def K3 (R : Array Oper) (z i : Nat) : Bool := i != z && match R[z]? with | none => true | some o => o.after.toList.any fun e => Region.binds .any e && e.on == i
theorem M0 {R : Array Oper} {z i : Nat} (h : K3 R z i = true) : i ≠ z /\ ∀ oz, R[z]? = some oz -> ∃ e ∈ oz.after, Region.binds .any e = true /\ e.on = i := by
 unfold K3 at h
 simp only [Bool.and_eq_true, bne_iff_ne, ne_eq] at h
 refine ⟨h.1, fun oz hz => ?_⟩
 have h2 := h.2
 rw [hz] at h2
 simp only [List.any_eq_true, Bool.and_eq_true, beq_iff_eq] at h2
 obtain ⟨e, he, h3, h4⟩ := h2
 exact ⟨e, by simpa using he, h3, h4⟩
def nq (PQ : List PanicEntry -> List Deferred -> World -> Prop) (Post : Fr -> World -> Prop) : Exit -> Fr -> World -> Prop
 | .normal, f, w => Post f w
 | .panic c, f, w => PQ c f.d w
 | _, _, _ => False
theorem Po {PQ : List PanicEntry -> List Deferred -> World -> Prop} {Post : Fr -> World -> Prop} {n : Nat} {dst : Option Nat} {v : Value} : ∀ (c : List PanicEntry) (a : Act) (w : World), lq n (nq PQ Post) (.panic c) (a.put dst v) w -> lq n (nq PQ Post) (.panic c) a w := by
 rintro c a w ⟨f, hf, h⟩
 refine ⟨⟨fun i => a.tmps.getD i undef, a.defers⟩, ⟨?_, fun i => rfl, rfl⟩, ?_⟩
 ·have := hf.size
  cases dst <;> simpa [Act.put] using this
 ·have e : f.d = a.defers := by rw [<- hf.defers]; cases dst <;> simp [Act.put]
  simp only [nq] at h ⊢
  rw [<- e]; exact h
def DWP (P : Program) (n : Nat) (R : Array Oper) (PQ : List PanicEntry -> List Deferred -> World -> Prop) (Post : Fr -> World -> Prop) (z : Nat) (Sw : Bool -> World -> Prop) (fuel : Nat) (l : List Bool) (f : Fr) (w : World) : Prop :=
 okR n R = true -> Region.noSelect R = true -> Sw (l.toArray.getD z true) w -> ∀ a, Dm n f a -> Hj P R (lq n (nq PQ Post)) z Sw fuel l.toArray a w
section
variable {PQ : List PanicEntry -> List Deferred -> World -> Prop} {Post : Fr -> World -> Prop} {z : Nat} {Sw : Bool -> World -> Prop} {fuel : Nat} {l l' : List Bool} {zd : Bool} {i : Nat} {dst : Option Nat} {op : Op} {ty : TypeId} {g : Option (Nat × Bool)}
theorem FX (l : List Bool) (i : Nat) (b : Bool) : l.toArray.setIfInBounds i b = (l.set i b).toArray := by simp
theorem DWP.take {v : Value} (ho : opq R i = some (dst, op, ty, g)) (hf : Region.free .any R l.toArray i = true) (hr : (Region.ready .any R l.toArray).contains i = true) (hwt : K3 R z i = true) (hzd : l.toArray.getD z true = zd) (hg : gd R f g = true)
  (hy : ∀ w', Sw zd w' -> (Ao (fev f) op ty).run P w' = .ok (.value v) w') (hl : l.set i true = l') (k : DWP P n R PQ Post z Sw fuel l' (AY f dst v) w) : DWP P n R PQ Post z Sw (fuel + 1) l f w := by
 intro hok hns hS a ha
 obtain ⟨o, hR, hd, hop, hty, hgd⟩ := B7 ho
 obtain ⟨hiz, hw⟩ := M0 hwt
 rw [hzd] at hS
 refine Lt (v := v) hR (Region.noSelect_spec hns) ?_ hiz hw fuel l.toArray a w hzd (Region.free_spec hR hf) (by simpa using hr) (.inl ⟨by rw [ha.wanted R o, hgd, hg], fun w' hw' => ?_⟩) hS ?_
 ·exact Po
 ·rw [BZ, ha.evalF, hop, hty]; exact hy w' hw'
 ·rw [FX, hl, hd]
  refine k hok hns ?_ _ (ha.put (by rw [<- hd]; exact EM hok hR) v)
  rw [<- hl, <- FX, getD_set_ne true hiz, hzd]; exact hS
abbrev SR := @DWP.take
def Ay (P : Program) (n : Nat) (R : Array Oper) (PQ : List PanicEntry -> List Deferred -> World -> Prop) (Post : Fr -> World -> Prop) (z : Nat) (Sw : Bool -> World -> Prop) (fuel : Nat) (l : List Bool) (i : Nat) (f : Fr) (w : World) : Prop :=
 okR n R = true -> Region.noSelect R = true -> Sw (l.toArray.getD z true) w -> ∀ a, Dm n f a ->
  FU P R (lq n (nq PQ Post)) i (fun a' w' => Sw ((l.set i true).toArray.getD z true) w' /\ Hj P R (lq n (nq PQ Post)) z Sw fuel (l.set i true).toArray a' w') a w
theorem DWP.of {rs : List Nat} (hr : Region.ready .any R l.toArray = rs) (hne : rs.isEmpty = false) (h : ∀ i ∈ rs, Ay P n R PQ Post z Sw fuel l i f w) : DWP P n R PQ Post z Sw (fuel + 1) l f w := by
 intro hok hns hS a ha
 refine ⟨fun h0 => ?_, fun j hj => ?_⟩
 ·rw [hr] at h0; subst h0; cases hne
 ·rw [FX]
  exact h j (hr ▸ hj) hok hns hS a ha
theorem DWP.one (hr : Region.ready .any R l.toArray = [i]) (h : Ay P n R PQ Post z Sw fuel l i f w) : DWP P n R PQ Post z Sw (fuel + 1) l f w :=
  DWP.of hr rfl fun j hj => by have : j = i := by simpa using hj
                               subst this; exact h
abbrev SS := @DWP.one
theorem DWP.two {j : Nat} (hr : Region.ready .any R l.toArray = [i, j]) (h : Ay P n R PQ Post z Sw fuel l i f w) (h2 : Ay P n R PQ Post z Sw fuel l j f w) : DWP P n R PQ Post z Sw (fuel + 1) l f w :=
 DWP.of hr rfl fun q hq => by
  rcases List.mem_cons.1 hq with e | hq
  ·subst e; exact h
  ·have : q = j := by simpa using hq
   subst this; exact h2
theorem DWP.three {j k : Nat} (hr : Region.ready .any R l.toArray = [i, j, k]) (h : Ay P n R PQ Post z Sw fuel l i f w) (h2 : Ay P n R PQ Post z Sw fuel l j f w) (h3 : Ay P n R PQ Post z Sw fuel l k f w) : DWP P n R PQ Post z Sw (fuel + 1) l f w :=
 DWP.of hr rfl fun q hq => by
  rcases List.mem_cons.1 hq with e | hq
  ·subst e; exact h
  ·rcases List.mem_cons.1 hq with e | hq
   ·subst e; exact h2
   ·have : q = k := by simpa using hq
    subst this; exact h3
theorem Ay.val {v : Value} {w' : World} (hl : l.set i true = l') (hzd : l'.toArray.getD z true = zd) (ho : opq R i = some (dst, op, ty, g)) (hg : gd R f g = true) (hy : (Ao (fev f) op ty).run P w = .ok (.value v) w') (hS' : Sw zd w')
  (k : DWP P n R PQ Post z Sw fuel l' (AY f dst v) w') : Ay P n R PQ Post z Sw fuel l i f w := by
 intro hok hns hS a ha
 obtain ⟨o, hR, hd, hop, hty, hgd⟩ := B7 ho
 unfold FU wpOpIn
 simp only [hR]
 rw [ha.wanted R o, hgd, hg]
 simp only [if_true]
 refine ⟨Bl, ?_⟩
 show o.uponIn (FW none) 0 P a _ _ ((execOp a.eval o).run P w)
 rw [BZ, ha.evalF, hop, hty, hy]
 simp only [Oper.uponIn]
 rw [hl, hd, hzd]
 exact ⟨hS', k hok hns (by rw [hzd]; exact hS') _ (ha.put (by rw [<- hd]; exact EM hok hR) v)⟩
abbrev ST := @Ay.val
theorem Ay.unit {w' : World} (hl : l.set i true = l') (hzd : l'.toArray.getD z true = zd) (ho : opq R i = some (none, op, ty, g)) (hg : gd R f g = true) (hy : (Ao (fev f) op ty).run P w = .ok .skip w') (hS' : Sw zd w')
  (k : DWP P n R PQ Post z Sw fuel l' f w') : Ay P n R PQ Post z Sw fuel l i f w := by
 intro hok hns hS a ha
 obtain ⟨o, hR, hd, hop, hty, hgd⟩ := B7 ho
 unfold FU wpOpIn
 simp only [hR]
 rw [ha.wanted R o, hgd, hg]
 simp only [if_true]
 refine ⟨Bl, ?_⟩
 show o.uponIn (FW none) 0 P a _ _ ((execOp a.eval o).run P w)
 rw [BZ, ha.evalF, hop, hty, hy]
 simp only [Oper.uponIn]
 rw [hl, hd, hzd]
 exact ⟨hS', k hok hns (by rw [hzd]; exact hS') _ ha⟩
abbrev SU := @Ay.unit
theorem Ay.call {w0 : World} {F0 F Fs : Mem} {L Lc Lz : List (Option Nat × Obj)} {f0 : Operand} {aos : Array Operand} {ats : Array TypeId} {fid : FuncId} {first cap : Array Value} {args : List Value} {post : Mem -> Value -> Prop}
  (hl : l.set i true = l') (hzd : l'.toArray.getD z true = zd) (hzd0 : l.toArray.getD z true = zd)
  (ho : opq R i = some (dst, .call { callee := .value f0, args := aos, argTypes := ats }, ty, g)) (hg : gd R f g = true) (hf : fev f f0 = .func (.func fid) first cap) (hok : Aq P fid)
  (ha : first.toList ++ aos.toList.map (fev f) ++ cap.toList = args) (hs : HS w0 F0 w F L) (hc : Calls P fid args.toArray w (AV w F post))
  (k : ∀ v F1 w1, HS w0 F0 w1 F1 L -> SG F F1 -> post F1 v -> DWP P n R PQ Post z (DZ Fs Lc Lz) fuel l' (AY f dst v) w1) : Ay P n R PQ Post z (DZ Fs Lc Lz) fuel l i f w := by
 intro hokR hns hS a haf
 obtain ⟨o, hR, hd, hop, hty, hgd⟩ := B7 ho
 unfold FU wpOpIn
 simp only [hR]
 rw [haf.wanted R o, hgd, hg]
 simp only [if_true]
 refine ⟨Bl, ?_⟩
 show o.uponIn (FW none) 0 P a _ _ ((execOp a.eval o).run P w)
 rw [BZ, haf.evalF, hop, hty, C8 hf hok ha]
 simp only [Oper.uponIn]
 refine ⟨(fun h => by cases h), (FC hc).mono ?_⟩
 rintro e w' ⟨r, F', rfl, h1, h2⟩
 simp only
 rw [hzd0] at hS
 have hS' : DZ Fs Lc Lz zd w' := hS.keep h1.keep
 rw [hl, hd, hzd]
 exact ⟨hS', k r F' w' (hs.call h1) h1.le h2 hokR hns (by rw [hzd]; exact hS') _ (haf.put (by rw [<- hd]; exact EM hokR hR) r)⟩
theorem DWP.done (hr : Region.ready .any R l.toArray = []) (h : Post f w) : DWP P n R PQ Post z Sw fuel l f w :=
 fun _ _ _ a ha => Md hr ⟨f, ha, h⟩ fuel
abbrev SV := @DWP.done
end
theorem CWP.regionDP {c : Code} (hk : kin c = 2) (hm : P.follows .mixedOrders = true) (hok : okR n (DR c) = true) (hns : Region.noSelect (DR c) = true) {z : Nat} {F : Mem} {Lc Lz : List (Option Nat × Obj)} {l : List Bool} {fuel : Nat}
  (hl : Array.replicate (DR c).size false = l.toArray) (hfu : (DR c).size = fuel) {w0 : World} {F0 : Mem} {L : List (Option Nat × Obj)} (hs : HS w0 F0 w F L) (hc : ∀ p, p ∈ Lc -> p ∈ L) (hz : ∀ p, p ∈ Lz -> p ∈ L) (PQ : List PanicEntry -> List Deferred -> World -> Prop) (Post : Fr -> World -> Prop)
  (h : ∀ w', HS w0 F0 w' F L -> DWP P n (DR c) PQ Post z (DZ F Lc Lz) fuel l f w') (k : ∀ f w, Post f w -> Q .normal f w) (kp : ∀ c f w, PQ c f.d w -> Q (.panic c) f w) : CWP P none n c Q f w := by
 subst hfu
 cases c <;> simp [kin] at hk
 rename_i id ops d
 cases d <;> simp [kin] at hk
 intro a ha
 have hs' : HS w0 F0 { w with drawn := w.drawn + 1 } F L := hs.heap rfl
 refine wpIn_mono (wpIn_region_any hm (Hh (z := z) (S := DZ F Lc Lz) _ _ _ _ ?_)) (Q := lq n (nq PQ Post)) ?_
 ·simp only [DR] at hl ⊢
  rw [hl]
  exact h _ hs' hok hns (BI hs' (SH F) hc fun _ => hz) a ha
 ·rintro e a w ⟨f, hf, hP⟩
  cases e with
  | normal => exact ⟨f, hf, k _ _ hP⟩
  | panic c => exact ⟨f, hf, kp _ _ _ hP⟩
  | _ => exact hP.elim
theorem CWP.regionD {c : Code} (hk : kin c = 2) (hm : P.follows .mixedOrders = true) (hok : okR n (DR c) = true) (hns : Region.noSelect (DR c) = true) {z : Nat} {F : Mem} {Lc Lz : List (Option Nat × Obj)} {l : List Bool} {fuel : Nat}
  (hl : Array.replicate (DR c).size false = l.toArray) (hfu : (DR c).size = fuel) {w0 : World} {F0 : Mem} {L : List (Option Nat × Obj)} (hs : HS w0 F0 w F L) (hc : ∀ p, p ∈ Lc -> p ∈ L) (hz : ∀ p, p ∈ Lz -> p ∈ L) (Post : Fr -> World -> Prop)
  (h : ∀ w', HS w0 F0 w' F L -> DWP P n (DR c) (fun _ _ _ => False) Post z (DZ F Lc Lz) fuel l f w') (k : ∀ f w, Post f w -> Q .normal f w) : CWP P none n c Q f w :=
 CWP.regionDP hk hm hok hns hl hfu hs hc hz (fun _ _ _ => False) Post h k fun _ _ _ h => h.elim
theorem Nf {ρ : Operand -> Value} {ty : TypeId} {s : TypeId} {x : Operand} {i o k : Nat} {t : TypeId} {gg : Bool} {cs : Array Value} {v : Value} (hx : ρ x = .agg cs) (hf : NA P s i = some (o, t)) (ht : Dr P t = some (gg, k))
  (hl : (As cs o k).length = k) (hgs : (gg || k == 1) = true) (hv : mkV gg (As cs o k) = v) : (Ao ρ (.field s x i) ty).run P w = .ok (.value v) w := by
 unfold NA at hf
 split at hf
 ·rename_i fs hu
  split at hf
  ·rename_i fl hfl
   simp only [Option.some.injEq, Prod.mk.injEq] at hf
   obtain ⟨rfl, rfl⟩ := hf
   exact Ox (o := 0) hx hu hfl ht hl hgs hv
  ·cases hf
 ·cases hf
def HM (P : Program) : List Field -> Option (List (Nat × Nat))
 | [] => some []
 | f :: fs => match P.info? f.type, HM P fs with
  | some i, some l => some ((f.offset, i.size) :: l)
  | _, _ => none
def ND (P : Program) (t : TypeId) (parts : List (Nat × Value)) : Option (List Value) :=
 match P.underlying t, BA P t with
 | some (.struct fs), some z => match HM P fs.toList with
  | some pl => match Instr.fill (pl[·]?) z.cells parts with
   | some cs => some cs.toList
   | none => none
  | none => none
 | _, _ => none
theorem Jn : ∀ (fs : List Field) (pl : List (Nat × Nat)), HM P fs = some pl -> (fs.mapM (m := Sem) fun f => do pure (f.offset, <- sizeOf f.type)).run P w = .ok pl w
 | [], pl, h => by simp only [HM, Option.some.injEq] at h; subst h; rfl
 | f :: fs, pl, h => by
  unfold HM at h
  split at h
  ·rename_i i l hi hl
   simp only [Option.some.injEq] at h
   subst h
   rw [List.mapM_cons]
   simp only [Sem.run_bind, CC hi, Result.andThen_ok, Sem.run_pure, Jn fs l hl]
  ·cases h
theorem Ft {ρ : Operand -> Value} {ty t : TypeId} {parts : Array (Nat × Operand)} {vs : List (Nat × Value)} {cs : List Value} (hv : parts.toList.map (fun p => (p.1, ρ p.2)) = vs) (hb : ND P t vs = some cs) :
  (Ao ρ (.build t parts) ty).run P w = .ok (.value (.agg cs.toArray)) w := by
 subst hv
 unfold ND at hb
 split at hb
 ·rename_i fs z hu hz
  split at hb
  ·rename_i pl hpl
   split at hb
   ·rename_i cs' hfill
    simp only [Option.some.injEq] at hb
    subst hb
    have e1 : Ao ρ (.build t parts) ty = (do pure (Next.value (<- Instr.build t (parts.map fun (i, x) => (i, ρ x))))) := rfl
    have hzv : (zeroValue t).run P w = .ok z w := by
     unfold BA at hz
     split at hz
     ·rename_i i hi; simp [zeroValue, typeInfo, hi, hz]
     ·cases hz
    have hp : (parts.map fun (i, x) => (i, ρ x)).toList = parts.toList.map fun p => (p.1, ρ p.2) := by simp
    have hm := Jn (P := P) (w := w) fs.toList pl hpl
    rw [e1]
    simp only [Instr.build, Sem.run_bind, hzv, Result.andThen_ok, run_underlying hu]
    rw [Array.mapM_eq_mapM_toList, Sem.run_map, hm]
    simp only [Result.andThen_ok, hp, List.getElem?_toArray, hfill, Sem.run_pure]
   ·cases hb
  ·cases hb
 ·cases hb
def P3 (P : Program) (w : World) (f : Fr) : List ResultVar -> List Value -> Prop
 | [], [] => True
 | .tmp t :: rs, v :: vs => f t = v /\ P3 P w f rs vs
 | .cell a t :: rs, v :: vs => ∃ b o, f a = .pointer (some ⟨b, o, none⟩) /\ (loadVar t ⟨b, o, none⟩).run P w = .ok v w /\ P3 P w f rs vs
 | _, _ => False
def Du : List Value -> Value
 | [v] => v
 | vs => .tuple vs.toArray
theorem JZ : ∀ (rs : List ResultVar) (vs : List Value), P3 P w f rs vs -> (rs.mapM (IP f)).run P w = .ok vs w
 | [], [], _ => rfl
 | .tmp t :: rs, v :: vs, h => by
  obtain ⟨h1, h2⟩ := h
  subst h1
  rw [List.mapM_cons, Sem.run_bind, IP, Sem.run_pure]
  simp only [Sem.run_bind, Sem.run_pure, Result.andThen_ok, JZ rs vs h2]
 | .cell a t :: rs, v :: vs, h => by
  obtain ⟨b, o, h1, h2, h3⟩ := h
  have e : (IP f (.cell a t)).run P w = .ok v w := by
   rw [IP, h1, Sem.run_bind]
   exact h2
  rw [List.mapM_cons, Sem.run_bind, e]
  simp only [Sem.run_bind, Sem.run_pure, Result.andThen_ok, JZ rs vs h3]
 | [], _ :: _, h => h.elim
 | .tmp _ :: _, [], h => h.elim
 | .cell _ _ :: _, [], h => h.elim
theorem AB {rs : Array ResultVar} {l : List ResultVar} (hr : rs.toList = l) {vs : List Value} (h : P3 P w f l vs) : (Cf rs f).run P w = .ok (Du vs) w := by
 subst hr
 unfold Cf
 rw [Array.mapM_eq_mapM_toList, Sem.run_bind, Sem.run_map, JZ _ _ h]
 simp only [Result.andThen_ok]
 match vs with
 | [] => rfl
 | [v] => rfl
 | a :: b :: c => rfl
end
def Av {α : Type} (T : Ty α) (E : TypeId) (F : Mem) (a : S0) (cap : Nat) (l : List α) (e : Option Nat × Obj) : Prop :=
 l.length < 4398046511104 /\ ((a = none /\ cap = 0 /\ l = [] /\ e.1 = none) \/
  ∃ b C, a = some ⟨b, 0, none⟩ /\ e = (some b, .cells C E (0, 0)) /\ l.length <= cap /\ C.size = cap * T.sz /\ ∀ i x, l[i]? = some x -> T.R F (As C (i * T.sz) T.sz) x)
def C4 {α : Type} (l m : List α) : Option (List α) := if l.length + m.length < 4294967296 then some (l ++ m) else none
theorem OR {α : Type} {l m r : List α} (h : C4 l m = some r) : l.length + m.length < 4294967296 /\ r = l ++ m := by
 unfold C4 at h
 split at h
 ·rename_i hl; cases h; exact ⟨hl, rfl⟩
 ·cases h
section
variable {P : Program} {w0 w w' : World} {F0 F F' : Mem} {L : List (Option Nat × Obj)} {α : Type} {T : Ty α} {E : TypeId} {a : S0} {cap : Nat} {l : List α} {e : Option Nat × Obj}
theorem Av.mono (h : Av T E F a cap l e) (hl : SG F F') : Av T E F' a cap l e := by
 refine ⟨h.1, h.2.imp id ?_⟩
 rintro ⟨b, C, h1, h2, h3, h4, h5⟩
 exact ⟨b, C, h1, h2, h3, h4, fun i x hx => T.mono hl (h5 i x hx)⟩
theorem Av.bound (h : Av T E F a cap l e) : LC l.length cap := ⟨by
  rcases h.2 with ⟨_, rfl, rfl, _⟩ | ⟨b, C, _, _, h3, _⟩
  ·exact Nat.le_refl _
  ·exact h3, Nat.lt_trans h.1 (by decide)⟩
abbrev SW := @Av.bound
theorem Av.nil (T : Ty α) (E : TypeId) (F : Mem) (o : Obj) : Av T E F none 0 [] (none, o) := ⟨by simp, .inl ⟨rfl, rfl, rfl, rfl⟩⟩
theorem HS.dummy (h : HS w0 F0 w F L) (o : Obj) : HS w0 F0 w F ((none, o) :: L) :=
 ⟨h.base, h.fix, h.size, h.keep, h.f0, h.pers, fun b o' hm => by
  rcases List.mem_cons.1 hm with e | hm
  ·cases e
  ·exact h.own b o' hm, by simpa using h.nd⟩
theorem HS.pick (h : HS w0 F0 w F L) {k : Nat} {p : Option Nat × Obj} (hk : L[k]? = some p) : HS w0 F0 w F (p :: L.eraseIdx k) := by
 refine ⟨h.base, h.fix, h.size, h.keep, h.f0, h.pers, fun b o hm => ?_, ?_⟩
 ·rcases List.mem_cons.1 hm with e | hm
  ·exact h.own b o (e ▸ List.mem_of_getElem? hk)
  ·exact h.own b o (B8 hm)
 ·obtain ⟨ob, o⟩ := p
  cases ob with
  | none => simpa using DO (k := k) h.nd
  | some b =>
   simp only [List.filterMap_cons]
   refine List.nodup_cons.2 ⟨fun hm => ?_, DO h.nd⟩
   obtain ⟨o', hm⟩ := Hq hm
   exact Kn hk h.nd b o' hm rfl
theorem LF {x p : Option Nat × Obj} : ∀ {k : Nat} {L : List (Option Nat × Obj)}, x ∈ L.set k p -> x = p \/ x ∈ L.eraseIdx k
 | _, [], h => by cases h
 | 0, y :: L, h => by
  simp only [List.set_cons_zero] at h
  rcases List.mem_cons.1 h with e | h
  ·exact .inl e
  ·exact .inr h
 | k + 1, y :: L, h => by
  simp only [List.set_cons_succ] at h
  rcases List.mem_cons.1 h with e | h
  ·subst e; exact .inr (by simp)
  ·rcases LF h with e | h
   ·exact .inl e
   ·exact .inr (by simp [h])
theorem Pp {b : Nat} {o : Obj} : ∀ {k : Nat} {L : List (Option Nat × Obj)}, (L.filterMap (·.1)).Nodup -> (∀ o', (some b, o') ∉ L.eraseIdx k) -> ((L.set k (some b, o)).filterMap (·.1)).Nodup
 | _, [], _, _ => List.nodup_nil
 | 0, y :: L, h, hb => by
  simp only [List.set_cons_zero, List.filterMap_cons]
  refine List.nodup_cons.2 ⟨fun hm => ?_, ?_⟩
  ·obtain ⟨o', hm⟩ := Hq hm; exact hb o' hm
  ·exact DO (k := 0) (L := y :: L) h
 | k + 1, y :: L, h, hb => by
  simp only [List.set_cons_succ]
  have h1 : (L.filterMap (·.1)).Nodup := DO (k := 0) (L := y :: L) h
  have h2 := Pp (b := b) (o := o) (k := k) h1 (fun o' hm => hb o' (by rw [List.eraseIdx_cons_succ]; exact List.mem_cons_of_mem _ hm))
  cases hy : y.1 with
  | none => simp only [List.filterMap_cons, hy]; exact h2
  | some c =>
   simp only [List.filterMap_cons, hy] at h ⊢
   refine List.nodup_cons.2 ⟨fun hm => ?_, h2⟩
   obtain ⟨o', hm⟩ := Hq hm
   rcases LF hm with e | hm
   ·cases e
    exact hb y.2 (by rw [List.eraseIdx_cons_succ, <- hy]; exact List.mem_cons_self)
   ·exact (List.nodup_cons.1 h).1 (List.mem_filterMap.2 ⟨(some c, o'), B8 hm, rfl⟩)
theorem HS.renew (h : HS w0 F0 w F L) (k : Nat) (o : Obj) : HS w0 F0 (w.alloc o) F (L.set k (some w.heap.size, o)) := by
 have h1 := h.alloc o
 refine ⟨h1.base, h1.fix, h1.size, h1.keep, h1.f0, h1.pers, fun b o' hm => ?_, Pp h.nd fun o' hm => ?_⟩
 ·rcases LF hm with e | hm
  ·exact h1.own b o' (e ▸ List.mem_cons_self)
  ·exact h1.own b o' (List.mem_cons_of_mem _ (B8 hm))
 ·exact absurd (BQ (h.own _ _ (B8 hm)).1) (Nat.lt_irrefl _)
def Rd (T : Ty α) (F : Mem) (w : World) (a : S0) (l : List α) : Prop :=
 l = [] \/ ∃ b o C E fz, a = some ⟨b, o, none⟩ /\ w.heap[b]? = some (.cells C E fz) /\ ∀ i x, l[i]? = some x -> T.R F (As C (o + i * T.sz) T.sz) x
theorem SlA.rd (hs : HS w0 F0 w F L) (h : SlA T F a l) : Rd T F w a l := by
 refine h.imp id ?_
 rintro ⟨b, o, C, E, fz, h1, h2, h3⟩
 exact ⟨b, o, C, E, fz, h1, hs.pers _ _ h2, h3⟩
theorem Av.rd (hs : HS w0 F0 w F L) {k : Nat} (hk : L[k]? = some e) (h : Av T E F a cap l e) : Rd T F w a l := by
 refine h.2.imp (fun h => h.2.2.1) ?_
 rintro ⟨b, C, h1, h2, h3, h4, h5⟩
 subst h2
 exact ⟨b, 0, C, E, (0, 0), h1, hs.ownAt hk, fun i x hx => by rw [Nat.zero_add]; exact h5 i x hx⟩
theorem Av.freeze (h : Av T E F a cap l e) (hF : SG F (JM F e)) : SlA T (JM F e) a l := by
 refine h.2.imp (fun h => h.2.2.1) ?_
 rintro ⟨b, C, h1, h2, h3, h4, h5⟩
 subst h2
 exact ⟨b, 0, C, E, (0, 0), h1, Ls _ _ _, fun i x hx => by rw [Nat.zero_add]; exact T.mono hF (h5 i x hx)⟩
theorem HS.freezeRow (hs : HS w0 F0 w F L) {k : Nat} (hk : L[k]? = some e) (h : Av T E F a cap l e) : ∃ F', HS w0 F0 w F' (L.eraseIdx k) /\ SG F F' /\ SlA T F' a l :=
 ⟨_, (hs.freeze hk).1, (hs.freeze hk).2, h.freeze (hs.freeze hk).2⟩
def C5 (T : Ty α) (F : Mem) : List α -> List Value -> Prop
 | [], cs => cs = []
 | x :: l, cs => T.R F (cs.take T.sz) x /\ C5 T F l (cs.drop T.sz)
theorem C5.len : ∀ {l : List α} {cs : List Value}, C5 T F l cs -> cs.length = l.length * T.sz
 | [], cs, h => by simp only [C5] at h; subst h; simp
 | x :: l, cs, h => by
  obtain ⟨h1, h2⟩ := h
  have := T.len h1
  have := C5.len h2
  simp only [List.length_take, List.length_drop, List.length_cons] at *
  rw [Nat.add_mul]; omega
theorem C5.get : ∀ {l : List α} {cs : List Value}, C5 T F l cs -> ∀ i x, l[i]? = some x -> T.R F ((cs.drop (i * T.sz)).take T.sz) x
 | [], _, _, _, _, h => by simp at h
 | y :: l, cs, h, 0, x, hx => by simp only [List.getElem?_cons_zero, Option.some.injEq] at hx; subst hx; simpa using h.1
 | y :: l, cs, h, i + 1, x, hx => by
  simp only [List.getElem?_cons_succ] at hx
  have := C5.get h.2 i x hx
  rw [List.drop_drop] at this
  rw [Nat.add_mul, Nat.one_mul, Nat.add_comm]; exact this
theorem C5.of_get : ∀ {l : List α} {cs : List Value}, cs.length = l.length * T.sz -> (∀ i x, l[i]? = some x -> T.R F ((cs.drop (i * T.sz)).take T.sz) x) -> C5 T F l cs
 | [], cs, hl, _ => by simpa [C5] using hl
 | y :: l, cs, hl, h => by
  refine ⟨by simpa using h 0 y rfl, C5.of_get ?_ fun i x hx => ?_⟩
  ·simp only [List.length_drop, hl, List.length_cons, Nat.add_mul]; omega
  ·have := h (i + 1) x (by simpa using hx)
   rw [List.drop_drop]
   rw [Nat.add_mul, Nat.one_mul, Nat.add_comm] at this
   exact this
theorem C5.append : ∀ {l m : List α} {cs ds : List Value}, C5 T F l cs -> C5 T F m ds -> C5 T F (l ++ m) (cs ++ ds)
 | [], m, cs, ds, h, k => by simp only [C5] at h; subst h; exact k
 | x :: l, m, cs, ds, h, k => by
  have hl : (cs.take T.sz).length = T.sz := T.len h.1
  have hl' : T.sz <= cs.length := by simp only [List.length_take] at hl; omega
  refine ⟨?_, ?_⟩
  ·rw [List.take_append_of_le_length hl']; exact h.1
  ·rw [List.drop_append_of_le_length hl']; exact C5.append h.2 k
theorem Av.lit {b : Nat} {cs : List Value} (h : C5 T F l cs) (hl : decide (l.length < 4294967296) = true) : Av T E F (some ⟨b, 0, none⟩) l.length l (some b, .cells cs.toArray E (0, 0)) :=
 ⟨Nat.lt_trans (show l.length < 4294967296 by simpa using hl) (by decide), .inr ⟨b, cs.toArray, rfl, rfl, Nat.le_refl _, by simpa using h.len, fun i x hx => h.get i x hx⟩⟩
abbrev SX := @Av.lit
end
section
variable {P : Program} {w0 w w' : World} {F0 F F' : Mem} {L : List (Option Nat × Obj)} {α : Type} {T : Ty α} {E : TypeId} {a : S0} {cap : Nat} {l m : List α} {e : Option Nat × Obj}
theorem Jt {C : Array Value} {o : Nat} (hm : m ≠ []) (h : ∀ i x, m[i]? = some x -> T.R F (As C (o + i * T.sz) T.sz) x) : (As C o (m.length * T.sz)).length = m.length * T.sz := by
 have hl : 0 < m.length := List.length_pos_iff.2 hm
 have h1 := T.len (h (m.length - 1) m[m.length - 1] (by simp [hl]))
 unfold As at *
 simp only [List.length_take, List.length_drop, Array.length_toList] at *
 rcases Nat.eq_zero_or_pos T.sz with h0 | h0
 ·rw [h0]; simp
 ·have e : (m.length - 1) * T.sz + T.sz = m.length * T.sz := by
   rw [<- Nat.succ_mul]; congr 1; omega
  omega
theorem Iy {C : Array Value} {o : Nat} (hm : m ≠ []) (h : ∀ i x, m[i]? = some x -> T.R F (As C (o + i * T.sz) T.sz) x) : C5 T F m (As C o (m.length * T.sz)) := by
 refine C5.of_get (Jt hm h) fun i x hx => ?_
 have hi : i < m.length := by
  rcases Nat.lt_or_ge i m.length with h' | h'
  ·exact h'
  ·rw [List.getElem?_eq_none h'] at hx; cases hx
 have := Js (C := C) (o := o) (k := m.length * T.sz) rfl (j := i * T.sz) (s := T.sz) (by
  have : i * T.sz + T.sz <= m.length * T.sz := by rw [<- Nat.succ_mul]; exact Nat.mul_le_mul_right _ hi
  simpa using this)
 rw [<- this]
 exact h i x hx
theorem Rd.load (h : Rd T F w a m) (c : Nat) : ∃ cs, C5 T F m cs /\ (Builtin.firstCells T.sz m.length (.slice a m.length c)).run P w = .ok cs.toArray w := by
 by_cases hm : m = []
 ·subst hm
  refine ⟨[], rfl, ?_⟩
  cases a with
  | none => rfl
  | some a => simp [Builtin.firstCells, loadCells, loadCellsFrom]
 ·rcases h with h | ⟨b, o, C, E, fz, rfl, hb, hx⟩
  ·exact absurd h hm
  ·refine ⟨_, Iy hm hx, ?_⟩
   simp only [Builtin.firstCells]
   have hl := Jt hm hx
   have := run_loadCells_list (P := P) (w := w) ⟨b, o, none⟩ (As C o (m.length * T.sz)) (fun j v hj => by
    have hjs : j < m.length * T.sz := by
     rcases Nat.lt_or_ge j (m.length * T.sz) with h' | h'
     ·exact h'
     ·rw [List.getElem?_eq_none (by omega)] at hj; cases hj
    rw [Addr.add_lit, Iz hb, EQ hl hjs]; exact hj)
   rw [hl] at this
   exact this
theorem EP {t : TypeId} {s by_ : Nat} (h : A1 P t = some (E, s, by_)) : ∃ i, P.underlying t = some (.slice E) /\ P.info? E = some i /\ i.size = s /\ i.bytes = by_ := by
 unfold A1 at h
 split at h
 ·rename_i e hu
  split at h
  ·rename_i i hi
   simp only [Option.some.injEq, Prod.mk.injEq] at h
   obtain ⟨rfl, rfl, rfl⟩ := h
   exact ⟨i, hu, hi, rfl, rfl⟩
  ·cases h
 ·cases h
def ML (P : Program) (t : TypeId) : Bool := match P.underlying t with | some (.slice _) => true | _ => false
theorem Km (need B : Nat) (hB : need + need / 4 + 192 <= B) : ∀ (r c : Nat), c <= B -> Builtin.growBy need r c <= B
 | 0, c, h => by simpa [Builtin.growBy] using h
 | r + 1, c, h => by
  simp only [Builtin.growBy]
  split
  ·exact h
  ·exact Km need B hB r _ (by omega)
theorem MG {need c : Nat} (h : c < need) : Builtin.nextslicecap need c <= need + need / 4 + 512 := by
 unfold Builtin.nextslicecap
 split
 ·omega
 ·split
  ·omega
  ·exact Km need _ (by omega) _ _ (by omega)
theorem Ml {β : Type} {x : β} : ∀ {k : Nat} {L : List β}, L[k]? = some x -> L.set k x = L
 | _, [], h => by simp at h
 | 0, y :: L, h => by simp only [List.getElem?_cons_zero, Option.some.injEq] at h; subst h; rfl
 | k + 1, y :: L, h => by simp only [List.getElem?_cons_succ] at h; rw [List.set_cons_succ, Ml h]
def Ty.One (T : Ty α) : Prop := ∀ {F : Mem} {cs : List Value} {x : α}, T.R F cs x -> cs.all (·.oneCell') = true
theorem C5.one (h1 : T.One) : ∀ {l : List α} {cs : List Value}, C5 T F l cs -> cs.all (·.oneCell') = true
 | [], cs, h => by simp only [C5] at h; subst h; rfl
 | x :: l, cs, h => by
  have e : cs = cs.take T.sz ++ cs.drop T.sz := (List.take_append_drop _ _).symm
  rw [e, List.all_append, h1 h.1, C5.one h1 h.2]; rfl
theorem KI : ∀ (vs : List Value) (C : Array Value) (o i : Nat), o + vs.length <= C.size -> (C3 C o vs)[i]? = if o <= i /\ i < o + vs.length then vs[i - o]? else C[i]?
 | [], C, o, i, _ => by
  simp only [C3, List.length_nil, Nat.add_zero]
  rw [if_neg (by omega)]
 | v :: vs, C, o, i, h => by
  simp only [List.length_cons] at h
  rw [C3, KI vs _ (o + 1) i (by simp; omega)]
  by_cases hio : i = o
  ·subst hio
   rw [if_neg (by omega), if_pos (by simp)]
   have hlt : i < C.size := by omega
   simp [hlt]
  ·by_cases h1 : o + 1 <= i /\ i < o + 1 + vs.length
   ·rw [if_pos h1, if_pos (by simp only [List.length_cons]; omega)]
    have : i - o = (i - (o + 1)) + 1 := by omega
    rw [this, List.getElem?_cons_succ]
   ·rw [if_neg h1, if_neg (by simp only [List.length_cons]; omega)]
    simp [Array.getElem?_setIfInBounds, Ne.symm hio]
theorem Ln {vs : List Value} {C : Array Value} {o : Nat} (h : o + vs.length <= C.size) : (C3 C o vs).toList = C.toList.take o ++ vs ++ C.toList.drop (o + vs.length) := by
 apply List.ext_getElem?
 intro i
 rw [Array.getElem?_toList, KI _ _ _ _ h]
 by_cases h1 : i < o
 ·rw [if_neg (by omega), List.getElem?_append_left (by simp; omega), List.getElem?_append_left (by simp; omega), List.getElem?_take_of_lt h1, Array.getElem?_toList]
 ·by_cases h2 : i < o + vs.length
  ·rw [if_pos ⟨by omega, h2⟩, List.getElem?_append_left (by simp; omega), List.getElem?_append_right (by simp; omega)]
   congr 1
   simp
   omega
  ·rw [if_neg (by omega), List.getElem?_append_right (by simp; omega), List.getElem?_drop, Array.getElem?_toList]
   congr 1
   simp
   omega
theorem MU {t t2 ty : TypeId} {by_ c2 : Nat} {a2 : S0} {z : Value} (he : A1 P t = some (E, T.sz, by_)) (hni : ML P t2 = true) (hz : BA P E = some z) (hzs : z.cells.size = T.sz)
  (h1 : T.One) (hs : HS w0 F0 w F L) {k : Nat} (hk : L[k]? = some e) (hr : Av T E F a cap l e) (hm : Rd T F w a2 m) (hlen : l.length + m.length < 4398046511104) (hroom : ((l.length + m.length) + (l.length + m.length) / 4 + 512) * by_ <= 281474976710656) :
  ∃ a' cap' e' w', (Builtin.append_ #[t, t2] ty #[.slice a l.length cap, .slice a2 m.length c2]).run P w = .ok (.slice a' (l ++ m).length cap') w' /\ HS w0 F0 w' F (L.set k e') /\ Av T E F a' cap' (l ++ m) e' := by
 obtain ⟨i, hu, hi, his, hib⟩ := EP he
 obtain ⟨new, hnew, hload⟩ := hm.load (P := P) c2
 have hnl := hnew.len
 obtain ⟨E2, hd⟩ : ∃ E2, P.underlying t2 = some (.slice E2) := by
  unfold ML at hni
  split at hni
  ·rename_i E2 h; exact ⟨E2, h⟩
  ·cases hni
 unfold Builtin.append_
 simp only [List.getElem?_toArray, List.getElem?_cons_zero, List.getElem?_cons_succ, Sem.run_bind, run_underlying hu, Result.andThen_ok, CC hi, his]
 simp only [run_underlying hd, Result.andThen_ok, Sem.run_pure, Bool.false_eq_true, if_false, Builtin.lenOf]
 simp only [pure_bind]
 by_cases hfit : l.length + m.length <= cap
 ·rw [if_pos hfit]
  simp only [Bool.not_false, if_true, Sem.run_bind, hload, Result.andThen_ok]
  rcases hr.2 with ⟨rfl, rfl, rfl, h4⟩ | ⟨b, C, rfl, rfl, hlc, hC, hx⟩
  ·have hm0 : m = [] := List.eq_nil_of_length_eq_zero (by simpa using hfit)
   subst hm0
   refine ⟨none, 0, e, w, ?_, ?_, hr⟩
   ·simp
   ·rw [Ml hk]; exact hs
  ·have hC1 : l.length * T.sz + new.length <= C.size := by rw [hC, hnl, <- Nat.add_mul]; exact Nat.mul_le_mul_right _ hfit
   have hst := Em (P := P) E new w b (l.length * T.sz) 0 C (hs.ownAt hk) (by simpa using hC1) (hnew.one h1)
   refine ⟨some ⟨b, 0, none⟩, cap, (some b, .cells (C3 C (l.length * T.sz) new) E (0, 0)), Cm w b (.cells (C3 C (l.length * T.sz) new) E (0, 0)), ?_, hs.put hk _, ?_⟩
   ·simp only [Addr.add_lit, Nat.zero_add]
    simp only [Nat.add_zero] at hst
    rw [Sem.run_bind, hst]
    simp
   ·have hrow : C5 T F l (As C 0 (l.length * T.sz)) := by
     by_cases hl : l = []
     ·subst hl; simp [C5, As]
     ·exact Iy hl (fun i x hi => by rw [Nat.zero_add]; exact hx i x hi)
    have hlr := hrow.len
    refine ⟨by simpa using hlen, .inr ⟨b, _, rfl, rfl, by simpa using hfit, by rw [Jc, hC], fun i x hix => ?_⟩⟩
    have := (C5.append hrow hnew).get i x hix
    have hii : i < (l ++ m).length := by
     rcases Nat.lt_or_ge i (l ++ m).length with h' | h'
     ·exact h'
     ·rw [List.getElem?_eq_none h'] at hix; cases hix
    unfold As
    rw [Ln hC1]
    have e1 : C.toList.take (l.length * T.sz) = As C 0 (l.length * T.sz) := by simp [As]
    rw [e1]
    have hle : i * T.sz + T.sz <= (As C 0 (l.length * T.sz) ++ new).length := by
     rw [List.length_append, hlr, hnl, <- Nat.add_mul, <- Nat.succ_mul]
     exact Nat.mul_le_mul_right _ (Nat.succ_le_of_lt (by simpa using hii))
    rw [List.drop_append_of_le_length (by omega), List.take_append_of_le_length (by simp only [List.length_drop]; omega)]
    exact this
 ·rw [if_neg hfit]
  have hcl : cap < l.length + m.length := by omega
  have hnc := MG hcl
  have hti : ∀ w, (typeInfo E).run P w = .ok i w := fun w => by simp [typeInfo, hi]
  have hmax : ¬ (((l.length + m.length : Nat) : Int) > IntKind.i64.max /\ (False \/ i.bytes = 0)) := by
   have : IntKind.i64.max = 9223372036854775807 := by decide
   omega
  have hbig : ¬ (Builtin.nextslicecap (l.length + m.length) cap * i.bytes > 2 ^ 48) := by
   have : Builtin.nextslicecap (l.length + m.length) cap * i.bytes <= ((l.length + m.length) + (l.length + m.length) / 4 + 512) * by_ := Nat.mul_le_mul hnc (hib ▸ Nat.le_refl _)
   omega
  obtain ⟨old, hold, hloadO⟩ := (hr.rd hs hk).load (P := P) cap
  simp only [Sem.run_bind, hti, Result.andThen_ok]
  rw [if_neg hmax]
  simp only [Sem.run_bind, hti, Result.andThen_ok]
  rw [if_neg hbig]
  simp only [Sem.run_bind, hti, Result.andThen_ok, Bool.not_false, if_true]
  have hne : l.length + m.length < 2 ^ 63 := by omega
  simp only [Sem.run_pure, Result.andThen_ok, run_choose, Question.forced, Bool.false_eq_true, if_false, run_askRoom]
  generalize hq : (Question.appendCap (l.length + m.length) cap E).cut (w.tape w.drawn (Question.appendCap (l.length + m.length) cap E)) = nc
  have hnc2 : l.length + m.length <= nc := by rw [<- hq]; simp [Question.cut]
  have hsd : HS w0 F0 { w with drawn := w.drawn + 1 } F L := hs.heap rfl
  obtain ⟨old, hold, hloadO⟩ := (hr.rd hsd hk).load (P := P) cap
  have hmd : Rd T F { w with drawn := w.drawn + 1 } a2 m := hm
  obtain ⟨new, hnew, hload⟩ := hmd.load (P := P) c2
  have hzv : (zeroValue E).run P { w with drawn := w.drawn + 1 } = .ok z { w with drawn := w.drawn + 1 } := by
   unfold BA at hz; rw [hi] at hz
   simp [zeroValue, typeInfo, hi, hz]
  simp only [hti, hloadO, Result.andThen_ok, hload, hzv, newRow, Sem.run_bind, run_newObj, Sem.run_pure]
  have hol := hold.len
  have hnl := hnew.len
  have hzc : (Builtin.zeroCells z.cells (nc - (l.length + m.length))).size = (nc - (l.length + m.length)) * T.sz := by simp [Builtin.zeroCells, hzs]
  refine ⟨some ⟨w.heap.size, 0, none⟩, nc, (some w.heap.size, .cells (old.toArray ++ new.toArray ++ Builtin.zeroCells z.cells (nc - (l.length + m.length))) E (0, 0)), _, ?_, hsd.renew k _, ?_⟩
  ·simp only [List.length_append]
   rfl
  ·refine ⟨by simpa using hlen, .inr ⟨_, _, rfl, rfl, by simpa using hnc2, ?_, fun i x hix => ?_⟩⟩
   ·simp only [Array.size_append, List.size_toArray, hol, hnl, hzc]
    rw [<- Nat.add_mul, <- Nat.add_mul]
    congr 1; omega
   ·have := (C5.append hold hnew).get i x hix
    have hii : i < (l ++ m).length := by
     rcases Nat.lt_or_ge i (l ++ m).length with h' | h'
     ·exact h'
     ·rw [List.getElem?_eq_none h'] at hix; cases hix
    unfold As
    simp only [Array.toList_append]
    have hle : i * T.sz + T.sz <= (old ++ new).length := by
     rw [List.length_append, hol, hnl, <- Nat.add_mul, <- Nat.succ_mul]
     exact Nat.mul_le_mul_right _ (Nat.succ_le_of_lt (by simpa using hii))
    rw [List.drop_append_of_le_length (by simpa using (by omega : i * T.sz <= (old ++ new).length)), List.take_append_of_le_length (by simp only [List.length_drop]; omega)]
    exact this
theorem NG {t t2 ty : TypeId} {by_ c2 : Nat} {a2 : S0} {z : Value} (he : A1 P t = some (E, T.sz, by_)) (hb : decide (by_ <= 1024) = true) (hni : ML P t2 = true) (hz : BA P E = some z) (hzs : z.cells.size = T.sz)
  (h1 : T.One) (hs : HS w0 F0 w F L) {k : Nat} (hk : L[k]? = some e) (hr : Av T E F a cap l e) (hm : Rd T F w a2 m) {r : List α} (hap : C4 l m = some r) :
  ∃ a' cap' e' w', (Builtin.append_ #[t, t2] ty #[.slice a l.length cap, .slice a2 m.length c2]).run P w = .ok (.slice a' r.length cap') w' /\ HS w0 F0 w' F (L.set k e') /\ Av T E F a' cap' r e' := by
 obtain ⟨hlen, rfl⟩ := OR hap
 have hb' : by_ <= 1024 := by simpa using hb
 exact MU he hni hz hzs h1 hs hk hr hm (by omega) (by
  have : ((l.length + m.length) + (l.length + m.length) / 4 + 512) * by_ <= 5368709632 * 1024 := Nat.mul_le_mul (by omega) hb'
  omega)
section
variable {ro : Option Nat} {n : Nat} {R : Array Oper} {Q : Exit -> Fr -> World -> Prop} {f : Fr} {i : Nat} {rest : List Nat} {dst : Option Nat} {ty : TypeId} {g : Option (Nat × Bool)} {PQ : List PanicEntry -> List Deferred -> World -> Prop} {Post : Fr -> World -> Prop} {fuel : Nat} {ll l' : List Bool} {Fs : Mem} {Lc Lz : List (Option Nat × Obj)} {zz : Nat} {zd : Bool}
theorem Ay.store {x y : Operand} {t : TypeId} {v : Value} {gg : Bool} {s b o : Nat} {C C' : Array Value} {E : TypeId} (hl' : ll.set i true = l') (hzd : l'.toArray.getD zz true = zd) (ho : opq R i = some (none, .store t x y, ty, g)) (hg : gd R f g = true)
  (hx : fev f x = .pointer (some ⟨b, o, none⟩)) (hy : fev f y = v) (ht : Dr P t = some (gg, s)) (hs : HS w0 F0 w F L) {k : Nat} (hk : L[k]? = some (some b, .cells C E (0, 0))) (hsz : v.cells.size = s)
  (hl : decide (o + s <= C.size) = true) (h1 : v.cells.toList.all (·.oneCell') = true) (hC : C3 C o v.cells.toList = C') (hle : SG Fs F) (hL : ∀ p, p ∈ Lc -> p ∈ L.set k (some b, .cells C' E (0, 0))) (hLz : zd = false -> ∀ p, p ∈ Lz -> p ∈ L.set k (some b, .cells C' E (0, 0)))
  (kk : ∀ w', HS w0 F0 w' F (L.set k (some b, .cells C' E (0, 0))) -> DWP P n R PQ Post zz (DZ Fs Lc Lz) fuel l' f w') : Ay P n R PQ Post zz (DZ Fs Lc Lz) fuel ll i f w :=
 SU hl' hzd ho hg (Fm hx hy ht (hs.ownAt hk) hsz hl h1 hC) (BI (hs.put hk _) hle hL hLz) (kk _ (hs.put hk _))
theorem JY {x y : Operand} {t t2 : TypeId} {by_ c2 : Nat} {a2 : S0} {z : Value} (hx : fev f x = .slice a l.length cap) (hy : fev f y = .slice a2 m.length c2)
  (he : A1 P t = some (E, T.sz, by_)) (hb : decide (by_ <= 1024) = true) (hni : ML P t2 = true) (hz : BA P E = some z) (hzs : z.cells.size = T.sz)
  (h1 : T.One) (hs : HS w0 F0 w F L) {k : Nat} (hk : L[k]? = some e) (hr : Av T E F a cap l e) (hm : Rd T F w a2 m) {r : List α} (hap : C4 l m = some r) :
  ∃ a' cap' e' w', (Ao (fev f) (.call { callee := .builtin .append, args := #[x, y], argTypes := #[t, t2] }) ty).run P w = .ok (.value (.slice a' r.length cap')) w' /\ HS w0 F0 w' F (L.set k e') /\ Av T E F a' cap' r e' := by
 obtain ⟨a', cap', e', w', h1, h2, h3⟩ := NG (ty := ty) he hb hni hz hzs h1 hs hk hr hm hap
 refine ⟨a', cap', e', w', ?_, h2, h3⟩
 have e1 : Ao (fev f) (.call { callee := .builtin .append, args := #[x, y], argTypes := #[t, t2] }) ty = (do pure (Next.value (<- Builtin.append_ #[t, t2] ty (Array.map (fev f) #[x, y])))) := rfl
 rw [e1, map_toArray]
 simp only [List.map_cons, List.map_nil, hx, hy]
 rw [Sem.run_bind, h1]
 rfl
theorem RWP.append {x y : Operand} {t t2 : TypeId} {by_ c2 : Nat} {a2 : S0} {z : Value} (ho : opq R i = some (dst, .call { callee := .builtin .append, args := #[x, y], argTypes := #[t, t2] }, ty, g)) (hg : gd R f g = true)
  (hx : fev f x = .slice a l.length cap) (hy : fev f y = .slice a2 m.length c2)
  (he : A1 P t = some (E, T.sz, by_)) (hb : decide (by_ <= 1024) = true) (hni : ML P t2 = true) (hz : BA P E = some z) (hzs : z.cells.size = T.sz)
  (h1 : T.One) (hs : HS w0 F0 w F L) {k : Nat} (hk : L[k]? = some e) (hr : Av T E F a cap l e) (hm : Rd T F w a2 m) {r : List α} (hap : C4 l m = some r)
  (kk : ∀ a' cap' e' w', HS w0 F0 w' F (L.set k e') -> Av T E F a' cap' r e' -> RWP P ro n R Q rest (AY f dst (.slice a' r.length cap')) w') : RWP P ro n R Q (i :: rest) f w := by
 obtain ⟨a', cap', e', w', h1, h2, h3⟩ := JY (ty := ty) hx hy he hb hni hz hzs h1 hs hk hr hm hap
 exact SD ho hg h1 (kk a' cap' e' w' h2 h3)
theorem Ay.append {x y : Operand} {t t2 : TypeId} {by_ c2 : Nat} {a2 : S0} {z : Value} (hl' : ll.set i true = l') (hzd : l'.toArray.getD zz true = zd) (ho : opq R i = some (dst, .call { callee := .builtin .append, args := #[x, y], argTypes := #[t, t2] }, ty, g)) (hg : gd R f g = true)
  (hx : fev f x = .slice a l.length cap) (hy : fev f y = .slice a2 m.length c2)
  (he : A1 P t = some (E, T.sz, by_)) (hb : decide (by_ <= 1024) = true) (hni : ML P t2 = true) (hz : BA P E = some z) (hzs : z.cells.size = T.sz)
  (h1 : T.One) (hs : HS w0 F0 w F L) {k : Nat} (hk : L[k]? = some e) (hr : Av T E F a cap l e) (hm : Rd T F w a2 m) {r : List α} (hap : C4 l m = some r) (hle : SG Fs F) (hL : ∀ e' p, p ∈ Lc -> p ∈ L.set k e') (hLz : zd = false -> ∀ e' p, p ∈ Lz -> p ∈ L.set k e')
  (kk : ∀ a' cap' e' w', HS w0 F0 w' F (L.set k e') -> Av T E F a' cap' r e' -> DWP P n R PQ Post zz (DZ Fs Lc Lz) fuel l' (AY f dst (.slice a' r.length cap')) w') : Ay P n R PQ Post zz (DZ Fs Lc Lz) fuel ll i f w := by
 obtain ⟨a', cap', e', w', h1, h2, h3⟩ := JY (ty := ty) hx hy he hb hni hz hzs h1 hs hk hr hm hap
 exact ST hl' hzd ho hg h1 (BI h2 hle (hL e') (fun e => hLz e e')) (kk a' cap' e' w' h2 h3)
def IB (P : Program) (t : TypeId) (len : Nat) (parts : List (Nat × Value)) : Option (TypeId × List Value) :=
 match A1 P t with
 | some (E, s, _) =>
  if len * s > 2 ^ 24 then none else
  match BA P E with
  | some z => if s = 0 then none else
   match Instr.fill (fun i => some (i * s, s)) ((List.range (len * s)).map (z.cells[· % z.cells.size]!)).toArray parts with
   | some cs => some (E, cs.toList)
   | none => none
  | none => none
 | none => none
theorem Sh (parts : Array (Nat × Operand)) (ρ : Operand -> Value) : (parts.map fun (i, x) => (i, ρ x)) = (parts.toList.map fun p => (p.1, ρ p.2)).toArray := by
 apply Array.ext'; simp
theorem Ga {t : TypeId} {len : Nat} {parts : Array (Nat × Operand)} {vs : List (Nat × Value)} {cs : List Value} (hv : parts.toList.map (fun p => (p.1, fev f p.2)) = vs) (hb : IB P t len vs = some (E, cs)) :
  (Ao (fev f) (.buildSlice t len parts) ty).run P w = .ok (.value (.slice (some ⟨w.heap.size, 0, none⟩) len len)) (w.alloc (.cells cs.toArray E (0, 0))) := by
 subst hv
 unfold IB at hb
 split at hb
 ·rename_i E' s by_ he
  obtain ⟨i, hu, hi, his, hib⟩ := EP he
  split at hb
  ·cases hb
  ·rename_i h24
   split at hb
   ·rename_i z hz
    split at hb
    ·cases hb
    ·rename_i hs0
     split at hb
     ·rename_i cs' hfill
      simp only [Option.some.injEq, Prod.mk.injEq] at hb
      obtain ⟨rfl, rfl⟩ := hb
      have e1 : Ao (fev f) (.buildSlice t len parts) ty = (do pure (Next.value (<- Instr.buildSlice t len (parts.map fun (i, x) => (i, fev f x))))) := rfl
      have hzv : (zeroValue E').run P w = .ok z w := by
       unfold BA at hz; rw [hi] at hz
       simp [zeroValue, typeInfo, hi, hz]
      rw [e1, Sh]
      have hrange : (Array.range (len * s)).map (z.cells[· % z.cells.size]!) = ((List.range (len * s)).map (z.cells[· % z.cells.size]!)).toArray := by
       apply Array.ext'; simp
      by_cases h0 : len * s = 0
      ·simp only [Instr.buildSlice, Sem.run_bind, run_underlying hu, Result.andThen_ok, CC hi, his, h24, if_false, h0, if_true, Sem.run_pure]
       rw [h0] at hfill
       simp only [List.range_zero, List.map_nil] at hfill
       have h24' : ¬ (0 > 2 ^ 24) := by omega
       rw [if_neg h24']
       simp only [Sem.run_bind, Sem.run_pure, Result.andThen_ok, Array.range_zero']
       rw [show (Array.map (fun x => (#[] : Array Value)[x % (#[] : Array Value).size]!) #[]) = ([] : List Value).toArray from by simp, hfill]
       simp only [newRow, Sem.run_bind, run_newObj, Result.andThen_ok, Sem.run_pure]
       rfl
      ·simp only [Instr.buildSlice, Sem.run_bind, run_underlying hu, Result.andThen_ok, CC hi, his, h24, if_false, h0, Sem.run_pure, hzv]
       rw [hrange, hfill]
       simp only [newRow, Sem.run_bind, run_newObj, Result.andThen_ok, Sem.run_pure]
       rfl
     ·cases hb
   ·cases hb
 ·cases hb
theorem RWP.buildSlice {t : TypeId} {len : Nat} {parts : Array (Nat × Operand)} {vs : List (Nat × Value)} {cs : List Value} (ho : opq R i = some (dst, .buildSlice t len parts, ty, g)) (hg : gd R f g = true)
  (hv : parts.toList.map (fun p => (p.1, fev f p.2)) = vs) (hb : IB P t len vs = some (E, cs)) (hs : HS w0 F0 w F L)
  (k : ∀ b w', HS w0 F0 w' F ((some b, .cells cs.toArray E (0, 0)) :: L) -> RWP P ro n R Q rest (AY f dst (.slice (some ⟨b, 0, none⟩) len len)) w') : RWP P ro n R Q (i :: rest) f w :=
 SD ho hg (Ga hv hb) (k _ _ (hs.alloc _))
theorem Ay.buildSlice {t : TypeId} {len : Nat} {parts : Array (Nat × Operand)} {vs : List (Nat × Value)} {cs : List Value} (hl' : ll.set i true = l') (hzd : l'.toArray.getD zz true = zd) (ho : opq R i = some (dst, .buildSlice t len parts, ty, g)) (hg : gd R f g = true)
  (hv : parts.toList.map (fun p => (p.1, fev f p.2)) = vs) (hb : IB P t len vs = some (E, cs)) (hs : HS w0 F0 w F L) (hle : SG Fs F) (hL : ∀ p, p ∈ Lc -> p ∈ L) (hLz : zd = false -> ∀ p, p ∈ Lz -> p ∈ L)
  (k : ∀ b w', HS w0 F0 w' F ((some b, .cells cs.toArray E (0, 0)) :: L) -> DWP P n R PQ Post zz (DZ Fs Lc Lz) fuel l' (AY f dst (.slice (some ⟨b, 0, none⟩) len len)) w') : Ay P n R PQ Post zz (DZ Fs Lc Lz) fuel ll i f w :=
 ST hl' hzd ho hg (Ga hv hb) (BI (hs.alloc _) hle (fun p hp => List.mem_cons_of_mem _ (hL p hp)) (fun e p hp => List.mem_cons_of_mem _ (hLz e p hp))) (k _ _ (hs.alloc _))
def mk0 {α : Type} (z : α) (n : Int) : Option (List α) := if 0 <= n /\ n < 4294967296 then some (List.replicate n.toNat z) else none
theorem MH {β : Type} {z : β} {n : Int} {r : List β} (h : mk0 z n = some r) : (0 <= n /\ n < 4294967296) /\ r = List.replicate n.toNat z := by
 unfold mk0 at h
 split at h
 ·rename_i hn; cases h; exact ⟨hn, rfl⟩
 ·cases h
theorem Mb {x : Int} (h1 : -9223372036854775808 <= x) (h2 : x <= 9223372036854775807) : IntKind.i64.wrap x = x := IntWalk.i64_in x ⟨h1, h2⟩
theorem K8 (zc : Array Value) (k : Nat) {z : α} (hz : T.R F zc.toList z) : ∀ i x, (List.replicate k z)[i]? = some x -> T.R F (As ((Array.range (k * zc.size)).map (zc[· % zc.size]!)) (i * T.sz) T.sz) x := by
 intro i x hx
 have hi : i < k := by
  rcases Nat.lt_or_ge i k with h' | h'
  ·exact h'
  ·rw [List.getElem?_eq_none (by simpa using h')] at hx; cases hx
 have hxz : x = z := by simpa [hi] using hx.symm
 subst hxz
 have hs : T.sz = zc.size := by have := T.len hz; simpa using this.symm
 have : As ((Array.range (k * zc.size)).map (zc[· % zc.size]!)) (i * T.sz) T.sz = zc.toList := by
  rw [hs]
  apply List.ext_getElem?
  intro j
  unfold As
  by_cases hj : j < zc.size
  ·have hle : i * zc.size + zc.size <= k * zc.size := by rw [<- Nat.succ_mul]; exact Nat.mul_le_mul_right _ hi
   rw [List.getElem?_take_of_lt hj, List.getElem?_drop, Array.getElem?_toList]
   have hlt : i * zc.size + j < k * zc.size := by omega
   have hm : (i * zc.size + j) % zc.size = j := by rw [Nat.mul_comm, Nat.mul_add_mod, Nat.mod_eq_of_lt hj]
   simp [hlt, hm, hj]
  ·rw [List.getElem?_eq_none (by simp; omega), List.getElem?_eq_none (by simpa using hj)]
 rw [this]
 exact hz
theorem G7 {x y : Operand} {t : TypeId} {by_ : Nat} {z : Value} {z0 : α} {m : Int} {r : List α} (hx : fev f x = .int .i64 m) (hy : fev f y = .int .i64 m) (he : A1 P t = some (E, T.sz, by_)) (hb : decide (by_ <= 1024) = true) (hz : BA P E = some z)
  (hz0 : ∀ F, T.R F z.cells.toList z0) (hs0 : decide (T.sz = 0) = false) (hs : HS w0 F0 w F L) (hm : mk0 z0 m = some r) :
  ∃ b cap C w', (Ao (fev f) (.makeSlice t x y) ty).run P w = .ok (.value (.slice (some ⟨b, 0, none⟩) r.length cap)) w' /\ HS w0 F0 w' F ((some b, .cells C E (0, 0)) :: L) /\ Av T E F (some ⟨b, 0, none⟩) cap r (some b, .cells C E (0, 0)) := by
 obtain ⟨hm1, rfl⟩ := MH hm
 obtain ⟨i, hu, hi, his, hib⟩ := EP he
 have hb' : by_ <= 1024 := by simpa using hb
 have hs0' : T.sz ≠ 0 := by simpa using hs0
 have hsz : T.sz = z.cells.size := by have := T.len (hz0 F); simpa using this.symm
 have hw : IntKind.i64.wrap m = m := Mb (by omega) (by omega)
 have hzv : (zeroValue E).run P w = .ok z w := by
  unfold BA at hz; rw [hi] at hz
  simp [zeroValue, typeInfo, hi, hz]
 have hti : (typeInfo E).run P w = .ok i w := by simp [typeInfo, hi]
 refine ⟨w.heap.size, m.toNat, (Array.range (m.toNat * z.cells.size)).map (z.cells[· % z.cells.size]!), _, ?_, hs.alloc _, ?_⟩
 ·have e1 : Ao (fev f) (.makeSlice t x y) ty = (do pure (Next.value (<- Instr.makeSlice t (fev f x) (fev f y)))) := rfl
  have hnat : (i.bytes : Int) * m <= 1024 * 4294967296 := by
   have h1 : (i.bytes : Int) <= 1024 := by omega
   have h2 : m <= 4294967296 := by omega
   exact Int.mul_le_mul h1 h2 hm1.1 (by decide)
  have hlarge : (decide (m < 0) || decide ((i.bytes : Int) * m > 2 ^ 48)) = false := by
   simp only [Bool.or_eq_false_iff, decide_eq_false_iff_not]
   exact ⟨by omega, by omega⟩
  rw [e1, hx, hy]
  simp only [Instr.makeSlice, asInt, asIntOf, Sem.run_bind, run_underlying hu, Sem.run_pure, Result.andThen_ok, hti, hw, hlarge, Bool.false_or]
  have h3 : ¬ (m < 0) := by omega
  simp only [h3, decide_false, Int.lt_irrefl, gt_iff_lt, Bool.or_self, Bool.false_eq_true, if_false, Sem.run_bind, run_askRoom, Result.andThen_ok, CC hi, his]
  by_cases h0 : m.toNat * T.sz = 0
  ·have hm0 : m.toNat = 0 := by rcases Nat.mul_eq_zero.1 h0 with h | h; exact h; exact absurd h hs0'
   simp only [h0, if_true, Sem.run_pure, Result.andThen_ok, newRow, Sem.run_bind, run_newObj, hm0, List.length_replicate, Nat.zero_mul, Array.range_zero', List.map_toArray, List.map_nil, Array.map_empty]
   rfl
  ·rw [hsz] at h0
   simp only [hsz, h0, if_false, Sem.run_bind, hzv, Sem.run_pure, Result.andThen_ok, newRow, run_newObj, List.length_replicate]
   rfl
 ·refine ⟨by simp; omega, .inr ⟨_, _, rfl, rfl, by simp, by simp [hsz], fun i x hx => K8 z.cells m.toNat (hz0 F) i x hx⟩⟩
theorem RWP.makeSlice {x y : Operand} {t : TypeId} {by_ : Nat} {z : Value} {z0 : α} {m : Int} {r : List α} (ho : opq R i = some (dst, .makeSlice t x y, ty, g)) (hg : gd R f g = true) (hx : fev f x = .int .i64 m) (hy : fev f y = .int .i64 m) (he : A1 P t = some (E, T.sz, by_)) (hb : decide (by_ <= 1024) = true) (hz : BA P E = some z)
  (hz0 : ∀ F, T.R F z.cells.toList z0) (hs0 : decide (T.sz = 0) = false) (hs : HS w0 F0 w F L) (hm : mk0 z0 m = some r)
  (k : ∀ b cap C w', HS w0 F0 w' F ((some b, .cells C E (0, 0)) :: L) -> Av T E F (some ⟨b, 0, none⟩) cap r (some b, .cells C E (0, 0)) -> RWP P ro n R Q rest (AY f dst (.slice (some ⟨b, 0, none⟩) r.length cap)) w') : RWP P ro n R Q (i :: rest) f w := by
 obtain ⟨b, cap, C, w', h1, h2, h3⟩ := G7 (ty := ty) hx hy he hb hz hz0 hs0 hs hm
 exact SD ho hg h1 (k b cap C w' h2 h3)
theorem LR {v : Value} {a : S0} {j : Nat} {u : α} (h : v = .slice a l.length cap) : v = .slice a (l.set j u).length cap := by rw [List.length_set]; exact h
theorem JX {x y : Operand} {t : TypeId} {kk : IntKind} {b nn c : Nat} {j : Int} {s by_ : Nat} (hx : fev f x = .slice (some ⟨b, 0, none⟩) nn c) (hy : fev f y = .int kk j) (he : A1 P t = some (E, s, by_))
  (hi : 0 <= j /\ j < (nn : Int)) : (Ao (fev f) (.indexAddr t x y) ty).run P w = .ok (.value (.pointer (some ⟨b, j.toNat * s, none⟩))) w := by
 have := GJ (P := P) (w := w) (ty := ty) hx hy he hi
 rw [Nat.zero_add] at this
 exact this
theorem Av.open (h : Av T E F a cap l e) {j : Nat} {x : α} (hx : l[j]? = some x) : ∃ b C, a = some ⟨b, 0, none⟩ /\ e = (some b, .cells C E (0, 0)) /\ ∀ i x, l[i]? = some x -> T.R F (As C (i * T.sz) T.sz) x := by
 rcases h.2 with ⟨_, _, rfl, _⟩ | ⟨b, C, h1, h2, _, _, h5⟩
 ·simp at hx
 ·exact ⟨b, C, h1, h2, h5⟩
theorem Av.set {b : Nat} {C : Array Value} (h : Av T E F a cap l (some b, .cells C E (0, 0))) {j : Nat} {x y : α} (hx : l[j]? = some x) {vs : List Value} (hy : T.R F vs y) : Av T E F a cap (l.set j y) (some b, .cells (C3 C (j * T.sz) vs) E (0, 0)) := by
 rcases h.2 with ⟨_, _, rfl, _⟩ | ⟨b', C', h1, h2, h3, h4, h5⟩
 ·simp at hx
 ·cases h2
  have hj : j < l.length := by
   rcases Nat.lt_or_ge j l.length with h' | h'
   ·exact h'
   ·rw [List.getElem?_eq_none h'] at hx; cases hx
  have hvl := T.len hy
  have hle : j * T.sz + vs.length <= C.size := by
   rw [hvl, h4, <- Nat.succ_mul]; exact Nat.mul_le_mul_right _ (by omega)
  refine ⟨by simpa using h.1, .inr ⟨b, _, h1, rfl, by simpa using h3, by rw [Jc, h4], fun i z hz => ?_⟩⟩
  by_cases hij : i = j
  ·subst hij
   have : z = y := by simpa [hj] using hz.symm
   subst this
   have : As (C3 C (i * T.sz) vs) (i * T.sz) T.sz = vs := by
    unfold As
    rw [Ln hle, List.append_assoc, List.drop_append_of_le_length (by simp; omega), List.drop_eq_nil_of_le (by simp; omega), List.nil_append, List.take_append_of_le_length (by omega), <- hvl, List.take_length]
   rw [this]; exact hy
  ·have hz' : l[i]? = some z := by rw [List.getElem?_set_ne (Ne.symm hij)] at hz; exact hz
   have h6 := h5 i z hz'
   have h7 := T.len h6
   have : As (C3 C (j * T.sz) vs) (i * T.sz) T.sz = As C (i * T.sz) T.sz := by
    apply List.ext_getElem?
    intro q
    unfold As
    by_cases hq : q < T.sz
    ·rw [List.getElem?_take_of_lt hq, List.getElem?_take_of_lt hq, List.getElem?_drop, List.getElem?_drop, Array.getElem?_toList, Array.getElem?_toList, KI _ _ _ _ hle]
     rw [if_neg]
     rw [hvl]
     rcases Nat.lt_or_gt_of_ne hij with h8 | h8
     ·have : i * T.sz + T.sz <= j * T.sz := by rw [<- Nat.succ_mul]; exact Nat.mul_le_mul_right _ h8
      omega
     ·have : j * T.sz + T.sz <= i * T.sz := by rw [<- Nat.succ_mul]; exact Nat.mul_le_mul_right _ h8
      omega
    ·rw [List.getElem?_eq_none (by simp; omega), List.getElem?_eq_none (by simp; omega)]
   rw [this]; exact h6
theorem HE {x y : Operand} {t : TypeId} {v : Value} {gg : Bool} {b j : Nat} {C : Array Value} {q u : α} (hx : fev f x = .pointer (some ⟨b, j * T.sz, none⟩)) (hy : fev f y = v) (ht : Dr P t = some (gg, T.sz))
  (hs : HS w0 F0 w F L) {k : Nat} (hk : L[k]? = some (some b, .cells C E (0, 0))) (hr : Av T E F a cap l (some b, .cells C E (0, 0))) (hq : l[j]? = some q) (hu : T.R F v.cells.toList u) (h1 : v.cells.toList.all (·.oneCell') = true) :
  ∃ C' w', (Ao (fev f) (.store t x y) ty).run P w = .ok .skip w' /\ HS w0 F0 w' F (L.set k (some b, .cells C' E (0, 0))) /\ Av T E F a cap (l.set j u) (some b, .cells C' E (0, 0)) := by
 have hj : j < l.length := by
  rcases Nat.lt_or_ge j l.length with h' | h'
  ·exact h'
  ·rw [List.getElem?_eq_none h'] at hq; cases hq
 have hle : j * T.sz + T.sz <= C.size := by
  rcases hr.2 with ⟨_, _, rfl, _⟩ | ⟨b', C', h1, h2, h3, h4, h5⟩
  ·simp at hq
  ·cases h2; rw [h4, <- Nat.succ_mul]; exact Nat.mul_le_mul_right _ (by omega)
 exact ⟨_, _, Fm hx hy ht (hs.ownAt hk) (by have := T.len hu; simpa using this) (by simpa using hle) h1 rfl, hs.put hk _, hr.set hq hu⟩
theorem RWP.storeRow {x y : Operand} {t : TypeId} {v : Value} {gg : Bool} {b j : Nat} {C : Array Value} {q u : α} (ho : opq R i = some (none, .store t x y, ty, g)) (hg : gd R f g = true) (hx : fev f x = .pointer (some ⟨b, j * T.sz, none⟩)) (hy : fev f y = v) (ht : Dr P t = some (gg, T.sz))
  (hs : HS w0 F0 w F L) {k : Nat} (hk : L[k]? = some (some b, .cells C E (0, 0))) (hr : Av T E F a cap l (some b, .cells C E (0, 0))) (hq : l[j]? = some q) (hu : T.R F v.cells.toList u) (h1 : v.cells.toList.all (·.oneCell') = true)
  (kk : ∀ C' w', HS w0 F0 w' F (L.set k (some b, .cells C' E (0, 0))) -> Av T E F a cap (l.set j u) (some b, .cells C' E (0, 0)) -> RWP P ro n R Q rest f w') : RWP P ro n R Q (i :: rest) f w := by
 obtain ⟨C', w', h2, h3, h4⟩ := HE (ty := ty) hx hy ht hs hk hr hq hu h1
 exact RWP.unit ho hg h2 (kk C' w' h3 h4)
theorem Ay.storeRow {x y : Operand} {t : TypeId} {v : Value} {gg : Bool} {b j : Nat} {C : Array Value} {q u : α} (hl' : ll.set i true = l') (hzd : l'.toArray.getD zz true = zd) (ho : opq R i = some (none, .store t x y, ty, g)) (hg : gd R f g = true) (hx : fev f x = .pointer (some ⟨b, j * T.sz, none⟩)) (hy : fev f y = v) (ht : Dr P t = some (gg, T.sz))
  (hs : HS w0 F0 w F L) {k : Nat} (hk : L[k]? = some (some b, .cells C E (0, 0))) (hr : Av T E F a cap l (some b, .cells C E (0, 0))) (hq : l[j]? = some q) (hu : T.R F v.cells.toList u) (h1 : v.cells.toList.all (·.oneCell') = true)
  (hle : SG Fs F) (hL : ∀ C' p, p ∈ Lc -> p ∈ L.set k (some b, .cells C' E (0, 0))) (hLz : zd = false -> ∀ C' p, p ∈ Lz -> p ∈ L.set k (some b, .cells C' E (0, 0)))
  (kk : ∀ C' w', HS w0 F0 w' F (L.set k (some b, .cells C' E (0, 0))) -> Av T E F a cap (l.set j u) (some b, .cells C' E (0, 0)) -> DWP P n R PQ Post zz (DZ Fs Lc Lz) fuel l' f w') : Ay P n R PQ Post zz (DZ Fs Lc Lz) fuel ll i f w := by
 obtain ⟨C', w', h2, h3, h4⟩ := HE (ty := ty) hx hy ht hs hk hr hq hu h1
 exact SU hl' hzd ho hg h2 (BI h3 hle (hL C') (fun e => hLz e C')) (kk C' w' h3 h4)
end
end
section
variable {P : Program} {w : World} {ρ : Operand -> Value} {ty : TypeId}
theorem Ms {s d : TypeId} {x : Operand} {k q : IntKind} {a : Int} (hx : ρ x = .int q a) (hs : (P.underlying s).isSome = true) (hd : P.underlying d = some (.int k)) :
  (Ao ρ (.convert s d x) ty).run P w = .ok (.value (.int k (k.wrap a))) w := by
 obtain ⟨ds, hs⟩ := Option.isSome_iff_exists.1 hs
 simp [Ao, execOp, hx, convert, run_underlying hs, run_underlying hd, Conv.intToInt]
def Pt (ρ : Operand -> Value) : Option Operand -> Value
 | none => .int .i64 0
 | some x => ρ x
theorem Dw {x : Operand} {lo hi mx : Option Operand} {t E : TypeId} {s by_ n c : Nat} {a : S0} {i j m : Nat} (hx : ρ x = .slice a n c) (ht : A1 P t = some (E, s, by_)) (hut : P.underlying t = some (.slice (P.elem t)))
    (hlo : Pt ρ lo = .int .i64 (i : Int)) (hhi : match hi with | none => j = n | some y => ρ y = .int .i64 (j : Int)) (hmx : match mx with | none => m = c | some y => ρ y = .int .i64 (m : Int)) (hmh : mx.isSome = true -> hi.isSome = true)
    (hij : i <= j) (hjm : j <= m) (hmc : m <= c) :
    (Ao ρ (.slice t x lo hi mx) ty).run P w = .ok (.value (.slice (if m = i then a else a.map (·.add (i * s))) (j - i) (m - i))) w := by
  have hE : P.elem t = E /\ (sizeOf (P.elem t)).run P w = .ok s w := by
    unfold A1 at ht
    rw [hut] at ht
    simp only at ht
    split at ht
    · rename_i i' hi'
      simp only [Option.some.injEq, Prod.mk.injEq] at ht
      obtain ⟨h1, h2, _⟩ := ht
      exact ⟨h1, by rw [CC hi', h2]⟩
    · cases ht
  have hb : (Instr.sliceBounds true n c (lo.map ρ) (hi.map ρ) (mx.map ρ)).run P w = .ok (i, j, m) w := by
    cases lo <;> cases hi <;> cases mx <;> simp only [Pt] at hlo <;> simp only at hhi hmx hmh <;>
      first
      | (simp at hmh; done)
      | (try (have hi0 : i = 0 := by injection hlo with _ h; omega)
         try subst hi0
         try subst hhi
         try subst hmx
         simp [Instr.sliceBounds, Instr.sliceBound, asIntOf, *, Result.andThen]
         done)
      | skip
    all_goals
      (try (have hi0 : i = 0 := by injection hlo with _ h; omega)
       try subst hi0
       simp [Instr.sliceBounds, Instr.sliceBound, asIntOf, *, Result.andThen]
       try omega)
  simp only [Ao, execOp, Sem.run_bind, Sem.run_pure, hx, run_sliceAt_slice w t _ _ _ _ hut, Instr.slice, run_underlying hut, Result.andThen_ok, hb, hE.2]
section mapmodel
variable {α β : Type} [DecidableEq α]
def Fy : List (α × β) -> α -> Option β
 | [], _ => none
 | p :: l, k => if k = p.1 then some p.2 else Fy l k
def Eu : List (α × β) -> α -> β -> List (α × β)
 | [], k, v => [(k, v)]
 | p :: l, k, v => if k = p.1 then (k, v) :: l else p :: Eu l k v
def Ev (l : List (α × β)) (k : α) (z : β) : β := (Fy l k).getD z
def Hp (l : List (α × β)) (k : α) : Bool := (Fy l k).isSome
end mapmodel
def MpL {α β : Type} (K : Ty α) (T : Ty β) (F : Mem) : List MapEntry -> List (α × β) -> Prop
 | [], [] => True
 | e :: es, p :: l => K.V F e.key p.1 /\ T.V F e.val p.2 /\ MpL K T F es l
 | _, _ => False
theorem MpL.mono {α β : Type} {K : Ty α} {T : Ty β} {F F' : Mem} (hl : SG F F') : ∀ {es : List MapEntry} {l : List (α × β)}, MpL K T F es l -> MpL K T F' es l
 | [], [], _ => trivial
 | _ :: _, _ :: _, h => ⟨h.1.mono hl, h.2.1.mono hl, MpL.mono hl h.2.2⟩
 | [], _ :: _, h => h.elim
 | _ :: _, [], h => h.elim
theorem MpL.length {α β : Type} {K : Ty α} {T : Ty β} {F : Mem} : ∀ {es : List MapEntry} {l : List (α × β)}, MpL K T F es l -> es.length = l.length
 | [], [], _ => rfl
 | _ :: _, _ :: _, h => by simp [MpL.length h.2.2]
 | [], _ :: _, h => h.elim
 | _ :: _, [], h => h.elim
def MpA {α β : Type} (K : Ty α) (T : Ty β) (F : Mem) (ob : Option Nat) (l : List (α × β)) : Prop :=
 (ob = none /\ l = []) \/ ∃ b es clk, ob = some b /\ F b = some (.map es clk) /\ MpL K T F es.toList l
theorem MpA.mono {α β : Type} {K : Ty α} {T : Ty β} {F F' : Mem} {ob : Option Nat} {l : List (α × β)} (h : MpA K T F ob l) (hl : SG F F') : MpA K T F' ob l := by
 rcases h with h | ⟨b, es, clk, h1, h2, h3⟩
 ·exact .inl h
 ·exact .inr ⟨b, es, clk, h1, hl _ _ h2, h3.mono hl⟩
theorem MpA.nil {α β : Type} {K : Ty α} {T : Ty β} {F : Mem} : MpA K T F none ([] : List (α × β)) := .inl ⟨rfl, rfl⟩
def K2 {α β : Type} (K : Ty α) (T : Ty β) (F : Mem) (b : Nat) (l : List (α × β)) (e : Option Nat × Obj) : Prop :=
 ∃ es clk, e = (some b, .map es clk) /\ MpL K T F es.toList l
theorem K2.mono {α β : Type} {K : Ty α} {T : Ty β} {F F' : Mem} {b : Nat} {l : List (α × β)} {e : Option Nat × Obj} (h : K2 K T F b l e) (hl : SG F F') : K2 K T F' b l e := by
 obtain ⟨es, clk, h1, h2⟩ := h; exact ⟨es, clk, h1, h2.mono hl⟩
def MpW {α β : Type} (K : Ty α) (T : Ty β) (F : Mem) (w : World) (ob : Option Nat) (l : List (α × β)) : Prop :=
 (ob = none /\ l = []) \/ ∃ b es clk, ob = some b /\ w.heap[b]? = some (.map es clk) /\ MpL K T F es.toList l
structure KL (P : Program) (k : TypeId) {α : Type} [DecidableEq α] (K : Ty α) : Prop where
 check : ∀ (w : World) (em : Bool) {F : Mem} {v : Value} {x : α}, K.V F v x -> (Instr.checkKey em 10000 k v).run P w = .ok () w
 equal : ∀ (w : World) {F : Mem} {v u : Value} {x y : α}, K.V F v x -> K.V F u y -> (Op.equal k v u).run P w = .ok (decide (x = y)) w
 same : ∀ {F : Mem} {v u : Value} {x : α}, K.V F v x -> K.V F u x -> v = u
 stays : ∀ (w : World) {F : Mem} {v : Value} {x : α}, K.V F v x -> (Instr.keyThatStays v v).run P w = .ok v w
 asks : ∀ (w : World) {F : Mem} {v : Value} {x : α} (es : List MapEntry), K.V F v x -> (Instr.findKey k v es).run P w = (Instr.findAsking k v es).run P w
section maps
variable {α β : Type} [DecidableEq α] {K : Ty α} {T : Ty β} {k mt vt : TypeId} {w0 : World} {F0 F : Mem} {L : List (Option Nat × Obj)}
theorem KL.find (H : KL P k K) (w : World) {kv : Value} {x : α} (hk : K.V F kv x) : ∀ (es : List MapEntry) (l : List (α × β)) (i : Nat), MpL K T F es l ->
  ((Instr.findAsking k kv es i).run P w = .ok none w /\ Fy l x = none) \/
  ∃ j e y, (Instr.findAsking k kv es i).run P w = .ok (some (i + j, e.val)) w /\ es[j]? = some e /\ Fy l x = some y /\ T.V F e.val y /\ e.key = kv
 | [], [], i, _ => .inl ⟨by simp [Instr.findAsking], rfl⟩
 | e :: es, p :: l, i, h => by
  by_cases hx : x = p.1
  ·refine .inr ⟨0, e, p.2, ?_, rfl, by simp [Fy, hx], h.2.1, H.same h.1 (hx ▸ hk)⟩
   simp [Instr.findAsking, H.equal w hk h.1, hx]
  ·rcases KL.find H w hk es l (i + 1) h.2.2 with ⟨h1, h2⟩ | ⟨j, e', y, h1, h2, h3, h4, h5⟩
   ·exact .inl ⟨by simp [Instr.findAsking, H.equal w hk h.1, hx, h1], by simp [Fy, hx, h2]⟩
   ·exact .inr ⟨j + 1, e', y, by simp [Instr.findAsking, H.equal w hk h.1, hx, h1, Nat.add_assoc, Nat.add_comm 1 j], by simpa using h2, by simp [Fy, hx, h3], h4, h5⟩
 | [], _ :: _, _, h => h.elim
 | _ :: _, [], _, h => h.elim
theorem Nb {m x : Operand} {ob : Option Nat} {l : List (α × β)} {kv : Value} {kx : α} {ok : Bool} {z : Value} {zx : β} (H : KL P k K) (hm : ρ m = .map ob) (hx : ρ x = kv) (hk : K.V F kv kx)
  (hu : P.underlying mt = some (.map k vt)) (hz : BA P vt = some z) (hzx : T.V F z zx) (hr : MpW K T F w ob l) :
  ∃ v, T.V F v (Ev l kx zx) /\ (Ao ρ (.lookup mt m x ok) ty).run P w = .ok (.value (bif ok then .tuple #[v, .bool (Hp l kx)] else v)) w := by
 have e : Ao ρ (.lookup mt m x ok) ty = (do pure (Next.value (<- Instr.lookup mt (ρ m) (ρ x) ok))) := rfl
 have hzv : (zeroValue vt).run P w = .ok z w := by
  unfold BA at hz
  split at hz
  ·rename_i i hi
   simp [zeroValue, typeInfo, hi, hz]
  ·cases hz
 rcases hr with ⟨rfl, rfl⟩ | ⟨b, es, clk, rfl, h2, h3⟩
 ·refine ⟨z, by simpa [Ev, Fy] using hzx, ?_⟩
  rw [e, hm, hx]
  cases ok <;> simp [Instr.lookup, run_underlying hu, H.check w _ hk, H.asks w [] hk, Instr.findAsking, hzv, Result.andThen, Hp, Fy]
 ·rcases KL.find (T := T) H w hk es.toList l 0 h3 with ⟨h4, h5⟩ | ⟨j, en, y, h4, h5, h6, h7, h8⟩
  ·refine ⟨z, by simpa [Ev, h5] using hzx, ?_⟩
   rw [e, hm, hx]
   cases ok <;> simp [Instr.lookup, run_underlying hu, MapKept.run_getObj_map h2, H.check w _ hk, H.asks w _ hk, h4, hzv, Result.andThen, Hp, h5]
  ·refine ⟨en.val, by simpa [Ev, h6] using h7, ?_⟩
   rw [e, hm, hx]
   cases ok <;> simp [Instr.lookup, run_underlying hu, MapKept.run_getObj_map h2, H.check w _ hk, H.asks w _ hk, h4, Result.andThen, Hp, h6]
theorem MpL.push : ∀ {es : List MapEntry} {l : List (α × β)} {kv v : Value} {kx : α} {x : β} {c : Nat}, MpL K T F es l -> K.V F kv kx -> T.V F v x -> Fy l kx = none -> MpL K T F (es ++ [⟨kv, v, c⟩]) (Eu l kx x)
 | [], [], _, _, _, _, _, _, hk, hv, _ => ⟨hk, hv, trivial⟩
 | e :: es, p :: l, kv, v, kx, x, c, h, hk, hv, hg => by
  unfold Fy at hg
  split at hg
  ·cases hg
  ·rename_i hne
   simp only [Eu, hne, if_false, List.cons_append]
   exact ⟨h.1, h.2.1, MpL.push h.2.2 hk hv hg⟩
 | [], _ :: _, _, _, _, _, _, h, _, _, _ => h.elim
 | _ :: _, [], _, _, _, _, _, h, _, _, _ => h.elim
theorem KL.put (H : KL P k K) (w : World) {kv : Value} {x : α} (hk : K.V F kv x) {v : Value} {y : β} (hv : T.V F v y) : ∀ (es : List MapEntry) (l : List (α × β)) (i : Nat), MpL K T F es l ->
  ((Instr.findAsking k kv es i).run P w = .ok none w /\ Fy l x = none) \/
  ∃ j e, (Instr.findAsking k kv es i).run P w = .ok (some (i + j, e.val)) w /\ es[j]? = some e /\ e.key = kv /\ MpL K T F (es.set j { e with key := kv, val := v }) (Eu l x y)
 | [], [], i, _ => .inl ⟨by simp [Instr.findAsking], rfl⟩
 | e :: es, p :: l, i, h => by
  by_cases hx : x = p.1
  ·refine .inr ⟨0, e, ?_, rfl, H.same h.1 (hx ▸ hk), ?_⟩
   ·simp [Instr.findAsking, H.equal w hk h.1, hx]
   ·simp only [Eu, hx, if_true, List.set_cons_zero]
    exact ⟨hx ▸ hk, hv, h.2.2⟩
  ·rcases KL.put H w hk hv es l (i + 1) h.2.2 with ⟨h1, h2⟩ | ⟨j, e', h1, h2, h4, h5⟩
   ·exact .inl ⟨by simp [Instr.findAsking, H.equal w hk h.1, hx, h1], by simp [Fy, hx, h2]⟩
   ·refine .inr ⟨j + 1, e', by simp [Instr.findAsking, H.equal w hk h.1, hx, h1, Nat.add_assoc, Nat.add_comm 1 j], by simpa using h2, h4, ?_⟩
    simp only [Eu, hx, if_false, List.set_cons_succ]
    exact ⟨h.1, h.2.1, h5⟩
 | [], _ :: _, _, h => h.elim
 | _ :: _, [], _, h => h.elim
theorem M9 {m x y : Operand} {b : Nat} {l : List (α × β)} {kv v : Value} {kx : α} {u : β} {e : Option Nat × Obj} {i : Nat} (H : KL P k K) (hm : ρ m = .map (some b)) (hx : ρ x = kv) (hy : ρ y = v) (hk : K.V F kv kx) (hv : T.V F v u)
  (hu : P.underlying mt = some (.map k vt)) (hs : HS w0 F0 w F L) (hi : L[i]? = some e) (hr : K2 K T F b l e) :
  ∃ e' w', (Instr.mapUpdate mt (ρ m) (ρ x) (ρ y)).run P w = .ok () w' /\ HS w0 F0 w' F (L.set i e') /\ K2 K T F b (Eu l kx u) e' := by
 obtain ⟨es, clk, rfl, h3⟩ := hr
 have hb := hs.ownAt hi
 have hset : ∀ es' clk', (setObj b (.map es' clk')).run P w = .ok () (Cm w b (.map es' clk')) := fun es' clk' => by
  rw [MapKept.run_setObj_map _ hb]; rfl
 rw [hm, hx, hy]
 rcases KL.put H w hk hv es.toList l 0 h3 with ⟨h1, h2⟩ | ⟨j, en, h1, h2, h4, h5⟩
 ·refine ⟨(some b, .map (es.push ⟨kv, v, clk⟩) (clk + 1)), Cm w b (.map (es.push ⟨kv, v, clk⟩) (clk + 1)), ?_, hs.put hi _, _, _, rfl, ?_⟩
  ·simp [Instr.mapUpdate, run_underlying hu, MapKept.run_getObj_map hb, H.check w _ hk, H.asks w _ hk, h1, Result.andThen, hset]
  ·rw [Array.toList_push]; exact MpL.push h3 hk hv h2
 ·have hj : es[j]? = some en := by simpa using h2
  refine ⟨(some b, .map (es.modify j (fun e' => { e' with key := kv, val := v })) clk), Cm w b (.map (es.modify j (fun e' => { e' with key := kv, val := v })) clk), ?_, hs.put hi _, _, _, rfl, ?_⟩
  ·simp [Instr.mapUpdate, run_underlying hu, MapKept.run_getObj_map hb, H.check w _ hk, H.asks w _ hk, h1, hj, h4, H.stays w hk, Result.andThen, hset]
  ·rw [Array.toList_modify, ChangeMaps.modify_eq_set _ _ _ _ h2]; exact h5
end maps
end
section
variable {P : Program} {w : World} {ρ : Operand -> Value} {ty : TypeId}
theorem Ow {x : Operand} {t : TypeId} {v : Value} (hx : ρ x = .iface t v) : (Ao ρ (.panic x) ty).run P w = .halt (.panic (.iface t v)) w := by
 have e : Ao ρ (.panic x) ty = (do pure (Next.value (<- Instr.panic (ρ x)))) := rfl
 rw [e, hx]
 simp [Instr.panic, goPanic, Sem.run]
theorem Mq {x : Operand} {t : TypeId} {v : Value} {d : TypeDesc} (hx : ρ x = v) (hu : P.underlying t = some d) (hd : (match d with | .interface _ => true | _ => false) = false) :
  (Ao ρ (.makeInterface t x) ty).run P w = .ok (.value (.iface t v)) w := by
 have e : Ao ρ (.makeInterface t x) ty = (do pure (Next.value (<- Instr.makeInterface t (ρ x)))) := rfl
 rw [e, hx]
 cases d <;> simp [Instr.makeInterface, run_underlying hu, Result.andThen] at hd ⊢
end
section maps
variable {α β : Type} [DecidableEq α] {K : Ty α} {T : Ty β} {P : Program} {k mt vt : TypeId} {w0 w : World} {F0 F Fs : Mem} {L Lc Lz : List (Option Nat × Obj)}
variable {ro : Option Nat} {n : Nat} {R : Array Oper} {Q : Exit -> Fr -> World -> Prop} {PQ : List PanicEntry -> List Deferred -> World -> Prop} {Post : Fr -> World -> Prop} {zz fuel i : Nat} {ll l' : List Bool} {zd : Bool} {rest : List Nat} {f : Fr} {ty : TypeId} {g : Option (Nat × Bool)} {dst : Option Nat}
theorem MpA.mpw {ob : Option Nat} {l : List (α × β)} (hp : ∀ b o, F b = some o -> w.heap[b]? = some o) (h : MpA K T F ob l) : MpW K T F w ob l := by
 rcases h with h | ⟨b, es, clk, h1, h2, h3⟩
 ·exact .inl h
 ·exact .inr ⟨b, es, clk, h1, hp _ _ h2, h3⟩
theorem HS.freezeMap {b i : Nat} {l : List (α × β)} {e : Option Nat × Obj} (hs : HS w0 F0 w F L) (hi : L[i]? = some e) (h : K2 K T F b l e) :
  ∃ F', HS w0 F0 w F' (L.eraseIdx i) /\ SG F F' /\ MpA K T F' (some b) l := by
 obtain ⟨es, clk, rfl, h2⟩ := h
 obtain ⟨F', h3, h4, h5⟩ := hs.freezeC hi
 exact ⟨F', h3, h4, .inr ⟨b, es, clk, rfl, h5, h2.mono h4⟩⟩
theorem FZ {ρ : Operand -> Value} {t : TypeId} : (Ao ρ (.makeMap t none) ty).run P w = .ok (.value (.map (some w.heap.size))) (w.alloc (.map #[] 0)) := by
 have e : Ao ρ (.makeMap t none) ty = (do pure (Next.value (<- Instr.makeMap t none))) := rfl
 rw [e]
 simp [Instr.makeMap, run_newObj, Result.andThen]
theorem RWP.makeMap {t : TypeId} (ho : opq R i = some (dst, .makeMap t none, ty, g)) (hg : gd R f g = true) (hs : HS w0 F0 w F L)
  (kk : ∀ b e' w', HS w0 F0 w' F (e' :: L) -> K2 K T F b ([] : List (α × β)) e' -> RWP P ro n R Q rest (AY f dst (.map (some b))) w') : RWP P ro n R Q (i :: rest) f w :=
 SD ho hg FZ (kk _ _ _ (hs.alloc _) ⟨_, _, rfl, trivial⟩)
theorem RWP.mapIns {m x y : Operand} {b : Nat} {l : List (α × β)} {kv v : Value} {kx : α} {u : β} {e : Option Nat × Obj} {q : Nat} (H : KL P k K) (ho : opq R i = some (none, .insert mt m x y, ty, g)) (hg : gd R f g = true)
  (hm : fev f m = .map (some b)) (hx : fev f x = kv) (hy : fev f y = v) (hk : K.V F kv kx) (hv : T.V F v u)
  (hu : P.underlying mt = some (.map k vt)) (hs : HS w0 F0 w F L) (hi : L[q]? = some e) (hr : K2 K T F b l e)
  (kk : ∀ e' w', HS w0 F0 w' F (L.set q e') -> K2 K T F b (Eu l kx u) e' -> RWP P ro n R Q rest f w') : RWP P ro n R Q (i :: rest) f w := by
 obtain ⟨e', w', h1, h2, h3⟩ := M9 H hm hx hy hk hv hu hs hi hr
 refine RWP.unit ho hg ?_ (kk e' w' h2 h3)
 have e : Ao (fev f) (.insert mt m x y) ty = (do Instr.mapUpdate mt (fev f m) (fev f x) (fev f y); pure .skip) := rfl
 rw [e]; simp only [Sem.run_bind, Sem.run_pure, h1, Result.andThen_ok]
end maps
section looks
variable {α β : Type} {P : Program} {k mt vt : TypeId} {w0 w : World} {F0 F Fs : Mem} {L Lc Lz : List (Option Nat × Obj)}
variable {ro : Option Nat} {n : Nat} {R : Array Oper} {Q : Exit -> Fr -> World -> Prop} {i : Nat} {rest : List Nat} {f : Fr} {ty : TypeId} {g : Option (Nat × Bool)} {dst : Option Nat}
def sub (l : List α) (lo hi : Int) : Option (List α) := if 0 <= lo /\ lo <= hi /\ hi <= l.length then some ((l.take hi.toNat).drop lo.toNat) else none
def QW (l : List α) (lo hi mx : Int) : Option (List α) := if hi <= mx /\ mx <= l.length then sub l lo hi else none
theorem HA {l r : List α} {lo hi : Int} (h : sub l lo hi = some r) : 0 <= lo /\ lo <= hi /\ hi <= l.length /\ r = (l.take hi.toNat).drop lo.toNat /\ r.length = hi.toNat - lo.toNat := by
 unfold sub at h
 split at h
 ·rename_i hc
  cases h
  refine ⟨hc.1, hc.2.1, hc.2.2, rfl, ?_⟩
  simp; omega
 ·cases h
theorem SlA.sub {T : Ty α} {a : S0} {l r : List α} {lo hi : Int} {m : Nat} (hs : SlA T F a l) (h : sub l lo hi = some r) (hm : hi <= m) :
  SlA T F (if m = lo.toNat then a else a.map (·.add (lo.toNat * T.sz))) r := by
 obtain ⟨h1, h2, h3, rfl, h5⟩ := HA h
 rcases hs with rfl | ⟨b, o, C, E, fz, rfl, hF, hE⟩
 ·exact .inl (by simp)
 ·by_cases hmi : m = lo.toNat
  ·refine .inl ?_
   apply List.eq_nil_of_length_eq_zero
   rw [h5]; omega
  ·rw [if_neg hmi]
   refine .inr ⟨b, o + lo.toNat * T.sz, C, E, fz, by simp [Addr.add_lit], hF, fun q x hx => ?_⟩
   rw [List.getElem?_drop] at hx
   rw [List.getElem?_take] at hx
   split at hx
   ·have := hE _ _ hx
    rw [show o + lo.toNat * T.sz + q * T.sz = o + (lo.toNat + q) * T.sz by rw [Nat.add_mul]; omega]
    exact this
   ·cases hx
def hiQ (ρ : Operand -> Value) (n : Nat) : Option Operand -> Int -> Prop
 | none, j => j = n
 | some y, j => ρ y = .int .i64 j
def mxQ (ρ : Operand -> Value) : Option Operand -> Int -> Prop
 | none, _ => True
 | some y, m => ρ y = .int .i64 m
def O5 (l : List α) (lo hi mx : Int) : Option Operand -> Option (List α)
 | none => sub l lo hi
 | some _ => QW l lo hi mx
theorem Ov {T : Ty α} {x : Operand} {lo hi mx : Option Operand} {t E : TypeId} {by_ c : Nat} {a : S0} {l r : List α} {il ih im : Int} {ρ : Operand -> Value} (hx : ρ x = .slice a l.length c) (ht : A1 P t = some (E, T.sz, by_)) (hut : P.underlying t = some (.slice (P.elem t)))
  (hc : LC l.length c) (hs : SlA T F a l) (hlo : Pt ρ lo = .int .i64 il) (hhi : hiQ ρ l.length hi ih) (hmx : mxQ ρ mx im) (hmh : mx.isSome = true -> hi.isSome = true)
  (h : O5 l il ih im mx = some r) :
  ∃ a' c', (Ao ρ (.slice t x lo hi mx) ty).run P w = .ok (.value (.slice a' r.length c')) w /\ LC r.length c' /\ SlA T F a' r := by
 have hsub : sub l il ih = some r /\ (mx.isSome = true -> ih <= im /\ im <= l.length) := by
  cases mx with
  | none => exact ⟨h, fun h => by cases h⟩
  | some y =>
   simp only [O5, QW] at h
   split at h
   ·rename_i hc; exact ⟨h, fun _ => hc⟩
   ·cases h
 obtain ⟨h1, h2, h3, h4, h5⟩ := HA hsub.1
 have hlc := hc.1
 have e1 : il = (il.toNat : Int) := by omega
 have e2 : ih = (ih.toNat : Int) := by omega
 rw [e1] at hlo
 cases mx with
 | none =>
  have hrun := Dw (P := P) (w := w) (ty := ty) (i := il.toNat) (j := ih.toNat) (m := c) (mx := none) (hi := hi) hx ht hut hlo (by cases hi with | none => simp only [hiQ] at hhi ⊢; omega | some y => simp only [hiQ] at hhi ⊢; rw [hhi, <- e2]) rfl (fun h => by cases h) (by omega) (by omega) (Nat.le_refl _)
  refine ⟨_, _, by rw [h5]; exact hrun, ⟨by omega, ?_⟩, hs.sub hsub.1 (by omega)⟩
  have := hc.2; omega
 | some y =>
  have h6 := hsub.2 rfl
  have e3 : im = (im.toNat : Int) := by omega
  have hrun := Dw (P := P) (w := w) (ty := ty) (i := il.toNat) (j := ih.toNat) (m := im.toNat) (mx := some y) (hi := hi) hx ht hut hlo (by cases hi with | none => simp only [hiQ] at hhi ⊢; omega | some y => simp only [hiQ] at hhi ⊢; rw [hhi, <- e2]) (by simp only [mxQ] at hmx ⊢; rw [hmx, <- e3]) hmh (by omega) (by omega) (by omega)
  refine ⟨_, _, by rw [h5]; exact hrun, ⟨by omega, ?_⟩, hs.sub hsub.1 (by omega)⟩
  have := hc.2; omega
theorem RWP.slice {T : Ty α} {x : Operand} {lo hi mx : Option Operand} {t E : TypeId} {by_ c : Nat} {a : S0} {l r : List α} {il ih im : Int} (ho : opq R i = some (dst, .slice t x lo hi mx, ty, g)) (hg : gd R f g = true)
  (hx : fev f x = .slice a l.length c) (ht : A1 P t = some (E, T.sz, by_)) (hut : P.underlying t = some (.slice (P.elem t)))
  (hc : LC l.length c) (hs : SlA T F a l) (hlo : Pt (fev f) lo = .int .i64 il) (hhi : hiQ (fev f) l.length hi ih) (hmx : mxQ (fev f) mx im) (hmh : mx.isSome = true -> hi.isSome = true)
  (h : O5 l il ih im mx = some r)
  (kk : ∀ a' c', LC r.length c' -> SlA T F a' r -> RWP P ro n R Q rest (AY f dst (.slice a' r.length c')) w) : RWP P ro n R Q (i :: rest) f w := by
 obtain ⟨a', c', h1, h2, h3⟩ := Ov (ty := ty) (w := w) hx ht hut hc hs hlo hhi hmx hmh h
 exact SD ho hg h1 (kk a' c' h2 h3)
theorem Av.take {T : Ty α} {E : TypeId} {a : S0} {cap : Nat} {l : List α} {e : Option Nat × Obj} (h : Av T E F a cap l e) (k : Nat) : Av T E F a cap (l.take k) e := by
 refine ⟨Nat.lt_of_le_of_lt (by simp; omega) h.1, ?_⟩
 rcases h.2 with ⟨h1, h2, h3, h4⟩ | ⟨b, C, h1, h2, h3, h4, h5⟩
 ·exact .inl ⟨h1, h2, by rw [h3]; simp, h4⟩
 ·refine .inr ⟨b, C, h1, h2, by simp; omega, h4, fun i x hx => h5 i x ?_⟩
  rw [List.getElem?_take] at hx
  split at hx
  ·exact hx
  ·cases hx
theorem RWP.sliceRow {T : Ty α} {x y : Operand} {t E : TypeId} {by_ c : Nat} {a : S0} {l r : List α} {ih : Int} {e : Option Nat × Obj} (ho : opq R i = some (dst, .slice t x none (some y) none, ty, g)) (hg : gd R f g = true)
  (hx : fev f x = .slice a l.length c) (ht : A1 P t = some (E, T.sz, by_)) (hut : P.underlying t = some (.slice (P.elem t)))
  (hr : Av T E F a c l e) (hhi : fev f y = .int .i64 ih) (h : sub l 0 ih = some r)
  (kk : Av T E F a c r e -> RWP P ro n R Q rest (AY f dst (.slice a r.length c)) w) : RWP P ro n R Q (i :: rest) f w := by
 obtain ⟨h1, h2, h3, h4, h5⟩ := HA h
 have hlc := hr.bound.1
 have e2 : ih = (ih.toNat : Int) := by omega
 have hrun := Dw (P := P) (w := w) (ty := ty) (ρ := fev f) (lo := none) (i := 0) (j := ih.toNat) (m := c) (mx := none) (hi := some y) hx ht hut rfl (by simp only; rw [hhi, <- e2]) rfl (fun h => by cases h) (by omega) (by omega) (Nat.le_refl _)
 have ha : (if c = 0 then a else a.map (·.add (0 * T.sz))) = a := by
  split
  ·rfl
  ·cases a with
   | none => rfl
   | some a => simp [Addr.add]
 rw [ha] at hrun
 have h5' : r.length = ih.toNat - 0 := by simpa using h5
 refine SD ho hg (v := .slice a r.length c) (by rw [h5']; exact hrun) (kk ?_)
 rw [h4]; simpa using hr.take ih.toNat
theorem OQ {f : Fr} {aos : Array Operand} {l fi k : List Value} (h : aos.toList.map (fev f) = l) : fi.toArray.toList ++ aos.toList.map (fev f) ++ k.toArray.toList = fi ++ (l ++ k) := by subst h; simp
def QT (w : World) (F : Mem) (post : Mem -> Value -> List (Option Nat × Obj) -> Prop) : Ending -> World -> Prop :=
 fun e w' => ∃ r F' L', e = .returned r /\ HS w F w' F' L' /\ post F' r L'
theorem OI {w w1 : World} {F F1 : Mem} {L' : List (Option Nat × Obj)} (hL : ∀ b o, (some b, o) ∈ L -> b < w.heap.size) (hnd : (L.filterMap (·.1)).Nodup) (hc : HS w F w1 F1 L') : ((L' ++ L).filterMap (·.1)).Nodup := by
 rw [List.filterMap_append]
 refine List.nodup_append.2 ⟨hc.nd, hnd, fun x hx y hy e => ?_⟩
 subst e
 obtain ⟨o, ho⟩ := Hq hx
 obtain ⟨o', ho'⟩ := Hq hy
 have := (hc.own _ _ ho).2.2
 have := hL _ _ ho'
 omega
theorem HS.callO {w1 : World} {F1 : Mem} {L' : List (Option Nat × Obj)} (h : HS w0 F0 w F L) (hc : HS w F w1 F1 L') : HS w0 F0 w1 F1 (L' ++ L) := by
 refine ⟨h.base, h.fix.trans hc.fix, Nat.le_trans h.size hc.size, fun b hb => ?_, fun b hb => ?_, hc.pers, fun b o hm => ?_, OI (fun b o hm => BQ (h.own b o hm).1) h.nd hc⟩
 ·rw [hc.keep b (Nat.lt_of_lt_of_le hb h.size)]; exact h.keep b hb
 ·rw [hc.f0 b (Nat.lt_of_lt_of_le hb h.size)]; exact h.f0 b hb
 ·rcases List.mem_append.1 hm with hm | hm
  ·obtain ⟨h1, h2, h3⟩ := hc.own b o hm
   exact ⟨h1, h2, Nat.le_trans h.size h3⟩
  ·obtain ⟨h1, h2, h3⟩ := h.own b o hm
   have hl := BQ h1
   exact ⟨by rw [hc.keep b hl]; exact h1, by rw [hc.f0 b hl]; exact h2, h3⟩
end looks
section
variable {α β : Type} [DecidableEq α] {K : Ty α} {T : Ty β} {P : Program} {k mt vt : TypeId} {w : World} {F : Mem} {ρ : Operand -> Value} {ty : TypeId}
theorem Nc {m x : Operand} {ob : Option Nat} {l : List (α × β)} {kv v : Value} {kx : α} {z : Value} {zx : β} (H : KL P k K) (hm : ρ m = .map ob) (hx : ρ x = kv) (hk : K.V F kv kx)
  (hu : P.underlying mt = some (.map k vt)) (hz : BA P vt = some z) (hzx : T.V F z zx) (hr : MpW K T F w ob l) (hv : ∀ {u : Value}, T.V F u (Ev l kx zx) -> u = v) :
  (Ao ρ (.lookup mt m x true) ty).run P w = .ok (.value (.tuple #[v, .bool (Hp l kx)])) w := by
 obtain ⟨u, h1, h2⟩ := Nb (ty := ty) (ok := true) H hm hx hk hu hz hzx hr
 rw [h2, hv h1]; rfl
end
theorem J6 {α : Type} {P : Program} {F : Mem} {T : Ty α} {lo hi mx : Option Operand} {t E : TypeId} {by_ c : Nat} {a : S0} {l r : List α} {il ih im : Int} (ht : A1 P t = some (E, T.sz, by_)) (hut : P.underlying t = some (.slice (P.elem t)))
  (hc : LC l.length c) (hs : SlA T F a l) (hmh : mx.isSome = true -> hi.isSome = true) (h : O5 l il ih im mx = some r) :
  ∃ a' c', LC r.length c' /\ SlA T F a' r /\ ∀ {ρ : Operand -> Value} {x : Operand} {ty : TypeId} {w : World}, ρ x = .slice a l.length c -> Pt ρ lo = .int .i64 il -> hiQ ρ l.length hi ih -> mxQ ρ mx im ->
   (Ao ρ (.slice t x lo hi mx) ty).run P w = .ok (.value (.slice a' r.length c')) w := by
 have hsub : sub l il ih = some r /\ (mx.isSome = true -> ih <= im /\ im <= l.length) := by
  cases mx with
  | none => exact ⟨h, fun h => by cases h⟩
  | some y =>
   simp only [O5, QW] at h
   split at h
   ·rename_i hc; exact ⟨h, fun _ => hc⟩
   ·cases h
 obtain ⟨h1, h2, h3, h4, h5⟩ := HA hsub.1
 have hlc := hc.1
 have e1 : il = (il.toNat : Int) := by omega
 have e2 : ih = (ih.toNat : Int) := by omega
 cases mx with
 | none =>
  refine ⟨_, c - il.toNat, ⟨by omega, ?_⟩, hs.sub hsub.1 (m := c) (by omega), fun {ρ x ty w} hx hlo hhi hmx => ?_⟩
  ·have := hc.2; omega
  ·rw [e1] at hlo
   have hrun := Dw (P := P) (w := w) (ty := ty) (i := il.toNat) (j := ih.toNat) (m := c) (mx := none) (hi := hi) hx ht hut hlo (by cases hi with | none => simp only [hiQ] at hhi ⊢; omega | some y => simp only [hiQ] at hhi ⊢; rw [hhi, <- e2]) rfl (fun h => by cases h) (by omega) (by omega) (Nat.le_refl _)
   rw [h5]; exact hrun
 | some y =>
  have h6 := hsub.2 rfl
  have e3 : im = (im.toNat : Int) := by omega
  refine ⟨_, im.toNat - il.toNat, ⟨by omega, ?_⟩, hs.sub hsub.1 (m := im.toNat) (by omega), fun {ρ x ty w} hx hlo hhi hmx => ?_⟩
  ·have := hc.2; omega
  ·rw [e1] at hlo
   have hrun := Dw (P := P) (w := w) (ty := ty) (i := il.toNat) (j := ih.toNat) (m := im.toNat) (mx := some y) (hi := hi) hx ht hut hlo (by cases hi with | none => simp only [hiQ] at hhi ⊢; omega | some y => simp only [hiQ] at hhi ⊢; rw [hhi, <- e2]) (by simp only [mxQ] at hmx ⊢; rw [hmx, <- e3]) hmh (by omega) (by omega) (by omega)
   rw [h5]; exact hrun
abbrev Own := List (Option Nat × Obj)
def YP (P : Program) (l : Nat) (args : List Value) (w : World) (S : Ending -> World -> Prop) : Prop :=
 ∃ fn tmps assign body, (Instr.yield l args.toArray).run P w = .ok (.round l fn tmps assign body) w /\ RoundIn (FW none) 0 P l fn tmps assign body w S
def YOk {X α σ : Type} (P : Program) (w0 : World) (F0 F : Mem) (l : Nat) (enc : X -> List Value) (ok : Mem -> X -> Prop) (px : X -> α) (y : σ -> α -> Option (Bool × σ)) (J : σ -> Mem -> Own -> Prop) : Prop :=
 ∀ (s : σ) (x : X) (w' : World) (F' : Mem) (L Lf : Own) (r : Bool × σ), SG F F' -> ok F' x -> J s F' Lf -> HS w0 F0 w' F' (L ++ Lf) -> y s (px x) = some r ->
  YP P l (enc x) w' (fun e w'' => ∃ F'' Lf', e = .returned (.bool r.1) /\ HS w0 F0 w'' F'' (L ++ Lf') /\ SG F' F'' /\ J r.2 F'' Lf')
def MW {σ : Type} (J : σ -> Mem -> Own -> Prop) : Prop := ∀ (s : σ) (F F' : Mem) (L : Own), J s F L -> SG F F' -> J s F' L
def MV {X α : Type} (P : Program) (gf : FuncId) (cap : List Value) (F : Mem) (B : Own) (enc : X -> List Value) (ok : Mem -> X -> Prop) (px : X -> α) (m : ∀ {σ : Type}, (σ -> α -> Option (Bool × σ)) -> σ -> Option σ) : Prop :=
 ∀ {σ : Type} (w0 w : World) (F0 F' : Mem) (l : Nat) (y : σ -> α -> Option (Bool × σ)) (J : σ -> Mem -> Own -> Prop) (s r : σ) (Lf : Own), SG F F' -> MW J -> HS w0 F0 w F' (B ++ Lf) -> J s F' Lf ->
  YOk P w0 F0 F' l enc ok px y J -> m y s = some r -> Calls P gf ((.func (.yield l) #[] #[]) :: cap).toArray w (fun e w' => ∃ F'' Lf', e = .returned (.tuple #[]) /\ HS w0 F0 w' F'' Lf' /\ SG F' F'' /\ J r F'' Lf')
section
variable {P : Program} {n : Nat} {R : Array Oper} {Q : Exit -> Fr -> World -> Prop} {w w0 : World} {F0 F : Mem} {L : Own} {f : Fr} {i : Nat} {rest : List Nat} {dst : Option Nat} {ty : TypeId} {g : Option (Nat × Bool)} {ρ : Operand -> Value}
theorem KO {f0 : Operand} {aos : Array Operand} {ats : Array TypeId} {l : Nat} {args : List Value} {x : Next} (hf : ρ f0 = .func (.yield l) #[] #[]) (ha : aos.toList.map ρ = args) (hy : (Instr.yield l args.toArray).run P w = .ok x w) :
  (Ao ρ (.call { callee := .value f0, args := aos, argTypes := ats }) ty).run P w = .ok x w := by
 subst ha
 have e : Ao ρ (.call { callee := .value f0, args := aos, argTypes := ats }) ty = (do let d <- Deferred.ofValue (ρ f0) (aos.map ρ); invoke d.target d.args) := rfl
 rw [e, hf]
 simp only [Deferred.ofValue, Sem.run_bind, Sem.run_pure, Result.andThen_ok, invoke]
 have : (#[] ++ Array.map ρ aos : Array Value) = (List.map ρ aos.toList).toArray := by apply Array.ext'; simp
 rw [this]
 exact hy
theorem RWP.yield {f0 : Operand} {aos : Array Operand} {ats : Array TypeId} {l : Nat} {args : List Value} {S : Ending -> World -> Prop} (ho : opq R i = some (dst, .call { callee := .value f0, args := aos, argTypes := ats }, ty, g)) (hg : gd R f g = true)
  (hf : fev f f0 = .func (.yield l) #[] #[]) (ha : aos.toList.map (fev f) = args) (hy : YP P l args w S)
  (k : ∀ e w', S e w' -> ∃ v, e = .returned v /\ RWP P none n R Q rest (AY f dst v) w') : RWP P none n R Q (i :: rest) f w := by
 intro hok a haf
 obtain ⟨fn, tmps, assign, body, hrun, hround⟩ := hy
 obtain ⟨o, hR, hd, hop, hty, hgd⟩ := B7 ho
 rw [wpOpsIn]
 simp only [hR]
 rw [haf.wanted R o, hgd, hg]
 simp only [if_true]
 refine ⟨Bl, ?_⟩
 have hrun' := KO (P := P) (w := w) (ty := ty) (ats := ats) hf ha hrun
 rw [E9 (GM (fun _ e => by cases e) hrun') _ _ o hop, BZ, haf.evalF, hop, hty, hrun']
 simp only [Oper.uponIn]
 refine ⟨(fun h => by cases h), hround.mono fun e w' hS => ?_⟩
 obtain ⟨v, rfl, h⟩ := k e w' hS
 simp only
 rw [hd]
 exact h hok _ (haf.put (by rw [<- hd]; exact EM hok hR) v)
theorem Pc {x y : Operand} {ats : Array TypeId} {a b : Int} (hx : ρ x = .int .i64 a) (hy : ρ y = .int .i64 b) : (Ao ρ (.call { callee := .builtin .max, args := #[x, y], argTypes := ats }) ty).run P w = .ok (.value (.int .i64 (max a b))) w := by
 have e1 : Ao ρ (.call { callee := .builtin .max, args := #[x, y], argTypes := ats }) ty = (do pure (Next.value (<- Builtin.max_ ats ty (Array.map ρ #[x, y])))) := rfl
 rw [e1, map_toArray]
 simp only [List.map_cons, List.map_nil, hx, hy]
 simp [Builtin.max_, Builtin.max2]
 try omega
theorem Pa {x y : Operand} {ats : Array TypeId} {a b : Int} (hx : ρ x = .int .i64 a) (hy : ρ y = .int .i64 b) : (Ao ρ (.call { callee := .builtin .min, args := #[x, y], argTypes := ats }) ty).run P w = .ok (.value (.int .i64 (min a b))) w := by
 have e1 : Ao ρ (.call { callee := .builtin .min, args := #[x, y], argTypes := ats }) ty = (do pure (Next.value (<- Builtin.min_ ats ty (Array.map ρ #[x, y])))) := rfl
 rw [e1, map_toArray]
 simp only [List.map_cons, List.map_nil, hx, hy]
 simp [Builtin.min_, Builtin.min2]
 try omega
theorem MI {σ : Type} {o : Option σ} {q : Bool × σ} (h : (o.map fun t => (true, t)) = some q) : q.1 = true /\ o = some q.2 := by
 cases o with
 | none => cases h
 | some x => cases h; exact ⟨rfl, rfl⟩
def Rh : Code -> Nat
 | .rangeFunc _ _ _ _ => 1 | _ => 0
def Q4 : Code -> Operand
 | .rangeFunc g _ _ _ => g | _ => .tmp 0
def rps : Code -> List Nat
 | .rangeFunc _ ps _ _ => ps.toList | _ => []
def Q6 : Code -> Code
 | .rangeFunc _ _ a _ => a | _ => .skip
def Pf : Code -> Code
 | .rangeFunc _ _ _ b => b | _ => .skip
def setps (f : Fr) : List Nat -> List Value -> Fr
 | p :: ps, v :: vs => setps (upd f p v) ps vs
 | _, _ => f
theorem Dm.setps : ∀ (ps : List Nat) (vs : List Value) (f : Fr) (t : Array Value), Dm n f { tmps := t, defers := f.d } -> ps.all (· < n) = true ->
  Dm n (setps f ps vs) { tmps := (ps.zip vs).foldl (fun t (p, v) => t.setIfInBounds p v) t, defers := f.d }
 | [], vs, f, t, h, _ => by simpa [Go.Proofs.YtaihlcdkcampbaaGreatDoor.setps] using h
 | p :: ps, [], f, t, h, _ => by simpa [Go.Proofs.YtaihlcdkcampbaaGreatDoor.setps] using h
 | p :: ps, v :: vs, f, t, h, hn => by
  simp only [List.all_cons, Bool.and_eq_true] at hn
  have h1 : Dm n (upd f p v) { tmps := t.setIfInBounds p v, defers := (upd f p v).d } := h.put (dst := some p) (by simpa using hn.1) v
  exact Dm.setps ps vs (upd f p v) (t.setIfInBounds p v) h1 hn.2
theorem Qz {A B : Own} (h : ((A ++ B).filterMap (·.1)).Nodup) : ((B ++ A).filterMap (·.1)).Nodup := by
 rw [List.filterMap_append] at h ⊢
 rw [List.nodup_append] at h ⊢
 exact ⟨h.2.1, h.1, fun a ha b hb e => h.2.2 b hb a ha e.symm⟩
theorem HS.swap {A B : Own} (h : HS w0 F0 w F (A ++ B)) : HS w0 F0 w F (B ++ A) :=
 ⟨h.base, h.fix, h.size, h.keep, h.f0, h.pers, fun b o hm => h.own b o (by simpa [or_comm] using hm), Qz h.nd⟩
theorem HS.perm {A B C : Own} (h : HS w0 F0 w F (A ++ (B ++ C))) : HS w0 F0 w F (B ++ (A ++ C)) := by
 refine ⟨h.base, h.fix, h.size, h.keep, h.f0, h.pers, fun b o hm => h.own b o ?_, ?_⟩
 ·simp only [List.mem_append] at hm ⊢
  rcases hm with h | h | h <;> simp [h]
 ·have h3 := h.nd
  simp only [List.filterMap_append] at h3 ⊢
  rw [List.nodup_append] at h3 ⊢
  obtain ⟨h4, h5, h6⟩ := h3
  rw [List.nodup_append] at h5
  obtain ⟨h7, h8, h9⟩ := h5
  refine ⟨h7, List.nodup_append.2 ⟨h4, h8, fun a ha b hb => h6 a ha b (List.mem_append_right _ hb)⟩, fun a ha b hb e => ?_⟩
  subst e
  rcases List.mem_append.1 hb with hb | hb
  ·exact h6 a hb a (List.mem_append_left _ ha) rfl
  ·exact h9 a ha a hb rfl
theorem CWP.rangeFunc2 {X α σ : Type} {enc : X -> List Value} {ok : Mem -> X -> Prop} {px : X -> α} {m : ∀ {σ : Type}, (σ -> α -> Option (Bool × σ)) -> σ -> Option σ} {c : Code} (hk : Rh c = 1) {gf : FuncId} {cap : List Value} {B : Own}
  (hg : fev f (Q4 c) = .func (.func gf) #[] cap.toArray) (hgf : Aq P gf) (hd : f.d = []) {ps : List Nat} (hps0 : rps c = ps) (hps : ps.all (· < n) = true) (hlen : ∀ x, (enc x).length = ps.length) (hs : HS w0 F0 w F (B ++ L)) (hseq : MV P gf cap F B enc ok px m)
  (y : σ -> α -> Option (Bool × σ)) (go : σ -> Bool) (J : σ -> Mem -> Own -> Prop) (hJm : MW J) {s r : σ} (hJ : J s F L) (hgo : go s = true) (hm : m y s = some r) (hy : ∀ s x q, y s x = some q -> go s = true /\ q.1 = go q.2)
  (hround : ∀ (l : Nat) (s : σ) (x : X) (w' : World) (F' : Mem) (Lf Rf : Own) (q : Bool × σ), SG F F' -> ok F' x -> J s F' Lf -> HS w0 F0 w' F' (Lf ++ Rf) -> y s (px x) = some q ->
   CWP P (some l) n (Q6 c) (fun e f1 w1 => e = .normal /\ ∃ F1 Lu, HS w0 F0 w1 F1 (Lu ++ Rf) /\ ∀ w2 Rg, HS w0 F0 w2 F1 (Lu ++ Rg) -> CWP P (some l) n (Pf c) (fun e f2 w3 => ((e = .normal /\ q.1 = true) \/ (e = .ret /\ q.1 = false)) /\ ∃ F2 Lf2, HS w0 F0 w3 F2 (Lf2 ++ Rg) /\ SG F' F2 /\ J q.2 F2 Lf2) f1 w2) (setps f ps (enc x)) w')
  (hdone : ∀ (D : Nat) (w' : World) (F' : Mem) (Lf : Own), go r = true -> HS w0 F0 w' F' ((some D, .deferred (some [])) :: Lf) -> SG F F' -> J r F' Lf -> Q .normal ⟨f.v, [{ target := .collected D, args := #[] }]⟩ w')
  (hstop : ∀ (D : Nat) (w' : World) (F' : Mem) (Lf : Own), go r = false -> HS w0 F0 w' F' ((some D, .deferred (some [])) :: Lf) -> SG F F' -> J r F' Lf -> Q .ret ⟨f.v, [{ target := .collected D, args := #[] }]⟩ w') : CWP P none n c Q f w := by
 cases c <;> simp [Rh] at hk
 rename_i g ps' assign body
 simp only [Q4, rps, Q6, Pf] at *
 subst hps0
 intro a ha
 refine wpIn_rangeFunc fun fn _ => ?_
 obtain ⟨rec, hrec⟩ : ∃ rec : LoopState -> Option Code -> Loop, rec = fun st pe => { state := st, pending := pe, fn, tmps := a.tmps, params := ps', assign, body, defers := w.heap.size } := ⟨_, rfl⟩
 obtain ⟨W1, hW1⟩ : ∃ W1, (w.alloc (.deferred (some []))).alloc (.loop (rec .ready none)) = W1 := ⟨_, rfl⟩
 have hs1 : HS w0 F0 W1 F (B ++ ([(some (w.heap.size + 1), .loop (rec .ready none)), (some w.heap.size, .deferred (some []))] ++ L)) := by
  rw [<- hW1]
  have := (hs.alloc (.deferred (some []))).alloc (.loop (rec .ready none))
  rw [show (w.alloc (.deferred (some []))).heap.size = w.heap.size + 1 by simp] at this
  exact HS.perm (A := [(some (w.heap.size + 1), .loop (rec .ready none)), (some w.heap.size, .deferred (some []))]) this
 refine ⟨w.heap.size + 1, [{ target := .collected w.heap.size, args := #[] }], W1, { target := .fn (.func gf) cap.toArray, args := #[.func (.yield (w.heap.size + 1)) #[] #[]] }, W1, gf,
  #[.func (.yield (w.heap.size + 1)) #[] #[]] ++ cap.toArray, W1, ?_, ?_, fun _ _ => trivial, ?_, (fun h => by cases h), ?_⟩
 ·rw [<- hW1, hrec]; exact run_enterLoop_outer _ _ _ _ _
 ·simp only [resolve, ha.eval, hg]
  simp [Deferred.ofValue, Act.eval]
 ·simp only [invoke]; rw [hgf]
 ·have h2 := hseq w0 W1 F0 F (w.heap.size + 1) y
   (fun s F Lq => ∃ L', Lq = [(some (w.heap.size + 1), .loop (bif go s then rec .ready none else rec .done (some .ret))), (some w.heap.size, .deferred (some []))] ++ L' /\ J s F L') s r _ (SH F)
   (fun s F F' Lq h hl => by obtain ⟨L', h1, h2⟩ := h; exact ⟨L', h1, hJm s F F' L' h2 hl⟩) hs1 ⟨L, by rw [hgo]; rfl, hJ⟩ ?_ hm
  ·have e : (#[Value.func (.yield (w.heap.size + 1)) #[] #[]] ++ cap.toArray) = ((Value.func (.yield (w.heap.size + 1)) #[] #[]) :: cap).toArray := by apply Array.ext'; simp
   rw [e]
   refine (FC h2).mono ?_
   rintro e w' ⟨F', Lf', rfl, hs', hle, L', rfl, hJ'⟩
   have hl := hs'.ownAt (k := 0) rfl
   cases hgr : go r with
   | true =>
    rw [hgr] at hl hs'
    simp only [cond_true] at hl hs'
    refine ⟨none, _, by have := run_endLoop (P := P) hl (by rw [hrec]; simp); rw [hrec] at this; exact this, ?_⟩
    have hs2 := (hs'.put (k := 0) rfl (.loop { rec .ready none with state := .exhausted })).drop 0
    refine ⟨⟨f.v, [{ target := .collected w.heap.size, args := #[] }]⟩, ⟨ha.size, ha.at_, ?_⟩, hdone w.heap.size _ F' L' hgr ?_ hle hJ'⟩
    ·simp [ha.defers, hd]
    ·rw [hrec] at hs2; exact hs2
   | false =>
    rw [hgr] at hl hs'
    simp only [cond_false] at hl hs'
    refine ⟨some .ret, _, by have := run_endLoop (P := P) hl (by rw [hrec]; simp); rw [hrec] at this; exact this, ?_⟩
    have hs2 := (hs'.put (k := 0) rfl (.loop { rec .done (some .ret) with state := .exhausted })).drop 0
    refine wpIn_ret ⟨⟨f.v, [{ target := .collected w.heap.size, args := #[] }]⟩, ⟨ha.size, ha.at_, ?_⟩, hstop w.heap.size _ F' L' hgr ?_ hle hJ'⟩
    ·simp [ha.defers, hd]
    ·rw [hrec] at hs2; exact hs2
  ·rintro s x w' F' Lq Lf q hle hok ⟨L', rfl, hJ'⟩ hs' hyq
   obtain ⟨hgs, hq⟩ := hy _ _ _ hyq
   obtain ⟨q1, q2⟩ := q
   simp only at hq
   subst hq
   rw [hgs] at hs'
   simp only [cond_true] at hs'
   have hl := hs'.swap.ownAt (k := 0) rfl
   have hyr := run_yield (P := P) (args := (enc x).toArray) hl (by rw [hrec]; simpa using hlen x)
   rw [hrec] at hyr
   refine ⟨fn, _, assign, body, hyr, roundIn_of_wpIn trivial ?_⟩
   have hsA : HS w0 F0 w' F' (L' ++ ([(some (w.heap.size + 1), .loop (rec .ready none)), (some w.heap.size, .deferred (some []))] ++ Lq)) := by
    have h3 : HS w0 F0 w' F' ([(some (w.heap.size + 1), .loop (rec .ready none)), (some w.heap.size, .deferred (some []))] ++ (L' ++ Lq)) := by
     have := hs'.swap; rwa [List.append_assoc] at this
    exact h3.perm
   have hfit : Dm n (setps f ps'.toList (enc x)) { tmps := (ps'.toList.zip (enc x)).foldl (fun t (p, v) => t.setIfInBounds p v) a.tmps, defers := f.d } :=
    Dm.setps ps'.toList (enc x) f a.tmps ⟨ha.size, ha.at_, rfl⟩ hps
   have e1 : ((ps'.zip (enc x).toArray).foldl (fun tmps (t, a) => tmps.setIfInBounds t a) a.tmps) = (ps'.toList.zip (enc x)).foldl (fun t (p, v) => t.setIfInBounds p v) a.tmps := by
    rw [<- Array.foldl_toList, Array.toList_zip]
   simp only [e1]
   rw [hd] at hfit
   refine wpIn_mono (hround (w.heap.size + 1) s x w' F' L' _ (go q2, q2) hle hok hJ' hsA hyq _ hfit) ?_
   rintro e a1 w1 ⟨f1, hf1, rfl, F1, Lu, hsU, hbody⟩
   have hsU' := hsU.swap
   have hl1 := hsU'.ownAt (k := 0) rfl
   refine ⟨_, run_beginRound hl1 (by rw [hrec]), ?_⟩
   have hb1 := hbody _ ((some (w.heap.size + 1), .loop { rec .ready none with state := .busy }) :: (some w.heap.size, .deferred (some [])) :: Lq) (HS.swap (A := (some (w.heap.size + 1), .loop { rec .ready none with state := .busy }) :: (some w.heap.size, .deferred (some [])) :: Lq) (hsU'.put (k := 0) rfl (.loop { rec .ready none with state := .busy })))
   refine wpIn_mono (hb1 _ hf1) ?_
   have fin : ∀ (st : LoopState) (pe : Option Code) (w2 : World) (F2 : Mem) (Lf2 : Own), HS w0 F0 w2 F2 (Lf2 ++ ((some (w.heap.size + 1), .loop { rec .ready none with state := .busy }) :: (some w.heap.size, .deferred (some [])) :: Lq)) ->
     HS w0 F0 (Cm w2 (w.heap.size + 1) (.loop (rec st pe))) F2 (Lq ++ ([(some (w.heap.size + 1), .loop (rec st pe)), (some w.heap.size, .deferred (some []))] ++ Lf2)) := by
    intro st pe w2 F2 Lf2 hs2
    have hs3 := hs2.swap.put (k := 0) rfl (.loop (rec st pe))
    have h4 : HS w0 F0 (Cm w2 (w.heap.size + 1) (.loop (rec st pe))) F2 ([(some (w.heap.size + 1), .loop (rec st pe)), (some w.heap.size, .deferred (some []))] ++ (Lq ++ Lf2)) := by
     have h5 : HS w0 F0 (Cm w2 (w.heap.size + 1) (.loop (rec st pe))) F2 (((some (w.heap.size + 1), .loop (rec st pe)) :: (some w.heap.size, .deferred (some [])) :: Lq) ++ Lf2) := hs3
     exact h5
    exact h4.perm
   have endr : ∀ (jump : Option Code) (w2 : World) (F2 : Mem) (Lf2 : Own), HS w0 F0 w2 F2 (Lf2 ++ ((some (w.heap.size + 1), .loop { rec .ready none with state := .busy }) :: (some w.heap.size, .deferred (some [])) :: Lq)) ->
     (Instr.endRound (w.heap.size + 1) jump).run P w2 = .ok (.bool jump.isNone) (Cm w2 (w.heap.size + 1) (.loop (rec (if jump.isNone then .ready else .done) jump))) := by
    intro jump w2 F2 Lf2 hs2
    have hl2 := hs2.swap.ownAt (k := 0) rfl
    have := run_endRound (P := P) jump hl2
    rw [hrec] at this ⊢
    exact this
   rintro e a2 w2 ⟨f2, hf2, (⟨rfl, hgo2⟩ | ⟨rfl, hgo2⟩), F2, Lf2, hs2, hle2, hJ2⟩
   ·refine ⟨_, _, endr none w2 F2 Lf2 hs2, F2, _, ?_, fin .ready none w2 F2 Lf2 hs2, hle2, Lf2, ?_, hJ2⟩
    ·simp only at hgo2 ⊢; rw [hgo2]; rfl
    ·simp only at hgo2 ⊢; rw [hgo2]; rfl
   ·refine ⟨_, _, endr (some .ret) w2 F2 Lf2 hs2, F2, _, ?_, fin .done (some .ret) w2 F2 Lf2 hs2, hle2, Lf2, ?_, hJ2⟩
    ·simp only at hgo2 ⊢; rw [hgo2]; rfl
    ·simp only at hgo2 ⊢; rw [hgo2]; rfl
theorem CWP.rangeFunc {X α σ : Type} {enc : X -> List Value} {ok : Mem -> X -> Prop} {px : X -> α} {m : ∀ {σ : Type}, (σ -> α -> Option (Bool × σ)) -> σ -> Option σ} {c : Code} (hk : Rh c = 1) {gf : FuncId} {cap : List Value} {B : Own}
  (hg : fev f (Q4 c) = .func (.func gf) #[] cap.toArray) (hgf : Aq P gf) (hd : f.d = []) {ps : List Nat} (hps0 : rps c = ps) (hps : ps.all (· < n) = true) (hlen : ∀ x, (enc x).length = ps.length) (hs : HS w0 F0 w F (B ++ L)) (hseq : MV P gf cap F B enc ok px m)
  (y : σ -> α -> Option (Bool × σ)) (J : σ -> Mem -> Own -> Prop) (hJm : MW J) {s r : σ} (hJ : J s F L) (hm : m y s = some r) (hy : ∀ s x q, y s x = some q -> q.1 = true)
  (hround : ∀ (l : Nat) (s : σ) (x : X) (w' : World) (F' : Mem) (Lf Rf : Own) (q : Bool × σ), SG F F' -> ok F' x -> J s F' Lf -> HS w0 F0 w' F' (Lf ++ Rf) -> y s (px x) = some q ->
   CWP P (some l) n (Q6 c) (fun e f1 w1 => e = .normal /\ ∃ F1 Lu, HS w0 F0 w1 F1 (Lu ++ Rf) /\ ∀ w2 Rg, HS w0 F0 w2 F1 (Lu ++ Rg) -> CWP P (some l) n (Pf c) (fun e f2 w3 => e = .normal /\ ∃ F2 Lf2, HS w0 F0 w3 F2 (Lf2 ++ Rg) /\ SG F' F2 /\ J q.2 F2 Lf2) f1 w2) (setps f ps (enc x)) w')
  (hdone : ∀ (D : Nat) (w' : World) (F' : Mem) (Lf : Own), HS w0 F0 w' F' ((some D, .deferred (some [])) :: Lf) -> SG F F' -> J r F' Lf -> Q .normal ⟨f.v, [{ target := .collected D, args := #[] }]⟩ w') : CWP P none n c Q f w := by
 refine CWP.rangeFunc2 hk hg hgf hd hps0 hps hlen hs hseq y (fun _ => true) J hJm hJ rfl hm (fun s x q h => ⟨rfl, hy s x q h⟩) ?_ (fun D w' F' Lf _ => hdone D w' F' Lf) (fun D w' F' Lf h => by cases h)
 intro l s x w' F' Lf Rf q hle hok hJ hs hyq
 refine (hround l s x w' F' Lf Rf q hle hok hJ hs hyq).mono ?_
 rintro e f1 w1 ⟨rfl, F1, Lu, hs1, h⟩
 refine ⟨rfl, F1, Lu, hs1, fun w2 Rg hs2 => (h w2 Rg hs2).mono ?_⟩
 rintro e f2 w3 ⟨rfl, h⟩
 exact ⟨.inl ⟨rfl, hy _ _ _ hyq⟩, h⟩
def HN (P : Program) (t : TypeId) : Bool := match P.underlying t with | some (.interface _) => false | some _ => true | none => false
theorem Fo {x : Operand} {t : TypeId} {v : Value} (hx : ρ x = v) (hu : HN P t = true) : (Ao ρ (.makeInterface t x) ty).run P w = .ok (.value (.iface t v)) w := by
 unfold HN at hu
 split at hu
 ·cases hu
 ·rename_i d h1 h2
  exact Mq hx h2 (by cases d <;> first | rfl | exact (h1 _ rfl).elim)
 ·cases hu
theorem RWP.callO {ro : Option Nat} {f0 : Operand} {aos : Array Operand} {ats : Array TypeId} {fid : FuncId} {first cap : Array Value} {args : List Value} {post : Mem -> Value -> Own -> Prop}
  (ho : opq R i = some (dst, .call { callee := .value f0, args := aos, argTypes := ats }, ty, g)) (hg : gd R f g = true) (hf : fev f f0 = .func (.func fid) first cap) (hok : Aq P fid)
  (ha : first.toList ++ aos.toList.map (fev f) ++ cap.toList = args) (hs : HS w0 F0 w F L) (hc : Calls P fid args.toArray w (QT w F post))
  (k : ∀ v F1 w1 L', HS w0 F0 w1 F1 (L' ++ L) -> SG F F1 -> post F1 v L' -> RWP P ro n R Q rest (AY f dst v) w1) : RWP P ro n R Q (i :: rest) f w := by
 refine SE ho hg (C8 hf hok ha) hc ?_
 rintro e w' ⟨r, F', L', rfl, h1, h2⟩
 exact k r F' w' L' (hs.callO h1) h1.le h2
def sk {α β τ : Type} (q : β ⊕ α) (f : β -> τ) (g : α -> τ) : τ := match q with
 | .inl b => f b
 | .inr a => g a
theorem BU {α β τ : Type} {x : α} {f : β -> τ} {g : α -> τ} {r : τ} (h : sk (.inr x) f g = r) : g x = r := h
theorem Bo {α β τ : Type} {x : β} {f : β -> τ} {g : α -> τ} {r : τ} (h : sk (.inl x) f g = r) : f x = r := h
def RF (P : Program) (rs : Array ResultVar) (S : Ending -> World -> Prop) : Exit -> Fr -> World -> Prop
 | .normal, f, w | .ret, f, w => (f.d = [] /\ ∃ v, (Cf rs f).run P w = .ok v w /\ S (.returned v) w) \/
   ∃ D, f.d = [{ target := .collected D, args := #[] }] /\ w.heap[D]? = some (.deferred (some [])) /\ ∃ v, (Cf rs f).run P (Cm w D (.deferred none)) = .ok v (Cm w D (.deferred none)) /\ S (.returned v) (Cm w D (.deferred none))
 | _, _, _ => False
theorem OO {fid : FuncId} {fn : Func} {c : Code} {args : List Value} {S : Ending -> World -> Prop}
  (hf : P.funcs[fid]? = some fn) (hb : fn.body = some c) (hn : fn.ntmps = n) (hsz : decide (args.length <= n) = true)
  (h : CWP P none n c (RF P fn.results S) (f0 args) w) : Calls P fid args.toArray w S := by
 have hsz' : args.length <= n := by simpa using hsz
 refine (callsIn_wide (n := 0)).1 (callsIn_of_wp_marks hf hb trivial (wpIn_mono (h _ ⟨?_, ?_, rfl⟩) ?_))
 ·simp; omega
 ·intro i
  simp only [f0]
  rw [Array.getD_eq_getD_getElem?]
  by_cases hi : i < args.length
  ·simp [Array.getElem?_append, hi]
  ·rw [Array.getElem?_append_right (by simp; omega)]
   rw [List.getD_eq_getElem?_getD, List.getElem?_eq_none (by omega)]
   simp only [List.getElem?_toArray, Array.getElem?_replicate]
   split <;> rfl
 ·have key : ∀ (a : Act) (w : World) (f : Fr), Dm n f a -> ((f.d = [] /\ ∃ v, (Cf fn.results f).run P w = .ok v w /\ S (.returned v) w) \/
   ∃ D, f.d = [{ target := .collected D, args := #[] }] /\ w.heap[D]? = some (.deferred (some [])) /\ ∃ v, (Cf fn.results f).run P (Cm w D (.deferred none)) = .ok v (Cm w D (.deferred none)) /\ S (.returned v) (Cm w D (.deferred none))) ->
   LeavesInM (FW none) 0 P fn a.tmps S a.defers .returning w := by
   rintro a w f hfit (⟨hd, v, hr, hS⟩ | ⟨D, hd, hD, v, hr, hS⟩)
   ·rw [hfit.defers, hd]
    exact ⟨v, by rw [hfit.results fn]; exact hr, hS⟩
   ·rw [hfit.defers, hd]
    exact ⟨by simp, .inl ⟨D, _, rfl, run_takeDeferred hD, v, by rw [hfit.results fn]; exact hr, hS⟩⟩
  rintro e a w ⟨f, hf, hQ⟩
  cases e with
  | normal => exact key a w f hf hQ
  | ret => exact key a w f hf hQ
  | panic ch => exact hQ.elim
  | outgrown => exact hQ.elim
  | exit id => exact hQ.elim
  | goto l => exact hQ.elim
end

inductive GC (α : Type) where
 | fin (l : List α)
 | raw (v : Value)
abbrev Si : Value := .slice none 0 0
def gc {α : Type} (k : Nat) (done : List (List α)) (v : Value) : List (GC α) := done.map .fin ++ .raw v :: List.replicate (k - done.length - 1) (.raw Si)
theorem KK {n : Int} (h1 : -9223372036854775808 <= n) (h2 : n <= 9223372036854775807) : W64 n = n := by
 unfold W64 IntKind.wrap
 simp [IntKind.signed, IntKind.bits]
 omega
abbrev tt : Bool := true
abbrev ff : Bool := false
abbrev sb (b : Nat) (C : Array Value) (t : TypeId) : Option Nat × Obj := (some b, .cells C t (0, 0))
abbrev oc (C : Array Value) (t : TypeId) : Obj := .cells C t (0, 0)
abbrev vi (x : Int) : Value := .int .i64 x
abbrev pt (b o : Nat) : Value := .pointer (some ⟨b, o, none⟩)
def Pk (L : List (Option Nat × Obj)) (is : List Nat) : List (Option Nat × Obj) := (is.filterMap fun i => L[i]?) ++ L.drop is.length
theorem MB {α : Type} (L : List α) : ∀ m, (List.range m).filterMap (fun i => L[i]?) = L.take m
 | 0 => rfl
 | m + 1 => by
  rw [List.range_succ, List.filterMap_append, MB L m, List.take_add_one]
  congr 1
theorem HS.pm {w0 w : World} {F0 F : Mem} {L : List (Option Nat × Obj)} (h : HS w0 F0 w F L) (is : List Nat) (hp : decide (is.Perm (List.range is.length)) = true := by decide) : HS w0 F0 w F (Pk L is) := by
 have hP : (Pk L is).Perm L := by
  unfold Pk
  have h1 := ((of_decide_eq_true hp).filterMap (fun i => L[i]?)).append_right (L.drop is.length)
  rw [MB] at h1
  rw [List.take_append_drop] at h1
  exact h1
 exact ⟨h.base, h.fix, h.size, h.keep, h.f0, h.pers, fun b o hm => h.own b o (hP.mem_iff.1 hm), (hP.filterMap _).nodup_iff.2 h.nd⟩
section
variable {P : Program} {w : World} {ρ : Operand -> Value} {ty : TypeId}
theorem mv (a : Nat) (v : Value) (h : ρ (.tmp a) = v := by rfl) : (Ao ρ (.move (.tmp a)) ty).run P w = .ok (.value v) w := AL h
theorem ld (t : TypeId) (a b o : Nat) (g : Bool) (s : Nat) (v : Value) {C : Array Value} {E : TypeId} {fz : Nat × Nat} (hb : w.heap[b]? = some (.cells C E fz)) (hx : ρ (.tmp a) = .pointer (some ⟨b, o, none⟩) := by rfl)
  (ht : Dr P t = some (g, s) := by kernel_rfl) (hl : (As C o s).length = s := by rfl) (hgs : (g || s == 1) = true := by rfl) (hv : mkV g (As C o s) = v := by rfl) :
  (Ao ρ (.load t (.tmp a)) ty).run P w = .ok (.value v) w := B6 hx ht hb hl hgs hv
theorem lx (t : TypeId) (a j kk : Nat) (g : Bool) (s : Nat) (v : Value) {b o : Nat} {C : Array Value} {E : TypeId} {fz : Nat × Nat} {cs : List Value} (hb : w.heap[b]? = some (.cells C E fz)) (hc : As C o kk = cs)
  (hx : ρ (.tmp a) = .pointer (some ⟨b, o + j, none⟩) := by rfl)
  (ht : Dr P t = some (g, s) := by kernel_rfl) (hj : decide (j + s <= kk) = true := by decide) (hl : ((cs.drop j).take s).length = s /\ True := by exact ⟨rfl, trivial⟩) (hgs : (g || s == 1) = true := by rfl) (hv : mkV g ((cs.drop j).take s) = v := by rfl) :
  (Ao ρ (.load t (.tmp a)) ty).run P w = .ok (.value v) w := IL hx ht hb hc hj hl hgs hv
theorem fa (s : TypeId) (a i o k b o0 o1 : Nat) (hx : ρ (.tmp a) = .pointer (some ⟨b, o0, none⟩) := by rfl) (hf : Ip P s i = some (o, k) := by kernel_rfl) (hk : decide (k = 0) = false := by rfl) (ho : o0 + o = o1 := by rfl) :
  (Ao ρ (.fieldAddr s (.tmp a) i) ty).run P w = .ok (.value (.pointer (some ⟨b, o1, none⟩))) w := BX hx hf hk ho
theorem p1 (c : Nat) (a b : Operand) (v : Value) {t : Bool} (ht : t = true) (hc : ρ (.tmp c) = .bool t := by rfl) (h : ρ a = v := by rfl) : (Ao ρ (.pick (.tmp c) a b) ty).run P w = .ok (.value v) w := IJ hc ht h
theorem p0 (c : Nat) (a b : Operand) (v : Value) {t : Bool} (ht : t = false) (hc : ρ (.tmp c) = .bool t := by rfl) (h : ρ b = v := by rfl) : (Ao ρ (.pick (.tmp c) a b) ty).run P w = .ok (.value v) w := IK hc ht h
end
section
variable {P : Program} {ro : Option Nat} {n : Nat} {R : Array Oper} {Q : Exit -> Fr -> World -> Prop} {i : Nat} {rest : List Nat} {f : Fr} {w w' : World}
theorem V (d : Nat) (ty : TypeId) {op : Op} {v : Value} (hy : (Ao (fev f) op ty).run P w = .ok (.value v) w') (k : RWP P ro n R Q rest (AY f (some d) v) w') (ho : opq R i = some (some d, op, ty, none) := by kernel_rfl) :
  RWP P ro n R Q (i :: rest) f w := SD ho rfl hy k
theorem Vg (d : Nat) (ty : TypeId) (j : Nat) (b : Bool) (q : Nat) {c : Bool} (hc : c = b) {op : Op} {v : Value} (hy : (Ao (fev f) op ty).run P w = .ok (.value v) w') (k : RWP P ro n R Q rest (AY f (some d) v) w') (ho : opq R i = some (some d, op, ty, some (j, b)) := by kernel_rfl)
  (hj : FA R j = some q := by kernel_rfl) (hf : f q = .bool c := by rfl) : RWP P ro n R Q (i :: rest) f w := SD ho (Nz hj hf hc) hy k
variable {Q' : Exit -> Fr -> World -> Prop} {c : Code}
theorem Sq (h : CWP P ro n (cs1 c) (E8 (CWP P ro n (cs2 c) Q) Q) f w) (hk : kin c = 3 := by kernel_rfl) : CWP P ro n c Q f w := CWP.seq hk h
theorem Rg (l : List Nat) (h : RWP P ro n (DR c) Q l f w) (hk : kin c = 1 := by kernel_rfl) (hok : okR n (DR c) = true := by kernel_rfl) (hl : List.range (DR c).size = l := by kernel_rfl) : CWP P ro n c Q f w := CWP.region hk hok hl h
theorem Nt {K : Fr -> World -> Prop} (h : K f w) : RWP P ro n R (E8 K Q) [] f w := SC h
theorem Bk (h : CWP P ro n (cbd c) (E6 (cid c) Q) f w) (hk : kin c = 5 := by kernel_rfl) : CWP P ro n c Q f w := CWP.block hk h
theorem Sc (h : Q .normal f w) (hk : kin c = 0 := by kernel_rfl) : CWP P ro n c Q f w := CWP.skip hk h
theorem Nss (h : CWP P ro n (cs1 c) (E8 (CWP P ro n (cs2 c) Q) Q) f w) (hk : kin c = 3 := by kernel_rfl) : RWP P ro n R (E8 (CWP P ro n c Q) Q') [] f w := SC (CWP.seq hk h)
end
section
variable {P : Program} {n : Nat} {R : Array Oper} {f : Fr} {w : World}
variable {PQ : List PanicEntry -> List Deferred -> World -> Prop} {Post : Fr -> World -> Prop} {z : Nat} {Sw : Bool -> World -> Prop} {fuel : Nat} {l : List Bool} {op : Op}
theorem Dt (i d : Nat) (ty : TypeId) (v : Value) (hy : ∀ w', Sw true w' -> (Ao (fev f) op ty).run P w' = .ok (.value v) w') (k : DWP P n R PQ Post z Sw fuel (l.set i true) (AY f (some d) v) w)
  (ho : opq R i = some (some d, op, ty, none) := by kernel_rfl) (hh : (Region.free .any R l.toArray i && ((Region.ready .any R l.toArray).contains i && (K3 R z i && l.toArray.getD z true))) = true := by kernel_rfl) :
  DWP P n R PQ Post z Sw (fuel + 1) l f w := by
 simp only [Bool.and_eq_true] at hh
 exact SR ho hh.1 hh.2.1 hh.2.2.1 hh.2.2.2 rfl hy rfl k
theorem Dtl (i d : Nat) (ty : TypeId) (v : Value) (l' : List Bool) (hy : ∀ w', Sw true w' -> (Ao (fev f) op ty).run P w' = .ok (.value v) w') (k : DWP P n R PQ Post z Sw fuel l' (AY f (some d) v) w)
  (ho : opq R i = some (some d, op, ty, none) := by kernel_rfl) (hh : (Region.free .any R l.toArray i && ((Region.ready .any R l.toArray).contains i && (K3 R z i && l.toArray.getD z true))) = true := by kernel_rfl) (hl : l.set i true = l' := by kernel_rfl) :
  DWP P n R PQ Post z Sw (fuel + 1) l f w := by subst hl; exact Dt i d ty v hy k ho hh
end
theorem CI {i : Nat} (h : i < 9223372036854775807) : W64 ((i : Int) + 1) = ((i + 1 : Nat) : Int) := by
 rw [KK (by omega) (by omega)]; simp
theorem Om {i : Nat} (h : i < 9223372036854775808) : W64 (i : Int) = (i : Int) := KK (by omega) (by omega)
theorem DK {α : Type} {l : List α} {i : Nat} (h : i < l.length) : idx l (i : Int) = some l[i] := by
 simp [idx, h]
theorem Pz {α : Type} (l : List α) (i : Nat) : idx l (i : Int) = l[i]? := by simp [idx]
theorem HO {i n : Nat} (h : i < n) : decide ((i : Int) < (n : Int)) = true := by simpa using h
theorem Jx {n : Nat} : decide ((n : Int) < (n : Int)) = false := by simp
section
variable {ρ σ : Type}
theorem Ik {body : σ -> Option (Bn ρ σ)} (n : Nat) (I : Nat -> σ -> Prop) (R : Bn ρ σ -> Prop)
  (h : ∀ i s, i <= n -> I i s -> (∃ s', body s = some (.next s') /\ I (i + 1) s' /\ i < n) \/ (∃ o, body s = some o /\ (∀ s', o ≠ .next s') /\ R o)) :
  ∀ (k N : Nat) (i : Nat) (s : σ), i + k = n -> I i s -> k < N -> ∃ o, AX body N s = some o /\ R o
 | k, 0, _, _, _, _, hN => absurd hN (Nat.not_lt_zero _)
 | k, N + 1, i, s, hk, hI, hN => by
  rw [AX]
  rcases h i s (by omega) hI with ⟨s', h1, h2, h3⟩ | ⟨o, h1, h2, h3⟩
  ·rw [h1]
   obtain ⟨k', rfl⟩ : ∃ k', k = k' + 1 := ⟨k - 1, by omega⟩
   exact Ik n I R h k' N (i + 1) s' (by omega) h2 (by omega)
  ·rw [h1]
   cases o with
   | next s' => exact absurd rfl (h2 s')
   | done s' => exact ⟨_, rfl, h3⟩
   | ret r => exact ⟨_, rfl, h3⟩
end
theorem IE {α : Type} {l m : List α} (h : l.length + m.length < 4294967296) : C4 l m = some (l ++ m) := by simp [C4, h]
def D2 (a b : SZ) : Option SZ := if a.length + b.length <= 9223372036854775807 then some (a ++ b) else none
def ET (a : SZ) (i : Int) : Option Int := if 0 <= i then (a[i.toNat]?).map fun b => (b.toNat : Int) else none
def FV (a : SZ) (lo hi : Int) : Option SZ := if 0 <= lo /\ lo <= hi /\ hi <= (a.length : Int) then some ((a.drop lo.toNat).take (hi.toNat - lo.toNat)) else none
def HC (a b : SZ) : Bool := Op.bytesLess a b
def ES : Ty SZ := ⟨1, false, fun _ cs x => cs = [.string ⟨x.toArray⟩], fun h => by subst h; rfl, fun _ h => h, rfl⟩
def tU8 : Ty Int := ⟨1, false, fun _ cs x => cs = [.int .u8 x], fun h => by subst h; rfl, fun _ h => h, rfl⟩
section
variable {P : Program} {w : World} {ρ : Operand -> Value} {ty : TypeId} {x y : Operand} {a b : SZ} {t t' : TypeId}
theorem Bq {v : SZ} (hx : ρ x = .string ⟨a.toArray⟩) (hy : ρ y = .string ⟨b.toArray⟩) (h : D2 a b = some v) :
  (Ao ρ (.binOp .add t x y t') ty).run P w = .ok (.value (.string ⟨v.toArray⟩)) w := by
 unfold D2 at h
 split at h
 ·rename_i hl
  cases h
  have e : Ao ρ (.binOp .add t x y t') ty = (do pure (Next.value (<- (do eqGuard .add t x y (ρ x) (ρ y); binOp .add t (ρ x) (ρ y))))) := rfl
  have e2 : binOp .add t (.string ⟨a.toArray⟩) (.string ⟨b.toArray⟩) = Op.stringOp .add ⟨a.toArray⟩ ⟨b.toArray⟩ := rfl
  have e3 : eqGuard .add t x y (.string ⟨a.toArray⟩) (.string ⟨b.toArray⟩) = pure () := rfl
  rw [e, hx, hy, e2, e3]
  simp only [Sem.run_bind, Sem.run_pure, Result.andThen_ok]
  rw [run_string_add_sum w _ _ (by simpa [ByteArray.size] using hl), ByteArray.mk_append_mk]
  rfl
 ·cases h
theorem Mp {op : BinOp} {v : Bool} (hx : ρ x = .string ⟨a.toArray⟩) (hy : ρ y = .string ⟨b.toArray⟩)
  (h : (match op with | .eql => some (a == b) | .neq => some (a != b) | .lss => some (HC a b) | .leq => some (HC a b || a == b) | .gtr => some !(HC a b || a == b) | .geq => some !(HC a b) | _ => none) = some v) :
  (Ao ρ (.binOp op t x y t') ty).run P w = .ok (.value (.bool v)) w := by
 have e : Ao ρ (.binOp op t x y t') ty = (do pure (Next.value (<- (do eqGuard op t x y (ρ x) (ρ y); binOp op t (ρ x) (ρ y))))) := rfl
 have e3 : eqGuard op t x y (.string ⟨a.toArray⟩) (.string ⟨b.toArray⟩) = pure () := by cases op <;> rfl
 rw [e, hx, hy, e3]
 simp only [Sem.run_bind, Sem.run_pure, Result.andThen_ok]
 cases op <;> simp only [Option.some.injEq, reduceCtorEq] at h <;> subst h <;> simp [binOp, Op.stringOp, HC, bne]
theorem Mo {ats : Array TypeId} (hx : ρ x = .string ⟨a.toArray⟩) (ht : ats[0]? = some t) (hu : P.underlying t = some .string) :
  (Ao ρ (.call { callee := .builtin .len, args := #[x], argTypes := ats }) ty).run P w = .ok (.value (.int .i64 (a.length : Int))) w := by
 have e1 : Ao ρ (.call { callee := .builtin .len, args := #[x], argTypes := ats }) ty = (do pure (Next.value (<- Builtin.len_ ats ty (Array.map ρ #[x])))) := rfl
 rw [e1, map_toArray]
 simp only [List.map_cons, List.map_nil, hx]
 simp only [Builtin.len_, ht, Sem.run_bind, List.getElem?_toArray, List.getElem?_cons_zero, run_underlying hu, Result.andThen_ok, Sem.run_pure, goInt, ByteArray.size_mk', List.size_toArray]
theorem HG {k : IntKind} {i v : Int} (hx : ρ x = .string ⟨a.toArray⟩) (hy : ρ y = .int k i) (hu : P.underlying t = some .string) (h : ET a i = some v) :
  (Ao ρ (.index t x y) ty).run P w = .ok (.value (.int .u8 v)) w := by
 unfold ET at h
 split at h
 ·rename_i h0
  cases hq : a[i.toNat]? with
  | none => rw [hq] at h; cases h
  | some c =>
   rw [hq] at h; cases h
   have hlt : i.toNat < a.length := by
    rcases Nat.lt_or_ge i.toNat a.length with h' | h'
    ·exact h'
    ·rw [List.getElem?_eq_none h'] at hq; cases hq
   have e : Ao ρ (.index t x y) ty = (do pure (Next.value (<- Instr.index t (ρ x) (ρ y)))) := rfl
   rw [e, hx, hy]
   have hi : 0 <= i /\ i < ((⟨a.toArray⟩ : ByteArray).size : Int) := ⟨h0, by simp only [ByteArray.size_mk', List.size_toArray]; omega⟩
   rw [Sem.run_bind, run_index_string w t _ k i hu, dif_pos hi]
   simp only [Result.andThen_ok, Sem.run_pure]
   have hc : a[i.toNat] = c := by
    rw [List.getElem?_eq_getElem hlt] at hq; exact Option.some.inj hq
   have : (⟨a.toArray⟩ : ByteArray)[i.toNat]'(by simp only [ByteArray.size_mk', List.size_toArray]; omega) = c := hc
   rw [this]
 ·cases h
def O7 (ρ : Operand -> Value) : Option Operand -> Value
 | some x => ρ x
 | none => .int .i64 0
def QL (ρ : Operand -> Value) (n : Nat) : Option Operand -> Value
 | some x => ρ x
 | none => .int .i64 (n : Int)
theorem HF {lo hi : Option Operand} {il ih : Int} {v : SZ} (hx : ρ x = .string ⟨a.toArray⟩) (hu : P.underlying t = some .string) (hlo : O7 ρ lo = .int .i64 il) (hhi : QL ρ a.length hi = .int .i64 ih)
  (h : FV a il ih = some v) : (Ao ρ (.slice t x lo hi none) ty).run P w = .ok (.value (.string ⟨v.toArray⟩)) w := by
 unfold FV at h
 split at h
 ·rename_i hb
  cases h
  obtain ⟨h0, h1, h2⟩ := hb
  have hih : (0:Int) <= ih /\ ih <= ((a.length : Nat) : Int) := ⟨by omega, h2⟩
  have hil : (0:Int) <= il /\ il <= ((ih.toNat : Nat) : Int) := ⟨h0, by omega⟩
  have e : Ao ρ (.slice t x lo hi none) ty = (do pure (Next.value (<- Instr.sliceAt t (ρ x) (lo.map ρ) (hi.map ρ) none))) := rfl
  have eb : (Instr.sliceBounds false a.length a.length (lo.map ρ) (hi.map ρ) none).run P w = .ok (il.toNat, ih.toNat, a.length) w := by
   unfold Instr.sliceBounds
   cases hi with
   | none =>
    have e1 : ((a.length : Nat) : Int) = ih := by simpa [QL] using hhi
    have e2 : ih.toNat = a.length := by omega
    cases lo with
    | none =>
     have e3 : (0 : Int) = il := by simpa [O7] using hlo
     subst e3
     simp [Result.andThen, e2]
    | some z =>
     have e3 : ρ z = .int .i64 il := hlo
     rw [e2] at hil ⊢
     simp [Result.andThen, Instr.sliceBound, asIntOf, e3, hil]
   | some q =>
    have e1 : ρ q = .int .i64 ih := hhi
    cases lo with
    | none =>
     have e3 : (0 : Int) = il := by simpa [O7] using hlo
     subst e3
     simp [Result.andThen, Instr.sliceBound, asIntOf, e1, hih]
    | some z =>
     have e3 : ρ z = .int .i64 il := hlo
     have hm : il <= max ih 0 := by omega
     simp [Result.andThen, Instr.sliceBound, asIntOf, e1, e3, hih, hil, hm]
  have hsz : (⟨a.toArray⟩ : ByteArray).size = a.length := by simp [ByteArray.size_mk']
  rw [e, hx]
  simp only [Instr.sliceAt, Instr.slice, Sem.run_bind, run_underlying hu, Result.andThen_ok, hsz, Option.isSome_none, Bool.false_eq_true, if_false, eb, Sem.run_pure]
  congr 3
  apply ByteArray.ext
  apply Array.ext'
  simp [ByteArray.data_extract, List.drop_take]
 ·cases h
end
section
open Go.ChangeShapes Go.WideShapes Go.ChangeAt Go.RowKit
def Fe (W : World) : Mem := fun b => W.heap[b]?
def SzW {H : Type} (P : Program) (t : TypeId) (d : DataW H) : Prop := (d.weights P t).all (· <= reachBytes) = true
theorem SzW.each {H : Type} {P : Program} {ts : List TypeId} {ds : List (DataW H)} (h : (DataW.weightsEach P ts ds).all (· <= reachBytes) = true) {j : Nat} {t : TypeId} {d : DataW H} (ht : ts[j]? = some t) (hd : ds[j]? = some d) : SzW P t d :=
 List.all_eq_true.2 fun n hn => List.all_eq_true.1 h n (DataW.weights_mem_each ht hd n hn)
structure KM (P : Program) (t : TypeId) {α : Type} (T : Ty α) (Q : α -> Prop) : Prop where
 op : ∀ {H : Type} {enc : TypeId × Value -> H} {W : World} {fuel : Nat} {cs : List Value} {x : DataW H × List MemPlace}, DataW.trod enc P W 0 (fun _ => true) true fuel t cs = some x -> SzW P t x.1 -> ∃ a, T.R (Fe W) cs a /\ Q a
 sz : P.cellsOf t = T.sz
def rI (x : Int) : Prop := -9223372036854775808 <= x /\ x <= 9223372036854775807
theorem Lk {P : Program} {t : TypeId} (hu : P.underlying t = some (.int .i64)) (hs : P.cellsOf t = 1) : KM P t Ci rI :=
 ⟨fun h _ => by
  obtain ⟨n, h1, _, h3⟩ := DataW.trod_int hu h
  refine ⟨n, h1, ?_⟩
  simp only [Lit.wf, Bool.and_eq_true, decide_eq_true_eq] at h3
  have e1 : IntKind.min .i64 = -9223372036854775808 := by decide
  have e2 : IntKind.max .i64 = 9223372036854775807 := by decide
  rw [e1, e2] at h3
  exact h3, hs⟩
theorem Jh {H : Type} {P : Program} {e : TypeId} : ∀ {ds : List (DataW H)} {d : DataW H}, d ∈ ds -> ∀ n, n ∈ d.weights P e -> n ∈ DataW.weightsAll P e ds
 | x :: ds, d, hd, n, hn => by
  simp only [DataW.weightsAll, List.mem_append]
  rcases List.mem_cons.1 hd with rfl | hd
  ·exact .inl hn
  ·exact .inr (Jh hd n hn)
theorem Kc {α : Type} {f : Nat -> Option α} {n : Nat} {l : List α} (h : (List.range n).mapM f = some l) : l.length = n /\ ∀ i, i < n -> f i = l[i]? := by
 refine ⟨by simpa using mapM_some_length h, fun i hi => ?_⟩
 exact mapM_some_get h i i (by simp [hi])
theorem Jd (a : Addr) (n : Nat) : (a.add n).block = a.block := by unfold Addr.add; split <;> rfl
theorem Ol (a : Addr) (n : Nat) : (a.add n).off = a.off + n := by unfold Addr.add; split <;> simp [*]
theorem P1 {a : Addr} (h : a.spot = none) (n : Nat) : (a.add n).spot = none := by unfold Addr.add; split <;> first | exact h | rfl
theorem MP {w : World} {a : Addr} {n : Nat} {cs : List Value} (h : w.cells? 0 a n = some cs) (hn : 0 < n) :
  ∃ C E fz, a.spot = none /\ w.heap[a.block]? = some (.cells C E fz) /\ As C a.off n = cs := by
 unfold World.cells? at h
 simp only [Nat.zero_le, if_true] at h
 obtain ⟨hl, hg⟩ := Kc h
 have h0 := hg 0 hn
 have hlt : 0 < cs.length := by omega
 rw [List.getElem?_eq_getElem hlt] at h0
 unfold World.cell? at h0
 split at h0
 ·rename_i C E fz hb
  split at h0
  ·cases h0
  ·rename_i hsp
   have e0 : a.add 0 = a := by unfold Addr.add; simp
   rw [e0] at hsp hb
   have hsp' : a.spot = none := by
    cases hs : a.spot with
    | none => rfl
    | some x => simp [hs] at hsp
   have hb' : w.heap[a.block]? = some (.cells C E fz) := hb
   refine ⟨C, E, fz, hsp', hb', ?_⟩
   unfold As
   apply List.ext_getElem?
   intro i
   by_cases hi : i < n
   ·have := hg i hi
    unfold World.cell? at this
    rw [Jd, hb'] at this
    simp only [Ol, P1 hsp', Option.isSome_none, Bool.false_eq_true, if_false] at this
    rw [<- this]
    simp [List.getElem?_take, hi, List.getElem?_drop]
   ·rw [List.getElem?_take, if_neg hi, List.getElem?_eq_none (by omega)]
 ·cases h0
theorem Jq {α : Type} {R : Nat -> α -> Prop} : ∀ {n : Nat}, (∀ i, i < n -> ∃ x, R i x) -> ∃ l : List α, l.length = n /\ ∀ i x, l[i]? = some x -> R i x
 | 0, _ => ⟨[], rfl, fun i x h => by simp at h⟩
 | n + 1, h => by
  obtain ⟨l, h1, h2⟩ := Jq (n := n) (fun i hi => h i (by omega))
  obtain ⟨x, hx⟩ := h n (by omega)
  refine ⟨l ++ [x], by simp [h1], fun i y hy => ?_⟩
  rcases Nat.lt_or_ge i l.length with hlt | hge
  ·rw [List.getElem?_append_left hlt] at hy; exact h2 i y hy
  ·rw [List.getElem?_append_right hge] at hy
   have : i - l.length = 0 := by
    rcases Nat.eq_zero_or_pos (i - l.length) with h | h
    ·exact h
    ·rw [List.getElem?_eq_none (by simp; omega)] at hy; cases hy
   rw [this] at hy
   simp at hy
   subst hy
   have : i = n := by omega
   rw [this]; exact hx
theorem M3 {H : Type} {enc : TypeId × Value -> H} {P : Program} {W : World} {fuel : Nat} {t : TypeId} {cs : List Value} {x : DataW H × List MemPlace} {fs : Array Field} (hu : P.underlying t = some (.struct fs))
  (h : DataW.trod enc P W 0 (fun _ => true) true fuel t cs = some x) : cs.length = P.cellsOf t /\ ∀ (i : Nat) (f : Field), fs[i]? = some f -> ∃ n y, DataW.trod enc P W 0 (fun _ => true) true n f.type ((cs.drop f.offset).take (P.cellsOf f.type)) = some y /\ (SzW P t x.1 -> SzW P f.type y.1) := by
 obtain ⟨xs, n, rfl, rfl, hlen, hxl, hf⟩ := DataW.trod_struct hu h
 refine ⟨hlen, fun i f hi => ?_⟩
 have hlt : i < xs.length := by
  rw [hxl]
  rcases Nat.lt_or_ge i fs.size with h' | h'
  ·exact h'
  ·rw [Array.getElem?_eq_none h'] at hi; cases hi
 have := hf i f hi
 rw [List.getElem?_eq_getElem hlt] at this
 refine ⟨n, _, this, fun hw => ?_⟩
 unfold SzW at hw
 simp only [DataW.weights, hu] at hw
 refine SzW.each hw (j := i) ?_ ?_
 ·rw [List.getElem?_map, Array.getElem?_toList, hi]; rfl
 ·rw [List.getElem?_map, List.getElem?_eq_getElem hlt]; rfl
def fieldAt (P : Program) (t : TypeId) (i : Nat) : Option (TypeId × Nat) := match P.underlying t with
 | some (.struct fs) => (fs[i]?).map fun f => (f.type, f.offset)
 | _ => none
theorem M7 {P : Program} {t : TypeId} {k : Nat} (hs : (match P.underlying t with | some (.struct _) => P.cellsOf t | _ => 0) = k) (hk : 0 < k)
  {H : Type} {enc : TypeId × Value -> H} {W : World} {fuel : Nat} {cs : List Value} {x : DataW H × List MemPlace}
  (h : DataW.trod enc P W 0 (fun _ => true) true fuel t cs = some x) : cs.length = k := by
 cases hu : P.underlying t with
 | none => simp only [hu] at hs; omega
 | some q =>
  simp only [hu] at hs
  cases q <;> simp only at hs <;> first | omega | skip
  rw [<- hs]; exact (M3 hu h).1
theorem KM.agg {P : Program} {t : TypeId} {α : Type} {T : Ty α} {Q : α -> Prop} (o : KM P t T Q) (hs : (match P.underlying t with | some (.struct _) => true | _ => false) = true)
  {H : Type} {enc : TypeId × Value -> H} {W : World} {r : Reach} {b0 : Nat} {v : Value} {d : DataW H} {ps : List MemPlace} (hv : Value.okWide P W r b0 t v) (h : DataW.Trod enc P W 0 (fun _ => true) true t v d ps) (hw : SzW P t d) :
  ∃ cs a, v = .agg cs /\ T.R (Fe W) cs.toList a /\ Q a := by
 cases hu : P.underlying t with
 | none => simp [hu] at hs
 | some q =>
  cases q <;> simp [hu] at hs
  obtain ⟨cs, rfl, _⟩ := okWide_struct hu hv
  obtain ⟨n, hn⟩ := h
  obtain ⟨a, h1, h2⟩ := o.op hn hw
  exact ⟨cs, a, rfl, h1, h2⟩
theorem KM.one {P : Program} {t : TypeId} {α : Type} {T : Ty α} {Q : α -> Prop} (o : KM P t T Q) (hs : (match P.underlying t with | some (.int _) => true | some .bool => true | some .string => true | some (.slice _) => true | _ => false) = true)
  {H : Type} {enc : TypeId × Value -> H} {W : World} {r : Reach} {b0 : Nat} {v : Value} {d : DataW H} {ps : List MemPlace} (hv : Value.okWide P W r b0 t v) (h : DataW.Trod enc P W 0 (fun _ => true) true t v d ps) (hw : SzW P t d) :
  ∃ a, T.R (Fe W) [v] a /\ Q a := by
 obtain ⟨n, hn⟩ := h
 cases hu : P.underlying t with
 | none => simp [hu] at hs
 | some q =>
  cases q <;> simp [hu] at hs
  ·obtain ⟨_, rfl⟩ := okWide_bool hu hv; exact o.op hn hw
  ·obtain ⟨_, rfl⟩ := okWide_int hu hv; exact o.op hn hw
  ·obtain ⟨_, rfl⟩ := okWide_string hu hv; exact o.op hn hw
  ·obtain ⟨_, _, _, rfl⟩ := okWide_slice hu hv; exact o.op hn hw
theorem G5 {P : Program} (hl : laidOutB P = true) {H : Type} {enc : TypeId × Value -> H} {W W' : World} {sp : Nat -> Bool} : ∀ {ts : List TypeId} {vs : List Value} {ds : List (DataW H)} {ps : List MemPlace},
  (∀ t, t ∈ ts -> P.readableRec t = true /\ t < P.types.size) -> DataW.TrodAll enc P W 0 (fun _ => true) true ts vs ds ps -> (∀ p, p ∈ ps -> W.sameAt W' p) -> (∀ p, p ∈ ps -> sp p.block = true) -> DataW.TrodAll enc P W' 0 sp true ts vs ds ps
 | [], [], [], _, _, h, _, _ => h
 | t :: ts, v :: vs, d :: ds, _, hT, ⟨p, q, h1, h2, e⟩, h3, h4 => by
  subst e
  obtain ⟨r1, r2⟩ := hT t (List.mem_cons_self ..)
  exact ⟨p, q, Go.WideElems.Trod_stays hl r1 r2 h1 (fun x hx => h3 x (List.mem_append_left _ hx)) (fun x hx => h4 x (List.mem_append_left _ hx)),
   G5 hl (fun x hx => hT x (List.mem_cons_of_mem _ hx)) h2 (fun x hx => h3 x (List.mem_append_right _ hx)) (fun x hx => h4 x (List.mem_append_right _ hx)), rfl⟩
theorem Np {P : Program} (hl : laidOutB P = true) {f : Func} {s : ChangeSpec} {H : Type} {enc : TypeId × Value -> H} {W W' : World} {F : Mem} {args : Array Value} {ds gs : List (DataW H)} {before : List MemPlace} {tb : TypeId}
  (hT : ∀ t, t ∈ f.params.toList -> P.readableRec t = true /\ t < P.types.size) (hv : s.vars = []) (hW : DataW.Whole enc P f.params.toList s.vars false W args.toList ds gs before) (hr : f.resultTypes = #[tb]) (htb : P.underlying tb = some .bool)
  (hfn : gs = [] -> s.fn H ds = { results := [.lit (.bool true)], args := ds }) (hs : HS W (Fe W) W' F []) :
  s.post enc P f false true false false W args (.bool true) W' := by
 obtain ⟨p, q, hA, hV, rfl, hz, hnd⟩ := hW
 have hW : DataW.Whole enc P f.params.toList s.vars false W args.toList ds gs (p ++ q) := ⟨p, q, hA, hV, rfl, hz, hnd⟩
 have hlt := hA.lt
 rw [hv] at hV
 obtain ⟨rfl, rfl⟩ := trodVars_none hV
 have he := hfn rfl
 have hsame : ∀ b, b < W.heap.size -> W'.heap[b]? = W.heap[b]? := hs.keep
 refine ⟨ds, [], p ++ [], [], p, [], hW, ?_, ?_, ?_, ?_, fun h => by cases h⟩
 ·rw [hr, List.append_nil, he]
  exact trodAll_mk1 (shut_bool htb _)
 ·rw [List.append_nil, he]
  refine G5 hl hT hA (fun x hx => ?_) (fun x hx => by simpa using hlt x hx)
  have hb := hlt x hx
  cases x with
  | cell b off => simp only [World.sameAt, World.cell?]; rw [hsame b hb]
  | map b => exact hsame b hb
 ·rw [hv, List.append_nil, he]; rfl
 ·refine ⟨hs.fix.1, hs.fix.2.1, fun i hi => ?_⟩
  rw [hsame i hi]
  cases hc : W.heap[i]? with
  | none => simp
  | some o => cases o <;> simp
end

section
open Go.RowKit
theorem HS.below {w w' : World} {F : Mem} (hF : ∀ b o, F b = some o -> w.heap[b]? = some o) (h : Below w.heap.size w w') : HS w F w' F [] :=
 ⟨hF, ⟨h.os, h.output, h.tape⟩, h.size, h.block, fun _ _ => rfl, (fun b o hb => by rw [h.block b (BQ (hF b o hb))]; exact hF b o hb), (fun _ _ h => by cases h), List.nodup_nil⟩
theorem AV.below {P : Program} {fid : FuncId} {args : Array Value} {w : World} {F : Mem} {v : Value} {post : Mem -> Value -> Prop} (hF : ∀ b o, F b = some o -> w.heap[b]? = some o)
  (h : Calls P fid args w fun e w' => e = .returned v /\ Below w.heap.size w w') (hp : post F v) : Calls P fid args w (AV w F post) :=
 h.mono fun _ w' ⟨he, hb⟩ => ⟨v, F, he, HS.below hF hb, hp⟩
def Sb (b : Bool) (v : Value) : Prop := match b with
 | true => ∃ t x, v = .iface t x
 | false => v = .nilIface
theorem C7 {P : Program} {w : World} {ρ : Operand -> Value} {ty : TypeId} {x : Operand} {a : Addr} (hx : ρ x = .pointer (some a)) : (Ao ρ (.nilCheck x) ty).run P w = .ok (.value (.pointer (some a))) w := by
 unfold Ao execOp
 simp only [hx]
 rfl
section
variable {P : Program} {ro : Option Nat} {n : Nat} {Q : Exit -> Fr -> World -> Prop}
def URL (P : Program) (ro : Option Nat) (n : Nat) (c : Code) (Q : Exit -> Fr -> World -> Prop) : Nat -> Fr -> World -> Prop
 | 0, _, _ => False
 | m + 1, f, w => CWP P ro n (cbd c) (E8 (URL P ro n c Q m) Q) f w
theorem URL.step {c : Code} {m : Nat} {f : Fr} {w : World} (h : CWP P ro n (cbd c) (E8 (URL P ro n c Q m) Q) f w) : URL P ro n c Q (m + 1) f w := h
theorem CWP.unroll {c : Code} (hk : kin c = 6) (m : Nat) {f : Fr} {w : World} (h : URL P ro n c Q m f w) : CWP P ro n c Q f w := by
 refine SF hk (fun m f w => URL P ro n c Q m f w) m h ?_
 intro m f w h
 cases m with
 | zero => exact h.elim
 | succ m =>
  refine CWP.mono (show CWP P ro n (cbd c) (E8 (URL P ro n c Q m) Q) f w from h) ?_
  intro e f' w' hq
  cases e <;> first | exact hq | exact ⟨m, Nat.lt_succ_self _, hq⟩
end
end
section
open Go.RowKit Go.Sort
section
variable {wb w w' : World} {Fb F : Mem} {L Lf : List (Option Nat × Obj)} {α : Type} {T : Ty α} {E : TypeId} {a : S0} {cap : Nat} {l : List α} {e : Option Nat × Obj} {enc : α -> Value}
theorem HS.later (h : HS wb Fb w F L) (hb : Below w.heap.size w w') : HS wb Fb w' F L :=
 h.call (HS.below h.pers hb)
end
end

def Sg : Ty Value := ⟨1, false, fun _ cs x => cs = [x], fun h => by subst h; rfl, fun _ h => h, rfl⟩
section
variable {κ α : Type} [DecidableEq κ] {K : Ty κ} {T : Ty α} {E : TypeId} {wb w : World} {Fb F : Mem}
def Grp (T : Ty α) (E : TypeId) (F : Mem) : List (κ × List α) -> List (κ × Value) -> Own -> Prop
 | [], [], Rs => ∀ p, p ∈ Rs -> p.1 = none
 | p :: g, q :: l, Rs => p.1 = q.1 /\ ∃ a c e R', q.2 = .slice a p.2.length c /\ Av T E F a c p.2 e /\ Rs = e :: R' /\ Grp T E F g l R'
 | _, _, _ => False
theorem Grp.mono {F' : Mem} (hl : SG F F') : ∀ {g : List (κ × List α)} {l : List (κ × Value)} {Rs : Own}, Grp T E F g l Rs -> Grp T E F' g l Rs
 | [], [], _, h => h
 | _ :: _, _ :: _, _, ⟨h1, a, c, e, R', h2, h3, h4, h5⟩ => ⟨h1, a, c, e, R', h2, h3.mono hl, h4, Grp.mono hl h5⟩
 | [], _ :: _, _, h => h.elim
 | _ :: _, [], _, h => h.elim
def Sa (K : Ty κ) (T : Ty α) (E : TypeId) (b : Nat) (g : List (κ × List α)) (F : Mem) (Lf : Own) : Prop := ∃ l e Rs, Lf = e :: Rs /\ K2 K Sg F b l e /\ Grp T E F g l Rs
theorem Sa.mono {b : Nat} : MW (Sa K T E b) := fun g F F' L ⟨l, e, Rs, h1, h2, h3⟩ hl => ⟨l, e, Rs, h1, h2.mono hl, Grp.mono hl h3⟩
end
def P6 (wb : World) (Fb F0 : Mem) (post : Mem -> Value -> Own -> Prop) : Ending -> World -> Prop :=
 fun e w' => ∃ F' v L', e = .returned v /\ HS wb Fb w' F' L' /\ SG F0 F' /\ post F' v L'
def BK {α β : Type} (wb : World) (Fb F0 : Mem) (Lf : Own) (r : β ⊕ α) (bv : β -> Value) (post : α -> Mem -> Value -> Own -> Prop) : Ending -> World -> Prop :=
 fun e w' => (∃ a F' v L', r = .inr a /\ e = .returned v /\ HS wb Fb w' F' L' /\ SG F0 F' /\ post a F' v L') \/
  (∃ b F', r = .inl b /\ e = .panicked [{ v := bv b, recovered := false }] /\ HS wb Fb w' F' Lf /\ SG F0 F')
section
variable {P : Program} {n : Nat} {R : Array Oper} {Q : Exit -> Fr -> World -> Prop} {w wb : World} {Fb F : Mem} {f : Fr} {i : Nat} {rest : List Nat} {dst : Option Nat} {ty : TypeId} {g : Option (Nat × Bool)}
variable {ro : Option Nat} {f0 : Operand} {aos : Array Operand} {ats : Array TypeId} {fid : FuncId} {first cap : Array Value} {args : List Value}
theorem RWP.callB {post : Mem -> Value -> Own -> Prop}
  (ho : opq R i = some (dst, .call { callee := .value f0, args := aos, argTypes := ats }, ty, g)) (hg : gd R f g = true) (hf : fev f f0 = .func (.func fid) first cap) (hok : Aq P fid)
  (ha : first.toList ++ aos.toList.map (fev f) ++ cap.toList = args) (hc : Calls P fid args.toArray w (P6 wb Fb F post))
  (k : ∀ v F1 w1 L', HS wb Fb w1 F1 L' -> SG F F1 -> post F1 v L' -> RWP P ro n R Q rest (AY f dst v) w1) : RWP P ro n R Q (i :: rest) f w := by
 refine SE ho hg (C8 hf hok ha) hc ?_
 rintro e w' ⟨F', r, L', rfl, h1, h2, h3⟩
 exact k r F' w' L' h1 h2 h3
section
variable {PQ : List PanicEntry -> List Deferred -> World -> Prop} {Post : Fr -> World -> Prop} {z fuel : Nat} {l l' : List Bool} {zd : Bool} {Fs : Mem} {Lc Lz : Own}
theorem Ay.callBP {α β : Type} {Lf : Own} {res : β ⊕ α} {bv : β -> Value} {post : α -> Mem -> Value -> Own -> Prop} (hl : l.set i true = l') (hzd : l'.toArray.getD z true = zd)
  (ho : opq R i = some (dst, .call { callee := .value f0, args := aos, argTypes := ats }, ty, g)) (hg : gd R f g = true) (hf : fev f f0 = .func (.func fid) first cap) (hok : Aq P fid)
  (ha : first.toList ++ aos.toList.map (fev f) ++ cap.toList = args) (hc : Calls P fid args.toArray w (BK wb Fb F Lf res bv post))
  (k : ∀ r v F1 w1 L', res = .inr r -> HS wb Fb w1 F1 L' -> SG F F1 -> post r F1 v L' -> DZ Fs Lc Lz zd w1 /\ DWP P n R PQ Post z (DZ Fs Lc Lz) fuel l' (AY f dst v) w1)
  (kp : ∀ b F1 w1, res = .inl b -> HS wb Fb w1 F1 Lf -> SG F F1 -> PQ [{ v := bv b, recovered := false }] f.d w1) : Ay P n R PQ Post z (DZ Fs Lc Lz) fuel l i f w := by
 intro hokR hns hS a haf
 obtain ⟨o, hR, hd, hop, hty, hgd⟩ := B7 ho
 unfold FU wpOpIn
 simp only [hR]
 rw [haf.wanted R o, hgd, hg]
 simp only [if_true]
 refine ⟨Bl, ?_⟩
 show o.uponIn (FW none) 0 P a _ _ ((execOp a.eval o).run P w)
 rw [BZ, haf.evalF, hop, hty, C8 hf hok ha]
 simp only [Oper.uponIn]
 refine ⟨(fun h => by cases h), (FC hc).mono ?_⟩
 rintro e w' (⟨r, F', v, L', h0, rfl, h1, h2, h3⟩ | ⟨b, F', h0, rfl, h1, h2⟩)
 ·simp only
  rw [hl, hd, hzd]
  obtain ⟨hS', hk⟩ := k r v F' w' L' h0 h1 h2 h3
  exact ⟨hS', hk hokR hns (by rw [hzd]; exact hS') _ (haf.put (by rw [<- hd]; exact EM hokR hR) v)⟩
 ·exact ⟨f, haf, kp b F' w' h0 h1 h2⟩
end
end
section
variable {P : Program} {w : World} {ρ : Operand -> Value} {ty : TypeId} {t t' : TypeId} {x : Operand} {c : Value} {b : Bool} {v : Value}
theorem Hk (he : Sb b v) (hx : ρ x = v) (hc : ρ (.const c) = .nilIface) (ht : P.underlying t = some (.interface (P.methodsAt t))) : (Ao ρ (.binOp .neq t x (.const c) t') ty).run P w = .ok (.value (.bool b)) w := by
 have e : Ao ρ (.binOp .neq t x (.const c) t') ty = (do pure (Next.value (<- (do eqGuard .neq t x (.const c) (ρ x) (ρ (.const c)); binOp .neq t (ρ x) (ρ (.const c)))))) := rfl
 rw [e, hx, hc]
 cases b with
 | false =>
  have : v = .nilIface := he
  subst this
  simp only [eqGuard_nil_constR, Sem.run_bind, Sem.run_pure, Result.andThen_ok, run_neq_nil_nil w t ht]
 | true =>
  obtain ⟨d, z, rfl⟩ := he
  have hg : eqGuard .neq t x (.const c) (.iface d z) .nilIface = pure () := rfl
  simp only [hg, Sem.run_bind, Sem.run_pure, Result.andThen_ok, run_neq_held_nil w t d z ht]
theorem Pb {x y z u : Operand} {ats : Array TypeId} {a b c d : Int} (hx : ρ x = .int .i64 a) (hy : ρ y = .int .i64 b) (hz : ρ z = .int .i64 c) (hu : ρ u = .int .i64 d) :
  (Ao ρ (.call { callee := .builtin .max, args := #[x, y, z, u], argTypes := ats }) ty).run P w = .ok (.value (.int .i64 (max (max (max a b) c) d))) w := by
 have e1 : Ao ρ (.call { callee := .builtin .max, args := #[x, y, z, u], argTypes := ats }) ty = (do pure (Next.value (<- Builtin.max_ ats ty (Array.map ρ #[x, y, z, u])))) := rfl
 rw [e1, map_toArray]
 simp only [List.map_cons, List.map_nil, hx, hy, hz, hu]
 simp [Builtin.max_, Builtin.max2]
 try omega
end
section
variable {P : Program} {w : World} {k : TypeId} {d : TypeDesc}
theorem Io (hs : ∀ (x y : Value) (b : Bool), Instr.sameNow d x y = some b -> (Op.equal k x y).run P w = .ok b w) (kv : Value) : ∀ (es : List MapEntry) (i : Nat) (r : Option (Nat × Value)), Instr.findNow d kv es i = some r -> (Instr.findAsking k kv es i).run P w = .ok r w
 | [], i, r, h => by simp only [Instr.findNow, Option.some.injEq] at h; subst h; simp [Instr.findAsking]
 | e :: es, i, r, h => by
  unfold Instr.findNow at h
  cases hn : Instr.sameNow d kv e.key with
  | none => rw [hn] at h; cases h
  | some b =>
   rw [hn] at h
   have he := hs _ _ _ hn
   cases b with
   | true => simp only [Option.some.injEq] at h; subst h; simp [Instr.findAsking, he]
   | false => simp only at h; have := Io hs kv es (i + 1) r h; simp [Instr.findAsking, he, this]
theorem LS (hu : P.underlying k = some d) (hs : ∀ (x y : Value) (b : Bool), Instr.sameNow d x y = some b -> (Op.equal k x y).run P w = .ok b w) (kv : Value) (es : List MapEntry) : (Instr.findKey k kv es).run P w = (Instr.findAsking k kv es).run P w := by
 unfold Instr.findKey
 rw [Sem.run_bind, run_underlying hu]
 simp only [Result.andThen_ok]
 cases h : Instr.findNow d kv es 0 with
 | none => rfl
 | some r => simp only [Sem.run_pure]; exact (Io hs kv es 0 r h).symm
theorem KL.ofString (hu : P.underlying k = some .string) : KL P k ES where
 check := fun w em F v x h => by obtain ⟨_, rfl, rfl⟩ := h; exact MapKept.run_checkKey hu (k := .string _) trivial em _
 equal := fun w F v u x y h1 h2 => by
  obtain ⟨_, rfl, rfl⟩ := h1; obtain ⟨_, rfl, rfl⟩ := h2
  have h := run_equalIn_string (P := P) w 9999 k ⟨x.toArray⟩ ⟨y.toArray⟩ hu
  rw [ByteArray.toList_eq, ByteArray.toList_eq] at h
  have e : decide (x = y) = ((⟨x.toArray⟩ : ByteArray).data.toList == (⟨y.toArray⟩ : ByteArray).data.toList) := by
   rw [Bool.eq_iff_iff, decide_eq_true_eq]; simp
  rw [e]
  exact h
 same := fun h1 h2 => by obtain ⟨_, rfl, rfl⟩ := h1; obtain ⟨_, rfl, rfl⟩ := h2; rfl
 stays := fun w F v x h => by obtain ⟨_, rfl, rfl⟩ := h; exact MapKept.run_keyThatStays (d := .string) (k := .string _) trivial
 asks := fun w F v x es h => LS hu (fun x y b hb => by
  cases x <;> cases y <;> simp only [Instr.sameNow, Option.some.injEq, reduceCtorEq] at hb
  rename_i s1 s2; subst hb; rw [beq_toListBytes]; exact run_equalIn_string (P := P) w 9999 k s1 s2 hu) _ _
end
section
variable {α : Type} {T : Ty α} {E : TypeId} {P : Program} {w w0 : World} {F0 F : Mem} {L : Own} {f : Fr} {ty : TypeId}
theorem G8 {ρ : Operand -> Value} {x : Operand} {ats : Array TypeId} {t E : TypeId} {s by_ : Nat} {a : S0} {n c : Nat} (hx : ρ x = .slice a n c) (ht : ats[0]? = some t) (he : A1 P t = some (E, s, by_)) :
  (Ao ρ (.call { callee := .builtin .cap, args := #[x], argTypes := ats }) ty).run P w = .ok (.value (.int .i64 (c : Int))) w := by
 unfold A1 at he
 split at he
 ·rename_i e hu
  have e1 : Ao ρ (.call { callee := .builtin .cap, args := #[x], argTypes := ats }) ty = (do pure (Next.value (<- Builtin.cap_ ats ty (Array.map ρ #[x])))) := rfl
  rw [e1, map_toArray]
  simp only [List.map_cons, List.map_nil, hx]
  simp only [Builtin.cap_, ht, Sem.run_bind, List.getElem?_toArray, List.getElem?_cons_zero, run_underlying hu, Result.andThen_ok, Sem.run_pure, goInt]
 ·cases he
theorem KP {ρ : Operand -> Value} {x y : Operand} {t E : TypeId} {s by_ : Nat} (hx : ρ x = .slice none 0 0) (ht : A1 P t = some (E, s, by_)) (hut : P.underlying t = some (.slice (P.elem t))) (hy : ρ y = .int .i64 0) :
  (Ao ρ (.slice t x none (some y) none) ty).run P w = .ok (.value (.slice none 0 0)) w := by
 have := Dw (P := P) (w := w) (ty := ty) (i := 0) (j := 0) (m := 0) (lo := none) (hi := some y) (mx := none) hx ht hut rfl (by simpa using hy) rfl (fun h => by cases h) (by omega) (by omega) (by omega)
 simpa using this
def Oe (P : Program) (t : TypeId) : Bool := match P.underlying t with | some (.int _) => true | _ => false
theorem Ny {t : TypeId} (h : Oe P t = true) : ∃ k, P.underlying t = some (.int k) := by
 unfold Oe at h
 split at h
 ·rename_i k hk; exact ⟨k, hk⟩
 ·cases h
theorem KQ {x y : Operand} {t t2 : TypeId} {by_ : Nat} {z : Value} {z0 : α} {m : Int} {r : List α} (hx : fev f x = .slice none 0 0) (hy : fev f y = .int .i64 m) (he : A1 P t = some (E, T.sz, by_)) (hb : decide (by_ <= 1024) = true) (hi2 : Oe P t2 = true) (hz : BA P E = some z)
  (hz0 : ∀ F, T.R F z.cells.toList z0) (hs0 : decide (T.sz = 0) = false) (hs : HS w0 F0 w F L) (hm : mk0 z0 m = some r) :
  ∃ a cap e w', (Ao (fev f) (.call { callee := .builtin .append, args := #[x, y], argTypes := #[t, t2] }) ty).run P w = .ok (.value (.slice a r.length cap)) w' /\ HS w0 F0 w' F (e :: L) /\ Av T E F a cap r e := by
 obtain ⟨hm1, rfl⟩ := MH hm
 obtain ⟨i, hu, hi, his, hib⟩ := EP he
 obtain ⟨k2, hk2⟩ := Ny hi2
 have hb' : by_ <= 1024 := by simpa using hb
 have hs0' : T.sz ≠ 0 := by simpa using hs0
 have hsz : T.sz = z.cells.size := by have := T.len (hz0 F); simpa using this.symm
 have hw : IntKind.i64.wrap m = m := Mb (by omega) (by omega)
 have hti : ∀ w, (typeInfo E).run P w = .ok i w := fun w => by simp [typeInfo, hi]
 have hzv : ∀ w, (zeroValue E).run P w = .ok z w := by
  intro w
  unfold BA at hz; rw [hi] at hz
  simp [zeroValue, typeInfo, hi, hz]
 have hnat : m * (i.bytes : Int) <= 4294967296 * 1024 := by
  have h1 : (i.bytes : Int) <= 1024 := by omega
  have h2 : m <= 4294967296 := by omega
  exact Int.mul_le_mul h2 h1 (by omega) (by decide)
 have e1 : Ao (fev f) (.call { callee := .builtin .append, args := #[x, y], argTypes := #[t, t2] }) ty = (do pure (Next.value (<- Builtin.append_ #[t, t2] ty (Array.map (fev f) #[x, y])))) := rfl
 have hneg : ¬ (m < 0) := by omega
 have hbig : ¬ (281474976710656 < m * (i.bytes : Int)) := by omega
 by_cases h0 : m.toNat = 0
 ·have hm0 : m = 0 := by omega
  subst hm0
  refine ⟨none, 0, (none, .cells #[] 0 (0, 0)), w, ?_, hs.dummy _, ?_⟩
  ·rw [e1, map_toArray]
   simp only [List.map_cons, List.map_nil, hx, hy]
   simp [Builtin.append_, run_underlying hu, run_underlying hk2, CC hi, asInt, asIntOf, hw, hti, Result.andThen]
  ·exact Av.nil T E F _
 ·have hcl : 0 < m.toNat := by omega
  have hnc : Builtin.nextslicecap m.toNat 0 = m.toNat := by simp [Builtin.nextslicecap, hcl]
  have hpos : ¬ (m <= 0) := by omega
  have hmb : ¬ (281474976710656 < m.toNat * i.bytes) := by
   have : m.toNat * i.bytes <= 4294967296 * 1024 := Nat.mul_le_mul (by omega) (by omega)
   omega
  have hmax : ¬ (9223372036854775807 < max m 0) := by omega
  generalize hq : (Question.appendCap m.toNat 0 E).cut (w.tape w.drawn (Question.appendCap m.toNat 0 E)) = nc
  have hnc2 : m.toNat <= nc := by rw [<- hq]; simp [Question.cut]
  have hsd : HS w0 F0 { w with drawn := w.drawn + 1 } F L := hs.heap rfl
  have hmz : ¬ (m.toNat * T.sz = 0) := fun h => by rcases Nat.mul_eq_zero.1 h with h | h; exact h0 h; exact hs0' h
  refine ⟨some ⟨w.heap.size, 0, none⟩, nc, (some w.heap.size, .cells (Builtin.zeroCells z.cells m.toNat ++ Builtin.zeroCells z.cells (nc - m.toNat)) E (0, 0)), _, ?_, hsd.alloc _, ?_⟩
  ·rw [e1, map_toArray]
   simp only [List.map_cons, List.map_nil, hx, hy]
   simp [Builtin.append_, run_underlying hu, run_underlying hk2, CC hi, asInt, asIntOf, hw, hneg, hbig, hti, h0, hpos, Result.andThen, hnc, hmb, hmax, run_choose, Question.forced, run_askRoom, hq, his, hzv, newRow, run_newObj, Builtin.firstCells]
   rw [if_neg hmz]
   rfl
  ·refine ⟨by simp; omega, .inr ⟨_, _, rfl, rfl, by simpa using hnc2, ?_, fun j x hj => ?_⟩⟩
   ·simp only [Array.size_append, Builtin.zeroCells, Array.size_map, Array.size_range, hsz]
    rw [<- Nat.add_mul]; congr 1; omega
   ·have hjl : j < m.toNat := by
     rcases Nat.lt_or_ge j m.toNat with h | h
     ·exact h
     ·rw [List.getElem?_eq_none (by simpa using h)] at hj; cases hj
    have := K8 z.cells m.toNat (hz0 F) j x hj
    have e2 : As (Builtin.zeroCells z.cells m.toNat ++ Builtin.zeroCells z.cells (nc - m.toNat)) (j * T.sz) T.sz = As ((Array.range (m.toNat * z.cells.size)).map (z.cells[· % z.cells.size]!)) (j * T.sz) T.sz := by
     unfold As
     have hle : j * T.sz + T.sz <= m.toNat * z.cells.size := by rw [<- Nat.succ_mul, hsz]; exact Nat.mul_le_mul_right _ hjl
     have hl1 : (Builtin.zeroCells z.cells m.toNat).toList.length = m.toNat * z.cells.size := by simp [Builtin.zeroCells]
     rw [Array.toList_append, List.drop_append_of_le_length (by omega), List.take_append_of_le_length (by rw [List.length_drop]; omega)]
     rfl
    rw [e2]; exact this
theorem RWP.appendNil {n : Nat} {R : Array Oper} {Q : Exit -> Fr -> World -> Prop} {i : Nat} {rest : List Nat} {dst : Option Nat} {g : Option (Nat × Bool)} {ro : Option Nat} {x y : Operand} {t t2 : TypeId} {by_ : Nat} {z : Value} {z0 : α} {m : Int} {r : List α}
  (ho : opq R i = some (dst, .call { callee := .builtin .append, args := #[x, y], argTypes := #[t, t2] }, ty, g)) (hg : gd R f g = true) (hx : fev f x = .slice none 0 0) (hy : fev f y = .int .i64 m) (he : A1 P t = some (E, T.sz, by_)) (hb : decide (by_ <= 1024) = true) (hi2 : Oe P t2 = true) (hz : BA P E = some z)
  (hz0 : ∀ F, T.R F z.cells.toList z0) (hs0 : decide (T.sz = 0) = false) (hs : HS w0 F0 w F L) (hm : mk0 z0 m = some r)
  (k : ∀ a cap e w', HS w0 F0 w' F (e :: L) -> Av T E F a cap r e -> RWP P ro n R Q rest (AY f dst (.slice a r.length cap)) w') : RWP P ro n R Q (i :: rest) f w := by
 obtain ⟨a, cap, e, w', h1, h2, h3⟩ := KQ (ty := ty) hx hy he hb hi2 hz hz0 hs0 hs hm
 exact SD ho hg h1 (k a cap e w' h2 h3)
end
def CA (F : Mem) : Prop := ∀ w : World, (∀ b o, F b = some o -> w.heap[b]? = some o) ->
 Go.Lib.TabIs Tryz.prog w "internal/strconv.uint64pow10" .u64 Go.Lib.pow10Tab /\ ∃ tp p, w.var? Tryz.prog "strconv.ErrRange" = some #[.iface tp p]
theorem CA.mono {F F' : Mem} (h : CA F) (hl : SG F F') : CA F' := fun w hF => h w fun b o hb => hF b o (hl b o hb)
section
open Go.ChangeShapes Go.WideShapes Go.ChangeAt Go.RowKit Go.Lib
abbrev Jp : List (String × DataW Unit) := Rows.rulesParsesRow.laid
theorem Pl : ownKnob Tryz.prog.godebug = none := by kernel_rfl
theorem Pj : (Jp.all fun x => x.2.handleName?.isNone) = true := by kernel_rfl
theorem LD {W : World} {name : String} {k : IntKind} {zs : List Int} {g : Nat} {t e : TypeId} {n : Nat} (h : VarReads Tryz.prog W name (tabData k zs))
  (hg : Tryz.prog.globalNamed name = some g) (hty : (Tryz.prog.globals[g]?).map (·.type) = some t) (ht : Tryz.prog.underlying t = some (.array n e)) (he : Tryz.prog.underlying e = some (.int k)) (hce : Tryz.prog.cellsOf e = 1) (hct : Tryz.prog.cellsOf t = n) : TabIs Tryz.prog W name k zs := by
 obtain ⟨g', t', cs, fuel, p, hg', ht', hvar, hd⟩ := h
 obtain rfl := Option.some.inj (hg.symm.trans hg')
 obtain rfl := Option.some.inj (hty.symm.trans ht')
 unfold TabIs
 rw [hvar, <- cells_of_tab ht he hce hct hd]
theorem Oa {W : World} {name : String} {d : DataW Unit} (hL : laidMetH Tryz.prog Jp W) (hm : (name, d) ∈ Jp) : VarReads Tryz.prog W name d := by
 rw [MakeChecks.laidMetH_plain _ _ _ Pj] at hL
 exact laidMet.reads hL hm
theorem KS {H : Type} {enc : TypeId × Value -> H} {P : Program} {w : World} {base : Nat} {sp : Nat -> Bool} {held : Bool} {fuel : Nat} {t : TypeId} {cs : List Value} {n : String} {d : DataW H} {p : List MemPlace} 
  (hu : (match P.underlying t with | some (.interface _) => true | _ => false) = true) (h : DataW.trod enc P w base sp held fuel t cs = some (.iface n d, p)) : ∃ u v, cs = [.iface u v] := by
 obtain ⟨m, hu⟩ : ∃ m, P.underlying t = some (.interface m) := by
  cases hk : P.underlying t with
  | none => rw [hk] at hu; cases hu
  | some k =>
   rw [hk] at hu
   cases k <;> first | exact ⟨_, rfl⟩ | cases hu
 cases fuel with
 | zero => cases h
 | succ f =>
  unfold DataW.trod at h
  rw [hu] at h
  split at h <;> first | (exact ⟨_, _, rfl⟩) | (simp_all; done) | skip
  all_goals simp_all
theorem QC {W : World} (hL : laidMetH Tryz.prog Jp W) (hs : W.ShapedOpen Tryz.prog) : CA (Fe W) := by
 have h0 := Oa hL (name := "internal/strconv.uint64pow10") (d := tabData .u64 pow10Tab) (by
  show _ ∈ ([_, _, _, _, _] : List (String × DataW Unit))
  refine List.mem_cons_of_mem _ (List.mem_cons_of_mem _ (List.mem_cons.2 (.inl ?_)))
  rfl)
 have h1 : TabIs Tryz.prog W _ .u64 pow10Tab := LD (g := 1) h0 (t := 234) (e := 218) (n := 20) (by kernel_rfl) (by kernel_rfl) (by kernel_rfl) (by kernel_rfl) (by kernel_rfl) (by kernel_rfl)
 have h2 := Oa hL (name := "strconv.ErrRange") (d := Rows.laid_strconv_ErrRange) (by
  show _ ∈ ([_, _, _, _, _] : List (String × DataW Unit))
  refine List.mem_cons_of_mem _ (List.mem_cons_of_mem _ (List.mem_cons_of_mem _ (List.mem_cons.2 (.inl ?_))))
  rfl)
 intro w hw
 have on : ∀ (n : String) (cs : Array Value), W.var? Tryz.prog n = some cs -> w.var? Tryz.prog n = some cs := by
  intro n cs hv
  unfold World.var? at hv ⊢
  cases hg : Tryz.prog.globalNamed n with
  | none => rw [hg] at hv; cases hv
  | some g =>
   rw [hg] at hv
   simp only [Option.bind_some] at hv ⊢
   cases hb : W.heap[g]? with
   | none => rw [hb] at hv; cases hv
   | some x => rw [hw g x hb]; rw [hb] at hv; exact hv
 refine ⟨?_, ?_⟩
 ·unfold TabIs at h1 ⊢
  exact on _ _ h1
 ·obtain ⟨g, t, cs, fuel, p, hg, ht, hvar, hd⟩ := h2
  have hg' : Tryz.prog.globalNamed "strconv.ErrRange" = some 5 := by kernel_rfl
  obtain rfl := Option.some.inj (hg'.symm.trans hg)
  have ht' : (Tryz.prog.globals[5]?).map (·.type) = some 134 := by kernel_rfl
  obtain rfl := Option.some.inj (ht'.symm.trans ht)
  obtain ⟨u, v, e⟩ := KS (by kernel_rfl) hd
  refine ⟨u, v, ?_⟩
  rw [on _ _ hvar]
  congr 1
  exact Array.ext' e
theorem ON (os : Os) (args : Array Value) : laidMetH Tryz.prog Jp (((World.laidAll Tryz.prog os Jp).forCall (fun _ _ => 0) ⟨#[], args, []⟩).memory) := by
 rw [MakeChecks.laidMetH_plain _ _ _ Pj]
 exact laidMet_laidAll _ (by kernel_rfl) (by kernel_rfl)
end
section
variable {P : Program} {ro : Option Nat} {n : Nat} {R : Array Oper} {Q : Exit -> Fr -> World -> Prop} {w w0 : World} {F0 F : Mem} {L : Own} {f : Fr} {i : Nat} {rest : List Nat} {dst : Option Nat} {ty : TypeId} {g : Option (Nat × Bool)} {ρ : Operand -> Value}
theorem RWP.litMap {t : TypeId} (ho : opq R i = some (dst, .makeMap t none, ty, g)) (hg : gd R f g = true) (hs : HS w0 F0 w F L)
  (kk : ∀ b w', HS w0 F0 w' F ((some b, .map #[] 0) :: L) -> RWP P ro n R Q rest (AY f dst (.map (some b))) w') : RWP P ro n R Q (i :: rest) f w :=
 SD ho hg FZ (kk _ _ (hs.alloc _))
theorem RWP.litIns {mt k vt : TypeId} {d : TypeDesc} {m x y : Operand} {b q clk : Nat} {es : Array MapEntry} {kv v : Value} (ho : opq R i = some (none, .insert mt m x y, ty, g)) (hg : gd R f g = true)
  (hm : fev f m = .map (some b)) (hx : fev f x = kv) (hy : fev f y = v) (hu : P.underlying mt = some (.map k vt)) (hk : P.underlying k = some d) (hkey : MapKept.IsKey d kv) (hnew : Instr.findNow d kv es.toList 0 = some none)
  (hs : HS w0 F0 w F L) (hi : L[q]? = some (some b, .map es clk)) {e' : Obj} (he : Obj.map (es.push ⟨kv, v, clk⟩) (clk + 1) = e')
  (kk : ∀ w', HS w0 F0 w' F (L.set q (some b, e')) -> RWP P ro n R Q rest f w') : RWP P ro n R Q (i :: rest) f w := by
 subst he
 have hb := hs.ownAt hi
 refine RWP.unit ho hg ?_ (kk _ (hs.put hi _))
 have e : Ao (fev f) (.insert mt m x y) ty = (do Instr.mapUpdate mt (fev f m) (fev f x) (fev f y); pure .skip) := rfl
 have hset : (setObj b (.map (es.push ⟨kv, v, clk⟩) (clk + 1))).run P w = .ok () (Cm w b (.map (es.push ⟨kv, v, clk⟩) (clk + 1))) := by
  rw [MapKept.run_setObj_map _ hb]; rfl
 rw [e, hm, hx, hy]
 simp [Instr.mapUpdate, run_underlying hu, MapKept.run_getObj_map hb, MapKept.run_checkKey hk hkey, MapKept.run_findKey hk hnew, Result.andThen, hset]
theorem RWP.litRange {mt k vt : TypeId} {x : Operand} {b q clk : Nat} {es : Array MapEntry} (ho : opq R i = some (dst, .range mt x, ty, g)) (hg : gd R f g = true) (hx : fev f x = .map (some b)) (hu : P.underlying mt = some (.map k vt))
  (hs : HS w0 F0 w F L) (hi : L[q]? = some (some b, .map es clk)) (kk : ∀ b' w', HS w0 F0 w' F ((some b', .mapIter (some b) clk #[] clk) :: L) -> RWP P ro n R Q rest (AY f dst (.pointer (some ⟨b', 0, none⟩))) w') : RWP P ro n R Q (i :: rest) f w := by
 have hb := hs.ownAt hi
 refine SD ho hg ?_ (kk w.heap.size _ (hs.alloc _))
 have e : Ao (fev f) (.range mt x) ty = (do pure (Next.value (<- Instr.range mt (fev f x)))) := rfl
 rw [e, hx]
 simp [Instr.range, run_underlying hu, MapKept.run_getObj_map hb, run_newObj, Result.andThen]
def IQ (es : Array MapEntry) (since : Nat) (seen : Array Nat) : Array (Option MapEntry) :=
 let left := es.filter fun e => !seen.contains e.born
 let old := left.filter (·.born < since)
 let new := left.filter (·.born >= since)
 (if old.isEmpty then #[none] else #[]) ++ (old ++ new).map some
theorem Dy {b : Nat} {m : Option Nat} {since last : Nat} {seen : Array Nat} (h : w.heap[b]? = some (.mapIter m since seen last)) : (getObj b).run P w = .ok (.mapIter m since seen last) w := by
 simp only [getObj, Sem.run, h]
theorem II {b : Nat} {m : Option Nat} {since last : Nat} {seen : Array Nat} {o' : Obj} (h : w.heap[b]? = some (.mapIter m since seen last)) : (setObj b o').run P w = .ok () (Cm w b o') := by
 simp only [setObj, Sem.run, h]; rfl
theorem RWP.litNext {x : Operand} {r m ki km clk since last : Nat} {es : Array MapEntry} {seen : Array Nat} {l : List (Option MapEntry)} (ho : opq R i = some (dst, .next x false, ty, g)) (hg : gd R f g = true) (hx : fev f x = .pointer (some ⟨r, 0, none⟩))
  (hs : HS w0 F0 w F L) (hki : L[ki]? = some (some r, .mapIter (some m) since seen last)) (hkm : L[km]? = some (some m, .map es clk))
  (hgone : (!seen.isEmpty && !es.isEmpty && es.all (·.born >= last)) = false) (hc : (IQ es since seen).toList = l) (hne : l.length ≠ 0)
  (kk : ∀ c ∈ l, match c with
   | some e => ∀ w', HS w0 F0 w' F (L.set ki (some r, .mapIter (some m) since (seen.push e.born) clk)) -> RWP P ro n R Q rest (AY f dst (.tuple #[.bool true, e.key, e.val])) w'
   | none => ∀ w', HS w0 F0 w' F L -> RWP P ro n R Q rest (AY f dst (.tuple #[.bool false])) w') : RWP P ro n R Q (i :: rest) f w := by
 have hr := hs.ownAt hki
 have hm := hs.ownAt hkm
 obtain ⟨cs, hcs⟩ : ∃ cs, IQ es since seen = cs := ⟨_, rfl⟩
 have hcs' := hcs
 unfold IQ at hcs'
 simp only at hcs'
 have hsz : cs.size = l.length := by rw [<- hc, hcs]; simp
 obtain ⟨j, hj⟩ : ∃ j, (choose (.mapNext cs.size)).run P w = .ok j (if (Question.mapNext cs.size).forced then w else { w with drawn := w.drawn + 1 }) /\ j < cs.size := by
  rw [run_choose]
  by_cases hf : (Question.mapNext cs.size).forced = true
  ·exact ⟨0, by simp [hf], by omega⟩
  ·refine ⟨_, by simp only [hf]; rfl, ?_⟩
   have : 0 < cs.size := by omega
   simp only [Question.cut]
   exact Nat.mod_lt _ this
 obtain ⟨w1, hw1⟩ : ∃ w1, (if (Question.mapNext cs.size).forced then w else { w with drawn := w.drawn + 1 }) = w1 := ⟨_, rfl⟩
 rw [hw1] at hj
 have hh : w1.heap = w.heap := by rw [<- hw1]; split <;> rfl
 have hfx : NP w w1 := by rw [<- hw1]; split <;> exact ⟨rfl, rfl, rfl⟩
 have hs1 : HS w0 F0 w1 F L := hs.heap hh hfx
 obtain ⟨c, hcj⟩ : ∃ c, cs[j]? = some c := ⟨cs[j]'hj.2, by simp [hj.2]⟩
 have hmem : c ∈ l := by
  rw [<- hc, hcs]
  have : cs.toList[j]? = some c := by simpa using hcj
  exact List.mem_of_getElem? this
 have hk := kk c hmem
 have e : Ao (fev f) (.next x false) ty = (do pure (Next.value (<- Instr.next (fev f x) false ty))) := rfl
 cases c with
 | none =>
  refine SD (w' := w1) (v := .tuple #[.bool false]) ho hg ?_ (hk w1 hs1)
  rw [e, hx]
  simp only [Instr.next, Sem.run_bind, Dy hr, Result.andThen_ok, MapKept.run_getObj_map hm, hgone, Bool.false_eq_true, if_false, hcs', hj.1, hcj, Sem.run_pure]
 | some en =>
  refine SD (w' := Cm w1 r (.mapIter (some m) since (seen.push en.born) clk)) (v := .tuple #[.bool true, en.key, en.val]) ho hg ?_ (hk _ (hs1.put hki _))
  rw [e, hx]
  simp only [Instr.next, Sem.run_bind, Dy hr, Result.andThen_ok, MapKept.run_getObj_map hm, hgone, Bool.false_eq_true, if_false, hcs', hj.1, hcj, Sem.run_pure, II (hs1.ownAt hki)]
theorem Ee {x : Operand} {r m clk since : Nat} {es : Array MapEntry} {seen : Array Nat} {s : Nat} {en : MapEntry} (hx : ρ x = .pointer (some ⟨r, 0, none⟩)) (hr : w.heap[r]? = some (.mapIter (some m) since seen clk)) (hm : w.heap[m]? = some (.map es clk))
  (hs : seen.back? = some s) (he : es.find? (·.born == s) = some en) : (Ao ρ (.entry x) ty).run P w = .ok (.value (.tuple #[en.key, en.val])) w := by
 have e : Ao ρ (.entry x) ty = (do pure (Next.value (<- Instr.entry (ρ x)))) := rfl
 rw [e, hx]
 simp [Instr.entry, Dy hr, MapKept.run_getObj_map hm, hs, he, Result.andThen]
end
section
variable {P : Program} {ro : Option Nat} {n : Nat} {R : Array Oper} {Q : Exit -> Fr -> World -> Prop} {w w0 : World} {F0 F : Mem} {L : Own} {f : Fr} {i : Nat} {rest : List Nat} {dst : Option Nat} {ty : TypeId} {g : Option (Nat × Bool)}
variable {x : Operand} {r m ki km clk since last : Nat} {es : Array MapEntry} {seen : Array Nat}
theorem RWP.litNext0 (ho : opq R i = some (dst, .next x false, ty, g)) (hg : gd R f g = true) (hx : fev f x = .pointer (some ⟨r, 0, none⟩))
  (hs : HS w0 F0 w F L) (hki : L[ki]? = some (some r, .mapIter (some m) since seen last)) (hkm : L[km]? = some (some m, .map es clk))
  (hgone : (!seen.isEmpty && !es.isEmpty && es.all (·.born >= last)) = false) (hc : (IQ es since seen).toList = [none])
  (kk : ∀ w', HS w0 F0 w' F L -> RWP P ro n R Q rest (AY f dst (.tuple #[.bool false])) w') : RWP P ro n R Q (i :: rest) f w :=
 RWP.litNext ho hg hx hs hki hkm hgone hc (by simp) fun c hm => by
  simp only [List.mem_singleton] at hm; subst hm; exact kk
theorem RWP.litNext1 {e : MapEntry} (ho : opq R i = some (dst, .next x false, ty, g)) (hg : gd R f g = true) (hx : fev f x = .pointer (some ⟨r, 0, none⟩))
  (hs : HS w0 F0 w F L) (hki : L[ki]? = some (some r, .mapIter (some m) since seen last)) (hkm : L[km]? = some (some m, .map es clk))
  (hgone : (!seen.isEmpty && !es.isEmpty && es.all (·.born >= last)) = false) (hc : (IQ es since seen).toList = [some e])
  (kk : ∀ w', HS w0 F0 w' F (L.set ki (some r, .mapIter (some m) since (seen.push e.born) clk)) -> RWP P ro n R Q rest (AY f dst (.tuple #[.bool true, e.key, e.val])) w') : RWP P ro n R Q (i :: rest) f w :=
 RWP.litNext ho hg hx hs hki hkm hgone hc (by simp) fun c hm => by
  simp only [List.mem_singleton] at hm; subst hm; exact kk
theorem RWP.litNext2 {e e2 : MapEntry} (ho : opq R i = some (dst, .next x false, ty, g)) (hg : gd R f g = true) (hx : fev f x = .pointer (some ⟨r, 0, none⟩))
  (hs : HS w0 F0 w F L) (hki : L[ki]? = some (some r, .mapIter (some m) since seen last)) (hkm : L[km]? = some (some m, .map es clk))
  (hgone : (!seen.isEmpty && !es.isEmpty && es.all (·.born >= last)) = false) (hc : (IQ es since seen).toList = [some e, some e2])
  (kk : ∀ w', HS w0 F0 w' F (L.set ki (some r, .mapIter (some m) since (seen.push e.born) clk)) -> RWP P ro n R Q rest (AY f dst (.tuple #[.bool true, e.key, e.val])) w')
  (kk2 : ∀ w', HS w0 F0 w' F (L.set ki (some r, .mapIter (some m) since (seen.push e2.born) clk)) -> RWP P ro n R Q rest (AY f dst (.tuple #[.bool true, e2.key, e2.val])) w') : RWP P ro n R Q (i :: rest) f w :=
 RWP.litNext ho hg hx hs hki hkm hgone hc (by simp) fun c hm => by
  simp only [List.mem_cons, List.not_mem_nil, or_false] at hm
  rcases hm with rfl | rfl
  ·exact kk
  ·exact kk2
end
section
variable {α : Type} {T : Ty α} {E : TypeId} {P : Program} {n : Nat} {R : Array Oper} {PQ : List PanicEntry -> List Deferred -> World -> Prop} {Post : Fr -> World -> Prop} {zz fuel : Nat} {ll l' : List Bool} {zd : Bool} {Fs : Mem} {Lc Lz : Own} {w w0 : World} {F0 F : Mem} {L : Own} {f : Fr} {i : Nat} {dst : Option Nat} {ty : TypeId} {g : Option (Nat × Bool)}
theorem Ay.makeSlice {x y : Operand} {t : TypeId} {by_ : Nat} {z : Value} {z0 : α} {m : Int} {r : List α} (hl : ll.set i true = l') (hzd : l'.toArray.getD zz true = zd) (ho : opq R i = some (dst, .makeSlice t x y, ty, g)) (hg : gd R f g = true) (hx : fev f x = .int .i64 m) (hy : fev f y = .int .i64 m) (he : A1 P t = some (E, T.sz, by_)) (hb : decide (by_ <= 1024) = true) (hz : BA P E = some z)
  (hz0 : ∀ F, T.R F z.cells.toList z0) (hs0 : decide (T.sz = 0) = false) (hs : HS w0 F0 w F L) (hm : mk0 z0 m = some r) (hle : SG Fs F) (hL : ∀ p, p ∈ Lc -> p ∈ L) (hLz : zd = false -> ∀ p, p ∈ Lz -> p ∈ L)
  (k : ∀ b cap C w', HS w0 F0 w' F ((some b, .cells C E (0, 0)) :: L) -> Av T E F (some ⟨b, 0, none⟩) cap r (some b, .cells C E (0, 0)) -> DWP P n R PQ Post zz (DZ Fs Lc Lz) fuel l' (AY f dst (.slice (some ⟨b, 0, none⟩) r.length cap)) w') : Ay P n R PQ Post zz (DZ Fs Lc Lz) fuel ll i f w := by
 obtain ⟨b, cap, C, w', h1, h2, h3⟩ := G7 (ty := ty) hx hy he hb hz hz0 hs0 hs hm
 exact ST hl hzd ho hg h1 (BI h2 hle (fun p hp => List.mem_cons_of_mem _ (hL p hp)) (fun e p hp => List.mem_cons_of_mem _ (hLz e p hp))) (k b cap C w' h2 h3)
end
def Am (R : Array Oper) (i : Nat) : Op := match R[i]? with | some o => o.op | none => .alloc 0
def Fk (R : Array Oper) (i : Nat) : TypeId := match R[i]? with | some o => o.type | none => 0
def Bd (R : Array Oper) (i : Nat) : Option Nat := match R[i]? with | some o => o.dst | none => none
def RO (R : Array Oper) (i : Nat) : Option (Nat × Bool) := match R[i]? with | some o => o.guard | none => none
def ung (R : Array Oper) (i : Nat) : Bool := match R[i]? with | some o => (match o.guard with | none => true | some _ => false) | none => false
theorem Bz {R : Array Oper} {i : Nat} (h : ung R i = true) : opq R i = some (Bd R i, Am R i, Fk R i, none) := by
 unfold ung at h; unfold opq Bd Am Fk
 cases hr : R[i]? with
 | none => simp [hr] at h
 | some o =>
  simp only [hr] at h
  cases hg : o.guard with
  | none => simp [hg]
  | some p => simp [hg] at h
def KN (R : Array Oper) (j : Nat) (b : Bool) (i : Nat) : Bool := match R[i]? with | some o => (match o.guard with | none => true | some (j', b') => Nat.beq j j' && (b == b')) | none => false
theorem J9 {R : Array Oper} {i j : Nat} {b : Bool} (h : KN R j b i = true) : opq R i = some (Bd R i, Am R i, Fk R i, none) \/ opq R i = some (Bd R i, Am R i, Fk R i, some (j, b)) := by
 unfold KN at h; unfold opq Bd Am Fk
 cases hr : R[i]? with
 | none => simp [hr] at h
 | some o =>
  simp only [hr] at h
  cases hg : o.guard with
  | none => simp [hg]
  | some p =>
   obtain ⟨j', b'⟩ := p
   simp only [hg, Bool.and_eq_true, beq_iff_eq] at h
   have e1 := Nat.eq_of_beq_eq_true h.1
   have e2 := h.2
   subst e1; subst e2
   simp [hg]
def slQ (P : Program) (t : TypeId) : Bool := match A1 P t with | some _ => true | none => false
def pvI (op : BinOp) (k : IntKind) (a b : Int) : Option Value := match op with
 | .add => some (.int k (k.wrap (a + b))) | .sub => some (.int k (k.wrap (a - b))) | .mul => some (.int k (k.wrap (a * b)))
 | .lss => some (.bool (decide (a < b))) | .leq => some (.bool (decide (a <= b))) | .gtr => some (.bool (decide (a > b))) | .geq => some (.bool (decide (a >= b)))
 | .eql => some (.bool (a == b)) | .neq => some (.bool (a != b))
 | .quo => (match decide (b = 0) with | false => some (.int k (k.wrap (a.tdiv b))) | true => none)
 | .rem => (match decide (b = 0) with | false => some (.int k (a.tmod b)) | true => none)
 | _ => none
def pvS (op : BinOp) (a b : SZ) : Option Value := match op with
 | .eql => some (.bool (a == b)) | .neq => some (.bool (a != b)) | .lss => some (.bool (HC a b)) | .leq => some (.bool (HC a b || a == b))
 | .gtr => some (.bool (!(HC a b || a == b))) | .geq => some (.bool (!HC a b)) | _ => none
def Pg (P : Program) (t : TypeId) (op : BinOp) : Value -> Value -> Option Value
 | .int k a, .int k' b => (match decide (k = k') with | true => pvI op k a b | false => none)
 | .string a, .string b => pvS op a.data.toList b.data.toList
 | .bool a, .bool b => (match P.underlying t with | some .bool => (match op with | .eql => some (.bool (a == b)) | .neq => some (.bool (!(a == b))) | _ => none) | _ => none)
 | .agg xs, .agg ys => (match P.eqGuardType P.depth t with
  | false => (match eqV P 8 t (.agg xs) (.agg ys) with | some b => (match op with | .eql => some (.bool b) | .neq => some (.bool (!b)) | _ => none) | none => none)
  | true => none)
 | _, _ => none
def Nj (P : Program) (ρ : Operand -> Value) (c : Call) : Option Value := match c.callee with
 | .builtin .len => (match c.args.toList with
  | [x] => (match c.argTypes[0]? with
   | some t => (match ρ x with
    | .slice _ n _ => (match slQ P t with | true => some (.int .i64 (n : Int)) | false => none)
    | .string s => (match P.underlying t with | some .string => some (.int .i64 (s.data.toList.length : Int)) | _ => none)
    | _ => none)
   | none => none)
  | _ => none)
 | .builtin .max => (match c.args.toList with | [x, y] => (match ρ x, ρ y with | .int .i64 a, .int .i64 b => some (.int .i64 (max a b)) | _, _ => none) | _ => none)
 | .builtin .min => (match c.args.toList with | [x, y] => (match ρ x, ρ y with | .int .i64 a, .int .i64 b => some (.int .i64 (min a b)) | _, _ => none) | _ => none)
 | _ => none
def pv (P : Program) (ρ : Operand -> Value) : Op -> Option Value
 | .move x => some (ρ x)
 | .assign x => some (ρ x)
 | .binOp op t x y _ => Pg P t op (ρ x) (ρ y)
 | .unOp op _ x => (match op, ρ x with | .not, .bool b => some (.bool (!b)) | .neg, .int k a => some (.int k (k.wrap (0 - a))) | _, _ => none)
 | .extract x i => (match ρ x with | .tuple vs => vs[i]? | _ => none)
 | .fieldAddr s x i => (match ρ x with
  | .pointer (some ⟨b, o, none⟩) => (match Ip P s i with | some (off, k) => (match decide (k = 0) with | false => some (.pointer (some ⟨b, o + off, none⟩)) | true => none) | none => none)
  | _ => none)
 | .field s x i => (match ρ x with
  | .agg cs => (match NA P s i with
   | some (o, t) => (match Dr P t with
    | some (gg, k) => (match Nat.beq (As cs o k).length k && (gg || k == 1) with | true => some (mkV gg (As cs o k)) | false => none)
    | none => none)
   | none => none)
  | _ => none)
 | .build t parts => (match ND P t (parts.toList.map fun p => (p.1, ρ p.2)) with | some cs => some (.agg cs.toArray) | none => none)
 | .makeFunc fn fi ca => some (.func fn (fi.toList.map ρ).toArray (ca.toList.map ρ).toArray)
 | .nilCheck x => (match ρ x with | .pointer (some a) => some (.pointer (some a)) | _ => none)
 | .convert s d x => (match ρ x with | .int _ a => (match (P.underlying s).isSome, P.underlying d with | true, some (.int k) => some (.int k (k.wrap a)) | _, _ => none) | _ => none)
 | .call c => Nj P ρ c
 | _ => none
theorem LE (s : ByteArray) : s = ⟨s.data.toList.toArray⟩ := by cases s; rfl
section
variable {P : Program} {ρ : Operand -> Value} {w : World} {ty : TypeId}
theorem Qv {op : BinOp} {k : IntKind} {a b : Int} {x y : Operand} {t t' : TypeId} {v : Value} (hx : ρ x = .int k a) (hy : ρ y = .int k b) (h : pvI op k a b = some v) : (Ao ρ (.binOp op t x y t') ty).run P w = .ok (.value v) w := by
  cases op <;> simp only [pvI, Option.some.injEq, reduceCtorEq] at h <;> first
    | (subst h; first | exact Qt hx hy | exact Qf hx hy | exact Ql hx hy | exact Qm hx hy | exact Qn hx hy | exact NX hx hy | exact Qp hx hy | exact NY hx hy | exact HH hx hy)
    | (split at h
       · rename_i hb; cases h; first | exact Qh hx hy hb | exact Qg hx hy hb
       · cases h)
theorem Qu {op : BinOp} {a b : SZ} {x y : Operand} {t t' : TypeId} {v : Value} (hx : ρ x = .string ⟨a.toArray⟩) (hy : ρ y = .string ⟨b.toArray⟩) (h : pvS op a b = some v) : (Ao ρ (.binOp op t x y t') ty).run P w = .ok (.value v) w := by
 cases op <;> simp only [pvS, Option.some.injEq, reduceCtorEq] at h <;> subst h <;> exact Mp hx hy rfl
theorem Oz {op : BinOp} {x y : Operand} {t t' : TypeId} {v : Value} (h : Pg P t op (ρ x) (ρ y) = some v) : (Ao ρ (.binOp op t x y t') ty).run P w = .ok (.value v) w := by
 generalize hx : ρ x = a at h
 generalize hy : ρ y = b at h
 unfold Pg at h
 split at h
 ·split at h
  ·rename_i hk
   have := of_decide_eq_true hk; subst this
   exact Qv hx hy h
  ·cases h
 ·rename_i a b
  exact Qu (hx.trans (congrArg _ (LE a))) (hy.trans (congrArg _ (LE b))) h
 ·split at h
  ·rename_i hu
   split at h
   ·cases h; exact Qr hx hy hu
   ·cases h; exact Qk hx hy hu
   ·cases h
  ·cases h
 ·split at h
  ·rename_i hg
   split at h
   ·rename_i b he
    split at h
    ·cases h; exact Qq hx hy hg he
    ·cases h; exact Qi hx hy hg he
    ·cases h
   ·cases h
  ·cases h
 ·cases h
theorem Ni {c : Call} {v : Value} (h : Nj P ρ c = some v) : (Ao ρ (.call c) ty).run P w = .ok (.value v) w := by
 obtain ⟨callee, args, ats⟩ := c
 unfold Nj at h
 simp only at h
 split at h
 ·split at h
  ·rename_i x ha
   have : args = #[x] := by cases args; simpa using ha
   subst this
   split at h
   ·rename_i t ht
    split at h
    ·rename_i a n c hx
     split at h
     ·rename_i hs
      unfold slQ at hs
      split at hs
      ·rename_i q hq; obtain ⟨E, s, by_⟩ := q
       cases h; exact JW hx ht hq
      ·cases hs
     ·cases h
    ·rename_i s hx
     split at h
     ·rename_i hu; cases h; exact Mo (hx.trans (congrArg _ (LE s))) ht hu
     ·cases h
    ·cases h
   ·cases h
  ·cases h
 ·split at h
  ·rename_i x y ha
   have : args = #[x, y] := by cases args; simpa using ha
   subst this
   split at h
   ·rename_i hx hy; cases h; exact Pc hx hy
   ·cases h
  ·cases h
 ·split at h
  ·rename_i x y ha
   have : args = #[x, y] := by cases args; simpa using ha
   subst this
   split at h
   ·rename_i hx hy; cases h; exact Pa hx hy
   ·cases h
  ·cases h
 ·cases h
theorem LL {op : Op} {v : Value} (h : pv P ρ op = some v) : (Ao ρ op ty).run P w = .ok (.value v) w := by
 unfold pv at h
 split at h
 ·cases h; exact AL rfl
 ·cases h; exact Az rfl
 ·exact Oz h
 ·split at h
  ·rename_i hx; cases h; exact LI hx
  ·rename_i hx; cases h; exact Qj hx
  ·cases h
 ·split at h
  ·rename_i hx; exact BH hx h
  ·cases h
 ·split at h
  ·rename_i hx
   split at h
   ·rename_i hf
    split at h
    ·rename_i hk; cases h; exact BX hx hf hk rfl
    ·cases h
   ·cases h
  ·cases h
 ·split at h
  ·rename_i hx
   split at h
   ·rename_i hf
    split at h
    ·rename_i ht
     split at h
     ·rename_i hk
      simp only [Bool.and_eq_true] at hk
      cases h; exact Nf hx hf ht (Nat.eq_of_beq_eq_true hk.1) hk.2 rfl
     ·cases h
    ·cases h
   ·cases h
  ·cases h
 ·split at h
  ·rename_i hb; cases h; exact Ft rfl hb
  ·cases h
 ·cases h; exact CJ rfl rfl
 ·split at h
  ·rename_i hx; cases h; exact C7 hx
  ·cases h
 ·split at h
  ·rename_i hx
   split at h
   ·rename_i hs hd; cases h; exact Ms hx hs hd
   ·cases h
  ·cases h
 ·exact Ni h
 ·cases h
variable {ro : Option Nat} {n : Nat} {R : Array Oper} {Q : Exit -> Fr -> World -> Prop}
def pst (P : Program) (R : Array Oper) : List Nat -> Nat -> Fr -> Fr
 | _, 0, f => f
 | [], _ + 1, f => f
 | i :: l, m + 1, f => pst P R l m (AY f (Bd R i) ((pv P (fev f) (Am R i)).getD undef))
def isS {α : Type} : Option α -> Bool | some _ => true | none => false
theorem Gk {α : Type} {o : Option α} {d : α} (h : isS o = true) : o = some (o.getD d) := by cases o <;> simp_all [isS]
def pok (P : Program) (R : Array Oper) : List Nat -> Nat -> Fr -> Bool
 | _, 0, _ => true
 | [], _ + 1, _ => false
 | i :: l, m + 1, f => ung R i && (isS (pv P (fev f) (Am R i)) && pok P R l m (AY f (Bd R i) ((pv P (fev f) (Am R i)).getD undef)))
theorem P2 : ∀ (m : Nat) {l : List Nat} {f : Fr}, RWP P ro n R Q (l.drop m) (pst P R l m f) w -> pok P R l m f = true -> RWP P ro n R Q l f w
 | 0, l, f, k, _ => by cases l <;> exact k
 | m + 1, [], f, k, h => by simp [pok] at h
 | m + 1, i :: l, f, k, h => by
  simp only [pok, Bool.and_eq_true] at h
  exact SD (Bz h.1) rfl (LL (Gk h.2.1)) (P2 m k h.2.2)
theorem Vs (m : Nat) {l : List Nat} {f : Fr} (k : RWP P ro n R Q (l.drop m) (pst P R l m f) w) (h : pok P R l m f = true := by kernel_rfl) : RWP P ro n R Q l f w := P2 m k h
def Pi (P : Program) (R : Array Oper) (j : Nat) (b : Bool) (q : Nat) : List Nat -> Nat -> Fr -> Bool
 | _, 0, _ => true
 | [], _ + 1, _ => false
 | i :: l, m + 1, f => KN R j b i && ((match Bd R i with | some d => !Nat.beq q d | none => true) && (isS (pv P (fev f) (Am R i)) && Pi P R j b q l m (AY f (Bd R i) ((pv P (fev f) (Am R i)).getD undef))))
theorem NS {f : Fr} {d : Option Nat} {v : Value} {q : Nat} (h : (match d with | some d => !Nat.beq q d | none => true) = true) : (AY f d v) q = f q := by
 cases d with
 | none => rfl
 | some d => simp only [Bool.not_eq_true'] at h; simp only [AY, upd, h, cond_false]
theorem LZ {j q : Nat} {b : Bool} (hj : FA R j = some q) : ∀ (m : Nat) {l : List Nat} {f : Fr}, f q = .bool b -> RWP P ro n R Q (l.drop m) (pst P R l m f) w -> Pi P R j b q l m f = true -> RWP P ro n R Q l f w
 | 0, l, f, _, k, _ => by cases l <;> exact k
 | m + 1, [], f, _, k, h => by simp [Pi] at h
 | m + 1, i :: l, f, hf, k, h => by
  simp only [Pi, Bool.and_eq_true] at h
  have hf' := (NS (f := f) (v := (pv P (fev f) (Am R i)).getD undef) h.2.1).trans hf
  rcases J9 h.1 with e | e
  ·exact SD e rfl (LL (Gk h.2.2.1)) (LZ hj m hf' k h.2.2.2)
  ·exact SD e (Nz hj hf rfl) (LL (Gk h.2.2.1)) (LZ hj m hf' k h.2.2.2)
def gj (R : Array Oper) : List Nat -> Nat
 | i :: _ => (match RO R i with | some (j, _) => j | none => 0)
 | [] => 0
def gq (R : Array Oper) (l : List Nat) : Nat := match FA R (gj R l) with | some q => q | none => 0
theorem Vgs {b c : Bool} (hc : c = b) (m : Nat) {l : List Nat} {f : Fr} (k : RWP P ro n R Q (l.drop m) (pst P R l m f) w) (h : Pi P R (gj R l) b (gq R l) l m f = true := by kernel_rfl)
  (hj : FA R (gj R l) = some (gq R l) := by kernel_rfl) (hf : f (gq R l) = .bool c := by kernel_rfl) : RWP P ro n R Q l f w :=
 LZ hj m (by rw [hf, hc]) k h
def sst (R : Array Oper) : List Nat -> Nat -> Fr -> Fr
 | _, 0, f => f
 | [], _ + 1, f => f
 | i :: l, m + 1, f => sst R l m (AY f (Bd R i) undef)
def sok (R : Array Oper) (j : Nat) (b : Bool) (q : Nat) : List Nat -> Nat -> Bool
 | _, 0 => true
 | [], _ + 1 => false
 | i :: l, m + 1 => (match R[i]? with | some o => (match o.guard with | some (j', b') => Nat.beq j j' && (b == b') | none => false) | none => false) && ((match Bd R i with | some d => !Nat.beq q d | none => true) && sok R j b q l m)
theorem Q8 {i j : Nat} {b : Bool} (h : (match R[i]? with | some o => (match o.guard with | some (j', b') => Nat.beq j j' && (b == b') | none => false) | none => false) = true) : opq R i = some (Bd R i, Am R i, Fk R i, some (j, b)) := by
 unfold opq Bd Am Fk
 cases hr : R[i]? with
 | none => simp [hr] at h
 | some o =>
  simp only [hr] at h
  cases hg : o.guard with
  | none => simp [hg] at h
  | some p =>
   obtain ⟨j', b'⟩ := p
   simp only [hg, Bool.and_eq_true, beq_iff_eq] at h
   have e1 := Nat.eq_of_beq_eq_true h.1
   have e2 := h.2
   subst e1; subst e2
   simp [hg]
theorem M8 {j q : Nat} {b : Bool} (hg : ∀ f' : Fr, f' q = f' q -> True) (hgd : ∀ f' : Fr, ∀ v, f' q = v -> v = undef \/ v = .bool (!b) -> gd R f' (some (j, b)) = false) : ∀ (m : Nat) {l : List Nat} {f : Fr}, (f q = undef \/ f q = .bool (!b)) -> RWP P ro n R Q (l.drop m) (sst R l m f) w -> sok R j b q l m = true -> RWP P ro n R Q l f w
 | 0, l, f, _, k, _ => by cases l <;> exact k
 | m + 1, [], f, _, k, h => by simp [sok] at h
 | m + 1, i :: l, f, hf, k, h => by
  simp only [sok, Bool.and_eq_true] at h
  have hf' : (AY f (Bd R i) undef) q = f q := NS h.2.1
  exact RWP.skip (Q8 h.1) (hgd f _ rfl hf) (M8 hg hgd m (by rw [hf']; exact hf) k h.2.2)
def gb (R : Array Oper) : List Nat -> Bool
 | i :: _ => (match RO R i with | some (_, b) => b | none => false)
 | [] => false
theorem Ss {b c : Bool} (hc : c = b) (m : Nat) {l : List Nat} {f : Fr} (k : RWP P ro n R Q (l.drop m) (sst R l m f) w) (h : sok R (gj R l) (!b) (gq R l) l m = true := by kernel_rfl)
  (hj : FA R (gj R l) = some (gq R l) := by kernel_rfl) (hf : f (gq R l) = .bool c := by kernel_rfl) : RWP P ro n R Q l f w :=
 M8 (fun _ _ => trivial) (fun f' v e hv => by
  rcases hv with hv | hv
  ·exact RM hj (e.trans hv)
  ·exact RN hj (e.trans hv) rfl) m (.inr (by rw [hf, hc]; simp)) k h
theorem Su' (m : Nat) {l : List Nat} {f : Fr} (k : RWP P ro n R Q (l.drop m) (sst R l m f) w) (h : sok R (gj R l) (gb R l) (gq R l) l m = true := by kernel_rfl)
  (hj : FA R (gj R l) = some (gq R l) := by kernel_rfl) (hf : f (gq R l) = undef := by kernel_rfl) : RWP P ro n R Q l f w :=
 M8 (fun _ _ => trivial) (fun f' v e hv => by
  rcases hv with hv | hv
  ·exact RM hj (e.trans hv)
  ·exact RN hj (e.trans hv) rfl) m (.inl hf) k h
end
end Go.Proofs.YtaihlcdkcampbaaGreatDoor
