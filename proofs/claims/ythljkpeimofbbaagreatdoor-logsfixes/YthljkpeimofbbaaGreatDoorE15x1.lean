/- Lemmas, printed by a program and by hand; no statement is proved here. -/
import Derived.Test.YthljkpeimofbbaaGreatDoorRows
import Derived.Test.YthljkpeimofbbaaGreatDoorTie
import Derived.Test.YthljkpeimofbbaaGreatDoorCards
import Derived.Below
import Derived.Deep.Draws
import Derived.Ground.GgwProg
import Derived.Ground.Names2Prog
import Derived.Ground.SlgnProg
import Derived.HandedShaped
import Derived.IntWalk
import Derived.JoinedOf
import Derived.KernelRfl
import Derived.LaidMore
import Derived.Laws.BytesString
import Derived.Laws.Cells
import Derived.Laws.Concat
import Derived.Laws.Cover3
import Derived.Laws.Entries
import Derived.Laws.Externs
import Derived.Laws.NewBlocks
import Derived.Laws.Rows
import Derived.Laws.Sem
import Derived.Laws.Slices
import Derived.Laws.Strings
import Derived.Laws.StructEq
import Derived.Laws.World
import Derived.Lay
import Derived.Lib.AppendStr
import Derived.Lib.AtoiAllCases
import Derived.Lib.AtoiTie
import Derived.Lib.Builder
import Derived.Lib.LaidTab
import Derived.Lib.LaidU8
import Derived.MapKept
import Derived.OpenShut
import Derived.OrdersHeld
import Derived.OrdersIn
import Derived.PinnedBridge
import Derived.ProofKit
import Derived.RangeFuncCalls
import Derived.RangeFuncLeaves
import Derived.RangeFuncRecord
import Derived.Scope
import Derived.SevenTiedAt
import Derived.Shelf.Bits.Mul64
import Derived.Shelf.GgClosure.StringsIndexFunc
import Derived.Shelf.GgClosure.StringsIndexFuncTop
import Derived.Shelf.GgClosure.StringsTrimFunc
import Derived.Shelf.LaysC
import Derived.Shelf.LaysM
import Derived.Shelf.Slices.Cells
import Derived.Shelf.Slices.Clone
import Derived.Shelf.Slices.CompactS
import Derived.Shelf.Slices.Empties2
import Derived.Shelf.Slices.Equal
import Derived.Shelf.Slices.In.SortNone
import Derived.Shelf.Slices.SearchI
import Derived.Shelf.Slices.Turned
import Derived.Shelf.SlicesE.Clone
import Derived.Shelf.SlicesE.Equal
import Derived.Shelf.SlicesE.Index
import Derived.Shelf.Small.Bits
import Derived.Shelf.Small.Utf8
import Derived.Shelf.Small.Wraps
import Derived.Shelf.Sort.Plain
import Derived.Shelf.Strconv.Atoi
import Derived.Shelf.Strconv.AtoiAll
import Derived.Shelf.Strconv.AtoiErr
import Derived.Shelf.Strconv.AtoiErrFast
import Derived.Shelf.Strconv.AtoiFail
import Derived.Shelf.Strconv.AtoiInnerAll
import Derived.Shelf.Strconv.AtoiLong
import Derived.Shelf.Strconv.Clone
import Derived.Shelf.Strconv.ErrVarAll
import Derived.Shelf.Strconv.Itoa0
import Derived.Shelf.Strconv.Itoa1
import Derived.Shelf.Strconv.Itoa2
import Derived.Shelf.Strconv.Itoa3
import Derived.Shelf.Strconv.Lower
import Derived.Shelf.Strconv.ParseInt10
import Derived.Shelf.Strconv.ParseInt10At16
import Derived.Shelf.Strconv.ParseInt10At32
import Derived.Shelf.Strconv.ParseInt10At64
import Derived.Shelf.Strconv.ParseInt10At8
import Derived.Shelf.Strconv.ParseIntEmpty
import Derived.Shelf.Strconv.ParseUint10
import Derived.Shelf.Strconv.ParseUint10Any
import Derived.Shelf.Strconv.ParseUint10At
import Derived.Shelf.Strconv.ParseUint10Empty
import Derived.Shelf.Strconv.ParseUint10b16
import Derived.Shelf.Strconv.ParseUint10b32
import Derived.Shelf.Strconv.ParseUint10b64
import Derived.Shelf.Strconv.ParseUint10b8
import Derived.Shelf.Strconv.ParseUintEmpty
import Derived.Shelf.Strconv.RangeError
import Derived.Shelf.Strconv.SyntaxError
import Derived.Shelf.Strconv.ToError
import Derived.Shelf.Strconv.ToErrorRange
import Derived.Shelf.Strings.Builder1
import Derived.Shelf.Strings.Builder2
import Derived.Shelf.Strings.Builder2Cap
import Derived.Shelf.Strings.BuilderCap
import Derived.Shelf.Strings.BuilderF
import Derived.Shelf.Strings.BuilderK
import Derived.Shelf.Strings.Count
import Derived.Shelf.Strings.Cut
import Derived.Shelf.Strings.Explode
import Derived.Shelf.Strings.FuncGrows
import Derived.Shelf.Strings.OnBuilder
import Derived.Shelf.Strings.Prefix
import Derived.Shelf.Strings.Repeat
import Derived.Shelf.Strings.RuneCount
import Derived.Shelf.Strings.Search1
import Derived.Shelf.Strings.Search2
import Derived.Shelf.Strings.Search3
import Derived.Shelf.Strings.Shaped
import Derived.Shelf.Strings.Split
import Derived.Shelf.Strings.SplitShaped
import Derived.Shelf.Unicode.Decode
import Derived.Shelf.Unicode.DecodeAny
import Derived.Shelf.Unicode.DecodeLast
import Derived.Shelf.Unicode.DecodeSlow
import Derived.Shelf.Utf8.RuneCount
import Derived.SizedLaws
import Derived.Sort.Grow
import Derived.Stop.Joined
import Derived.WalkKit
import Derived.WideKeyArgs
import Derived.WideKeyRuns
import Derived.WideLaws
set_option linter.unusedVariables false
set_option linter.unusedSimpArgs false
set_option linter.unusedSectionVars false
set_option maxHeartbeats 4000000
set_option maxRecDepth 100000
namespace Go.Proofs.YthljkpeimofbbaaGreatDoor
open Go.Lib (decDigits)
abbrev xA:=@Bool.and_eq_true
abbrev xB:=@List.getElem?_eq_getElem
abbrev xC:=@Result.andThen_ok
abbrev xD:=@List.mem_cons_of_mem
abbrev xE:=@Sem.run_bind
abbrev xF:=@Nat.lt_succ_self
abbrev xG:=@List.getElem?_eq_none
abbrev xH:=@Sem.run_pure
abbrev xI:=@Option.some.injEq
abbrev xJ:=@List.length_append
abbrev xK:=@Nat.eq_of_beq_eq_true
abbrev xL:=@List.mem_cons
abbrev xM:=@Nat.lt_or_ge
abbrev xN:=@Nat.le_refl
abbrev xO:=@List.length_cons
abbrev xP:=@Bool.not_true
abbrev xQ:=@List.all_eq_true
abbrev xR:=@Bool.false_eq_true
abbrev xS:=@List.drop_eq_getElem_cons
abbrev xT:=@List.take_append_of_le_length
abbrev xU:=@Nat.mul_le_mul_right
abbrev xV:=@Nat.zero_le
abbrev xW:=@Option.some.inj
abbrev xX:=@List.drop_append_of_le_length
abbrev xY:=@List.append_assoc
abbrev xZ:=@List.filterMap_cons
abbrev yA:=@List.drop_eq_nil_of_le
abbrev yB:=@List.getElem?_cons_zero
abbrev yC:=@List.getElem?_cons_succ
abbrev yD:=@List.mem_cons_self
abbrev yE:=@List.nodup_cons
abbrev yF:=@List.mem_append
abbrev yG:=@List.length_take
abbrev yH:=@List.mem_of_getElem?
abbrev yI:=@Nat.add_mul
abbrev yJ:=@Array.getElem?_eq_some_iff
abbrev yK:=@List.length_drop
abbrev yL:=@List.getElem_mem
abbrev yM:=@Bool.true_and
abbrev yN:=@Int.toNat_natCast
abbrev yO:=@List.getElem?_toArray
abbrev yP:=@Array.getElem?_toList
abbrev yQ:=@List.getElem?_append_right
abbrev yR:=@List.getElem?_drop
abbrev yS:=@Bool.eq_iff_iff
abbrev yT:=@List.getElem?_append_left
abbrev yU:=@List.getElem?_take_of_lt
abbrev yV:=@Nat.succ_mul
abbrev yW:=@List.take_length
abbrev yX:=@List.all_cons
abbrev yY:=@List.map_cons
abbrev yZ:=@Array.ext'
abbrev zB:=@List.length_singleton
abbrev zC:=@Nat.lt_of_lt_of_le
abbrev zD:=@List.map_nil
abbrev zF:=@Array.getD_eq_getD_getElem?
abbrev zH:=@Array.getElem_setIfInBounds
abbrev zI:=@List.all_append
abbrev zJ:=@Bool.decide_and
abbrev zK:=@List.mem_filterMap
abbrev zM:=@Bool.not_false
abbrev zN:=@Nat.min_eq_left
abbrev zP:=@List.take_add_one
abbrev zQ:=@Bool.false_or
abbrev zR:=@List.eraseIdx_cons_succ
abbrev zS:=@Array.getElem?_setIfInBounds
abbrev zT:=@List.set_cons_succ
abbrev zU:=@List.ext_getElem?
abbrev zV:=@List.getElem?_map
abbrev zW:=@List.drop_drop
abbrev zY:=@List.drop_zero
abbrev zZ:=@Nat.add_zero
abbrev wA:=@Nat.zero_add
abbrev wB:=@Array.toList_append
abbrev wC:=@List.findSome?_cons
abbrev wD:=@Nat.eq_zero_or_pos
abbrev wE:=@List.nil_append
abbrev wF:=@List.getElem?_take
abbrev wG:=@List.append_nil
abbrev wH:=@Array.getElem?_eq_none
abbrev wI:=@List.nodup_nil
abbrev wJ:=@Nat.le_trans
abbrev wK:=@List.take_append_drop
abbrev wL:=@List.getD_eq_getElem?_getD
abbrev wM:=@Option.map_some
abbrev wN:=@List.set_cons_zero
abbrev wO:=@List.findSome?_nil
abbrev wP:=@Int.cast_ofNat_Int
abbrev wQ:=@Bool.and_false
abbrev wR:=@List.take_of_length_le
abbrev wS:=@List.cons_append
abbrev wT:=@List.length_replicate
abbrev wU:=@Nat.add_comm
abbrev wV:=@List.drop_take
abbrev wW:=@Nat.le_succ_of_le
abbrev wX:=@Bool.or_true
abbrev X6:=List UInt8
abbrev lN1:=([67,65,76,76,32,68,76,49,88,89,10,67,65,84,69,71,79,82,89,32,49,10,67,76,65,73,77,69,68,32,50,48,10,74,85,77,80,83,10,81,83,79,32,55,32,49,52,48,50,53,32,77,32,49,32,48,49,49,53,32,75,49,65,66,67,32,62,32,53,57,57,32,48,49,50,32,60,32,53,57,57,32,48,48,51,10,101,110,100,10]:X6)
abbrev lN0:=([67,65,76,76,32,68,76,49,88,89,10,67,65,84,69,71,79,82,89,32,49,10,80,79,87,69,82,32,49,48,48,10,67,76,65,73,77,69,68,32,50,48,10,74,85,77,80,83,10,81,83,79,32,55,32,49,52,48,50,53,32,77,32,49,32,48,49,49,53,32,75,49,65,66,67,32,62,32,53,57,57,32,48,49,50,32,60,32,53,57,57,32,48,48,51,10,69,78,68,10]:X6)
abbrev X7:=Option Addr
structure Fr where
 v:Nat->Value
 d:List Deferred
instance:CoeFun Fr fun _=>Nat->Value:=⟨Fr.v⟩
def upd(f:Fr)(d:Nat)(v:Value):Fr:=⟨fun i=>cond (Nat.beq i d) v (f.v i),f.d⟩
def A1(f:Fr):Option Nat->Value->Fr
 | some d,v=>upd f d v
 | none,_=>f
def fev(f:Fr):Operand->Value
 | .tmp t=>f t
 | .const v=>v
 | .global g=>.pointer (some ⟨g,0,none⟩)
 | .func g=>.func (.func g) #[] #[]
structure Fy(n:Nat)(f:Fr)(a:Act):Prop where
 size:a.tmps.size=n
 at_:∀ i,a.tmps.getD i undef=f i
 defers:a.defers=f.d
theorem Fy.eval{n:Nat}{f:Fr}{a:Act}(h:Fy n f a)(x:Operand):a.eval x=fev f x:=by
 cases x with
 | tmp t=>exact h.at_ t
 | const v=>rfl
 | global g=>rfl
 | func g=>rfl
theorem Fy.evalF{n:Nat}{f:Fr}{a:Act}(h:Fy n f a):a.eval=fev f:=funext h.eval
theorem Fy.put{n:Nat}{f:Fr}{a:Act}(h:Fy n f a){dst:Option Nat}(hd:dst.all (· < n)=true)(v:Value):Fy n (A1 f dst v) (a.put dst v):=by
 cases dst with
 | none=>exact h
 | some d=>
  have hlt:d < n:=by simpa using hd
  refine⟨by simp[Act.put,h.size],fun i=>?_,by simp[Act.put,h.defers,A1,upd]⟩;have hi:=h.at_ i;simp only[Act.put,A1,upd];by_cases e:i=d
  ·subst e;have hl:i < a.tmps.size:=by rw[h.size];exact hlt
   simp[zF,hl]
  ·have e':Nat.beq i d=false:=by
    cases hb:Nat.beq i d with
    | false=>rfl
    | true=>exact absurd (xK hb) e
   rw[e',cond_false,<-hi];simp[zF,zS,Ne.symm e]
def asB:Value->Option Bool
 | .bool b=>some b
 | _=>none
def yf(R:Array Oper)(f:Fr)(j:Nat):Option Bool:=
 match(R[j]?).bind (·.dst)with
 | some d=>asB (f d)
 | none=>none
theorem Fy.yielded{n:Nat}{f:Fr}{a:Act}(h:Fy n f a)(R:Array Oper)(j:Nat):yielded R a.tmps j=yf R f j:=by
 unfold Go.yielded yf;cases hd:(R[j]?).bind (·.dst)with
 | none=>simp
 | some d=>
  have:=h.at_ d;simp only[Option.bind_some];rw[<-this,zF];cases hx:a.tmps[d]? with
  | none=>simp[asB,undef]
  | some v=>cases v <;> simp[asB]
def lq(n:Nat)(Q:Exit->Fr->World->Prop):Exit->Act->World->Prop:=fun e a w=>∃ f,Fy n f a/\Q e f w
def okR(n:Nat)(R:Array Oper):Bool:=R.all fun o=>o.dst.all (· < n)
def FW(ro:Option Nat):Fence:={Fence.wide with round:=ro}
def RWP(P:Program)(ro:Option Nat)(n:Nat)(R:Array Oper)(Q:Exit->Fr->World->Prop)(l:List Nat)(f:Fr)(w:World):Prop:=
 okR n R=true->∀ a,Fy n f a->wpOpsIn (FW ro) 0 P R (lq n Q) l a w
def CWP(P:Program)(ro:Option Nat)(n:Nat)(c:Code)(Q:Exit->Fr->World->Prop)(f:Fr)(w:World):Prop:=
 ∀ a,Fy n f a->c.wpIn (FW ro) 0 P (lq n Q) a w
def opq(R:Array Oper)(i:Nat):Option (Option Nat×Op×TypeId×Option (Nat×Bool)):=(R[i]?).map fun o=>(o.dst,o.op,o.type,o.guard)
def Am(ρ:Operand->Value)(op:Op)(ty:TypeId):Sem Next:=execOp ρ {dst:=none,op:=op,type:=ty,pos:="",after:=#[],guard:=none}
theorem CE(ρ:Operand->Value)(o:Oper):execOp ρ o=Am ρ o.op o.type:=rfl
def Nz:Op->Bool
 | .defer _=>true
 | _=>false
theorem JS{P:Program}{ρ:Operand->Value}{op:Op}{ty:TypeId}{w w':World}{x:Next}(hx:∀ d,x≠.defer d)(h:(Am ρ op ty).run P w=.ok x w'):Nz op=false:=by
 cases op <;> first | rfl | skip
 rename_i c;have e:Am ρ (.defer c) ty=(do pure (Next.defer (<-resolve ρ c ty))):=rfl;rw[e,xE]at h;cases hr:(resolve ρ c ty).run P w with
 | ok d w1=>rw[hr]at h;simp at h;exact absurd h.1.symm (hx _)
 | halt x w1=>rw[hr]at h;simp[Result.andThen]at h
theorem I5{op:Op}(h:Nz op=false)(ro:Option Nat)(ρ:Operand->Value)(o:Oper)(ho:o.op=op):Oper.semAt ro ρ o=execOp ρ o:=
 Oper.semAt_eq ro ρ o fun c hc=>by rw[ho]at hc;rw[hc]at h;cases h
theorem Bp{P:Program}{ro:Option Nat}{w:World}{ρ:Operand->Value}{o:Oper}:∀ f,o.about P w ρ=some f->(FW ro).fn f:=fun _ _=>trivial
theorem EG{P:Program}{ro:Option Nat}{n:Nat}{f:FuncId}{args:Array Value}{w:World}{S:Ending->World->Prop}(h:Calls P f args w S):CallsIn (FW ro) n P f args w S:=
 (callsIn_wide (n:=n)).2 h
def gd(R:Array Oper)(f:Fr):Option (Nat×Bool)->Bool
 | none=>true
 | some (j,want)=>yf R f j==some want
theorem Fy.wanted{n:Nat}{f:Fr}{a:Act}(h:Fy n f a)(R:Array Oper)(o:Oper):Region.wanted o (Go.yielded R a.tmps)=gd R f o.guard:=by
 unfold Region.wanted gd;cases o.guard with
 | none=>rfl
 | some p=>obtain⟨j,want⟩:=p;simp[h.yielded R j]
section
variable {P:Program} {ro:Option Nat} {n:Nat} {R:Array Oper} {Q:Exit -> Fr -> World -> Prop}
theorem CK{i:Nat}{dst:Option Nat}{op:Op}{ty:TypeId}{g:Option (Nat×Bool)}(h:opq R i=some (dst,op,ty,g)):
  ∃ o:Oper,R[i]? =some o/\o.dst=dst/\o.op=op/\o.type=ty/\o.guard=g:=by
 unfold opq at h;cases ho:R[i]? with
 | none=>simp[ho]at h
 | some o=>
  simp only[ho,wM,xI,Prod.mk.injEq]at h;exact⟨o,rfl,h.1,h.2.1,h.2.2.1,h.2.2.2⟩
theorem Ew(h:okR n R=true){i:Nat}{o:Oper}(ho:R[i]? =some o):o.dst.all (· < n)=true:=by
 unfold okR at h;rw[Array.all_eq_true]at h;have hi:i < R.size:=by
  rcases xM i R.size with h' | h'
  ·exact h'
  ·simp[wH h']at ho
 have:=h i hi;have e:R[i]=o:=by simpa [Array.getElem?_eq_getElem hi]using ho
 rw[e]at this;exact this
theorem RWP.nil{f:Fr}{w:World}(h:Q .normal f w):RWP P ro n R Q [] f w:=fun _ a ha=>⟨f,ha,h⟩
abbrev XE:=@RWP.nil
theorem RWP.val{i:Nat}{rest:List Nat}{f:Fr}{w w':World}{v:Value}{dst:Option Nat}{op:Op}{ty:TypeId}{g:Option (Nat×Bool)}
  (ho:opq R i=some (dst,op,ty,g)) (hg:gd R f g=true) (hy:(Am (fev f) op ty).run P w=.ok (.value v) w')
  (k:RWP P ro n R Q rest (A1 f dst v) w'):RWP P ro n R Q (i::rest) f w:=by
 intro hok a ha;obtain⟨o,hR,hd,hop,hty,hgd⟩:=CK ho;rw[wpOpsIn];simp only[hR];rw[ha.wanted R o,hgd,hg];simp only[if_true];refine⟨Bp,?_⟩;rw[I5 (JS (fun _ e=>by cases e) hy) _ _ o hop,CE,ha.evalF,hop,hty,hy];simp only[Oper.uponIn];rw[hd];exact k hok _ (ha.put (by rw[<-hd];exact Ew hok hR) v)
abbrev XF:=@RWP.val
theorem RWP.unit{i:Nat}{rest:List Nat}{f:Fr}{w w':World}{op:Op}{ty:TypeId}{g:Option (Nat×Bool)}
  (ho:opq R i=some (none,op,ty,g)) (hg:gd R f g=true) (hy:(Am (fev f) op ty).run P w=.ok .skip w')
  (k:RWP P ro n R Q rest f w'):RWP P ro n R Q (i::rest) f w:=by
 intro hok a ha;obtain⟨o,hR,hd,hop,hty,hgd⟩:=CK ho;rw[wpOpsIn];simp only[hR];rw[ha.wanted R o,hgd,hg];simp only[if_true];refine⟨Bp,?_⟩;rw[I5 (JS (fun _ e=>by cases e) hy) _ _ o hop,CE,ha.evalF,hop,hty,hy];simp only[Oper.uponIn];rw[hd];exact k hok _ ha
theorem RWP.skip{i:Nat}{rest:List Nat}{f:Fr}{w:World}{dst:Option Nat}{op:Op}{ty:TypeId}{g:Option (Nat×Bool)}
  (ho:opq R i=some (dst,op,ty,g)) (hg:gd R f g=false)
  (k:RWP P ro n R Q rest (A1 f dst undef) w):RWP P ro n R Q (i::rest) f w:=by
 intro hok a ha;obtain⟨o,hR,hd,hop,hty,hgd⟩:=CK ho;rw[wpOpsIn];simp only[hR];rw[ha.wanted R o,hgd,hg,hd];simp only[xR,if_false];refine⟨Bp,?_⟩;exact k hok _ (ha.put (by rw[<-hd];exact Ew hok hR) _)
theorem RWP.enter{i:Nat}{rest:List Nat}{f:Fr}{w:World}{dst:Option Nat}{op:Op}{ty:TypeId}{g:Option (Nat×Bool)}{fid:FuncId}{args:Array Value}{S:Ending->World->Prop}
  (ho:opq R i=some (dst,op,ty,g)) (hg:gd R f g=true) (hy:(Am (fev f) op ty).run P w=.ok (.enter fid args) w)
  (hc:Calls P fid args w S)
  (k:∀ e w',S e w'->match e with
   | .returned v=>RWP P ro n R Q rest (A1 f dst v) w'
   | .panicked chain=>Q (.panic chain) f w'
   | .outgrown=>False):RWP P ro n R Q (i::rest) f w:=by
 intro hok a ha;obtain⟨o,hR,hd,hop,hty,hgd⟩:=CK ho;rw[wpOpsIn];simp only[hR];rw[ha.wanted R o,hgd,hg];simp only[if_true];refine⟨Bp,?_⟩;rw[I5 (JS (fun _ e=>by cases e) hy) _ _ o hop,CE,ha.evalF,hop,hty,hy];simp only[Oper.uponIn];refine⟨(fun h=>by cases h),(EG hc).mono fun e w' hS=>?_⟩;have:=k e w' hS;cases e with
 | returned v=>simp only at this ⊢;rw[hd];exact this hok _ (ha.put (by rw[<-hd];exact Ew hok hR) v)
 | panicked ch=>simp only at this ⊢;exact⟨f,ha,this⟩
 | outgrown=>exact this.elim
abbrev XG:=@RWP.enter
def OJ(fn:Func):Code:=fn.body.getD .skip
def cs1:Code->Code | .seq a _=>a | _=>.skip
def cs2:Code->Code | .seq _ b=>b | _=>.skip
def cbd:Code->Code | .block _ b=>b | .loop b=>b | .scope b=>b | _=>.skip
def cid:Code->Nat | .block id _=>id | .region id _ _=>id | .exit id=>id | _=>0
def Mg:Code->Array Oper | .region _ R _=>R | _=>#[]
def UE:Code->Code | .cond _ a _=>a | _=>.skip
def UG:Code->Code | .cond _ _ b=>b | _=>.skip
def Sf:Code->Operand | .cond c _ _=>c | _=>.tmp 0
def kin:Code->Nat
 | .skip=>0 | .region _ _ false=>1 | .region _ _ true=>2 | .seq _ _=>3 | .cond _ _ _=>4 | .block _ _=>5 | .loop _=>6 | .exit _=>7 | .ret=>8 | _=>9
def IE(K:Fr->World->Prop)(Q:Exit->Fr->World->Prop):Exit->Fr->World->Prop
 | .normal,f,w=>K f w
 | e,f,w=>Q e f w
def ID(id:Nat)(Q:Exit->Fr->World->Prop):Exit->Fr->World->Prop
 | .exit id',f,w=>if id'=id then Q .normal f w else Q (.exit id') f w
 | e,f,w=>Q e f w
theorem CWP.mono{c:Code}{Q':Exit->Fr->World->Prop}{f:Fr}{w:World}(h:CWP P ro n c Q' f w)(hq:∀ e f w,Q' e f w->Q e f w):CWP P ro n c Q f w:=
 fun a ha=>wpIn_mono (h a ha) fun _ _ _ ⟨f,hf,hQ⟩=>⟨f,hf,hq _ _ _ hQ⟩
theorem CWP.skip{c:Code}(hk:kin c=0){f:Fr}{w:World}(h:Q .normal f w):CWP P ro n c Q f w:=by
 cases c <;> simp[kin]at hk
 ·exact fun a ha=>wpIn_skip ⟨f,ha,h⟩
 ·rename_i d;cases d <;> simp[kin]at hk
theorem CWP.ret{c:Code}(hk:kin c=8){f:Fr}{w:World}(h:Q .ret f w):CWP P ro n c Q f w:=by
 cases c <;> simp[kin]at hk
 ·rename_i d;cases d <;> simp[kin]at hk
 ·exact fun a ha=>wpIn_ret ⟨f,ha,h⟩
theorem CWP.exit{c:Code}(hk:kin c=7){f:Fr}{w:World}(h:Q (.exit (cid c)) f w):CWP P ro n c Q f w:=by
 cases c <;> simp[kin]at hk
 ·rename_i d;cases d <;> simp[kin]at hk
 ·exact fun a ha=>wpIn_exit ⟨f,ha,h⟩
theorem CWP.region{c:Code}(hk:kin c=1)(hok:okR n (Mg c)=true){l:List Nat}(hl:List.range (Mg c).size=l){f:Fr}{w:World}(h:RWP P ro n (Mg c) Q l f w):CWP P ro n c Q f w:=by
 subst hl;cases c <;> simp[kin]at hk;rename_i id ops d;cases d <;> simp[kin]at hk;exact fun a ha=>wpIn_region (h hok a ha)
theorem CWP.seq{c:Code}(hk:kin c=3){f:Fr}{w:World}(h:CWP P ro n (cs1 c) (IE (CWP P ro n (cs2 c) Q) Q) f w):CWP P ro n c Q f w:=by
 cases c <;> simp[kin]at hk
 ·rename_i d;cases d <;> simp[kin]at hk
 ·refine fun a ha=>wpIn_seq (wpIn_mono (h a ha) ?_);rintro e a w ⟨f,hf,hQ⟩;cases e <;> first | exact hQ a hf | exact⟨f,hf,hQ⟩
theorem CWP.block{c:Code}(hk:kin c=5){f:Fr}{w:World}(h:CWP P ro n (cbd c) (ID (cid c) Q) f w):CWP P ro n c Q f w:=by
 cases c <;> simp[kin]at hk
 ·rename_i d;cases d <;> simp[kin]at hk
 ·rename_i id body;refine fun a ha=>wpIn_block (wpIn_mono (h a ha) ?_);rintro e a w ⟨f,hf,hQ⟩;cases e with
  | exit id'=>
   simp only[ID,cid]at hQ;simp only[Exit.inBlock];split
   ·rename_i he;simp only[he,if_true]at hQ;exact⟨f,hf,hQ⟩
   ·rename_i he;simp only[he,if_false]at hQ;exact⟨f,hf,hQ⟩
  | _=>exact⟨f,hf,hQ⟩
theorem CWP.cond{c:Code}(hk:kin c=4){f:Fr}{w:World}{t:Bool}(hc:fev f (Sf c)=.bool t)(ht:t=true->CWP P ro n (UE c) Q f w)(hf:t=false->CWP P ro n (UG c) Q f w):CWP P ro n c Q f w:=by
 cases c <;> simp[kin]at hk
 ·rename_i d;cases d <;> simp[kin]at hk
 ·exact fun a ha=>wpIn_cond_split (by rw[ha.eval];exact hc) (fun h=>ht h a ha) (fun h=>hf h a ha)
theorem CWP.loop{c:Code}(hk:kin c=6){f:Fr}{w:World}(I:Nat->Fr->World->Prop)(m:Nat)(M:I m f w)
  (round:∀ m f w,I m f w->CWP P ro n (cbd c) (IE (fun f' w'=>∃ m',m' < m/\I m' f' w') Q) f w):CWP P ro n c Q f w:=by
 cases c <;> simp[kin]at hk
 ·rename_i d;cases d <;> simp[kin]at hk
 ·rename_i body;intro a ha b k cs hro hb hr;have key:∀ m a w f,Fy n f a->I m f w->
    ∃ e a' w',lq n Q e a' w'/\ArrivesIn (Machine.fenced P (FW ro)) P (lone (b.atR a (.code body::.inLoop body::k)) cs w) b k cs e a' w':=by
   intro m
   induction m using Nat.strongRecOn with
   | _ m ih=>
    intro a w f hfa hI;obtain⟨e,a₁,w₁,⟨G,J,hq⟩,harr⟩:=round m f w hI a hfa b (.inLoop body::k) cs hro hb hr;cases e with
    | normal=>
     obtain⟨m',hlt,hI1⟩:=hq;obtain⟨e₂,a₂,w₂,hq₂,harr₂⟩:=ih m' hlt a₁ w₁ G J hI1;exact⟨e₂,a₂,w₂,hq₂,.of_steps (StepsIn.trans harr (.one (fenced_calm hb hr rfl) stepR_inLoop)) harr₂⟩
    | exit id=>exact⟨_,a₁,w₁,⟨G,J,hq⟩,.pass (x:=.inLoop body) rfl (fun _ _=>.inl (by simp)) harr⟩
    | goto l=>exact⟨_,a₁,w₁,⟨G,J,hq⟩,.pass (x:=.inLoop body) rfl (fun _ _=>.inl (by simp)) harr⟩
    | ret=>exact⟨_,a₁,w₁,⟨G,J,hq⟩,.pass (x:=.inLoop body) rfl (fun _ _=>.inl (by simp)) harr⟩
    | panic ch=>exact⟨_,a₁,w₁,⟨G,J,hq⟩,.pass (x:=.inLoop body) rfl (fun _ _=>.inl (by simp)) harr⟩
    | outgrown=>exact⟨_,a₁,w₁,⟨G,J,hq⟩,.pass (x:=.inLoop body) rfl (fun _ _=>.inl (by simp)) harr⟩
  obtain⟨e,a',w',hq,harr⟩:=key m a w f ha M;exact⟨e,a',w',hq,.of_steps (.one (fenced_calm hb hr rfl) stepR_loop) harr⟩
abbrev XH:=@CWP.loop
def L7(f:Fr):ResultVar->Sem Value
 | .tmp t=>pure (f t)
 | .cell a t=>do loadVar t (<-asAddr (f a))
def DN(rs:Array ResultVar)(f:Fr):Sem Value:=do
 let vs<-rs.mapM (L7 f)
 pure (if h:vs.size=1 then vs[0]else .tuple vs)
theorem Fy.results{f:Fr}{a:Act}(h:Fy n f a)(fn:Func):results fn a.tmps=DN fn.results f:=by
 unfold Go.results DN;congr 1
 ·congr 1;funext x;cases x <;> simp[h.at_,L7]
def WT(P:Program)(rs:Array ResultVar)(S:Ending->World->Prop):Exit->Fr->World->Prop
 | .normal,f,w | .ret,f,w=>f.d=[]/\ ∃ v,(DN rs f).run P w=.ok v w/\S (.returned v) w
 | .panic chain,f,w=>f.d=[]/\S (.panicked chain) w
 | .outgrown,_,w=>S .outgrown w
 | _,_,_=>False
def f0(args:List Value):Fr:=⟨fun i=>args.getD i undef,[]⟩
theorem OA{fid:FuncId}{fn:Func}{c:Code}{args:List Value}{w:World}{S:Ending->World->Prop}
  (hf:P.funcs[fid]? =some fn) (hb:fn.body=some c) (hn:fn.ntmps=n) (hsz:decide (args.length<=n)=true)
  (h:CWP P none n c (WT P fn.results S) (f0 args) w):Calls P fid args.toArray w S:=by
 have hsz':args.length<=n:=by simpa using hsz
 refine calls_of_wp hf hb (wp_mono (wpIn_wide.1 (h _ ⟨?_,?_,rfl⟩)) ?_)
 ·simp;omega
 ·intro i;simp only[f0];rw[zF];by_cases hi:i < args.length
  ·simp[Array.getElem?_append,hi]
  ·rw[Array.getElem?_append_right (by simp;omega)];rw[wL,xG (by omega)];simp only[yO,Array.getElem?_replicate];split <;> rfl
 ·rintro e a w ⟨f,hf,hQ⟩;cases e with
  | normal=>obtain⟨hd,v,hr,hS⟩:=hQ;exact⟨hf.defers.trans hd,v,by rw[hf.results fn];exact hr,hS⟩
  | ret=>obtain⟨hd,v,hr,hS⟩:=hQ;exact⟨hf.defers.trans hd,v,by rw[hf.results fn];exact hr,hS⟩
  | panic ch=>exact⟨hf.defers.trans hQ.1,hQ.2⟩
  | outgrown=>exact hQ
  | exit id=>exact hQ
  | goto l=>exact hQ
end
abbrev oO:=Option Nat×Obj
def Up:TypeDesc->Bool
 | .struct _ | .array _ _=>true
 | _=>false
def Ef(P:Program)(t:TypeId):Option (Bool×Nat):=
 match P.underlying t,P.info? t with
 | some d,some i=>some (Up d,i.size)
 | _,_=>none
def Ls(P:Program)(s:TypeId)(i:Nat):Option (Nat×Nat):=
 match P.underlying s with
 | some (.struct fs)=>match fs[i]? with
  | some f=>match P.info? f.type with
   | some j=>some (f.offset,j.size)
   | none=>none
  | none=>none
 | _=>none
def R8(P:Program)(s:TypeId)(i:Nat):Option (Nat×TypeId):=
 match P.underlying s with
 | some (.struct fs)=>match fs[i]? with
  | some f=>some (f.offset,f.type)
  | none=>none
 | _=>none
def Bq(P:Program)(t:TypeId):Option Value:=match P.info? t with | some i=>i.zero | none=>none
def A2(P:Program)(t:TypeId):Option (TypeId×Nat×Nat):=
 match P.underlying t with
 | some (.slice e)=>match P.info? e with
  | some i=>some (e,i.size,i.bytes)
  | none=>none
 | _=>none
def Ap(C:Array Value)(o k:Nat):List Value:=(C.toList.drop o).take k
def mkV(agg:Bool)(cs:List Value):Value:=bif agg then .agg cs.toArray else cs.headD undef
def BE:Array Value->Nat->List Value->Array Value
 | C,_,[]=>C
 | C,o,v::vs=>BE (C.setIfInBounds o v) (o + 1) vs
theorem Ca:∀(vs:List Value)(C:Array Value)(o:Nat),(BE C o vs).size=C.size
 | [],_,_=>rfl
 | v::vs,C,o=>by rw[BE,Ca vs];simp
def Ct(w:World)(b:Nat)(o:Obj):World:={w with heap:=w.heap.setIfInBounds b o}
@[simp] theorem WN(w:World)(b:Nat)(o:Obj):(Ct w b o).heap.size=w.heap.size:=by simp[Ct]
theorem Pk{w:World}{b:Nat}{o o':Obj}(h:w.heap[b]? =some o):(Ct w b o').heap[b]? =some o':=by
 have:b < w.heap.size:=(yJ.1 h).1;simp[Ct,this]
theorem KE(w:World){b c:Nat}(o:Obj)(h:c≠b):(Ct w b o).heap[c]? =w.heap[c]?:=by
 simp[Ct,zS,Ne.symm h]
theorem Th{w:World}{b:Nat}{o:Obj}(h:w.heap[b]? =some o):Ct w b o=w:=by
 have hb:b < w.heap.size:=(yJ.1 h).1;have he:=(yJ.1 h).2;cases w with
 | mk heap tape drawn os output=>
  simp only[Ct,World.mk.injEq,and_true];apply Array.ext
  ·simp
  ·intro i h1 h2;rw[zH];split
   ·rename_i hi;subst hi;exact he.symm
   ·rfl
theorem Ti(w:World)(b:Nat)(o o':Obj):Ct (Ct w b o) b o'=Ct w b o':=by
 cases w with
 | mk heap tape drawn os output=>
  simp only[Ct,World.mk.injEq,and_true];apply Array.ext
  ·simp
  ·intro i I h2;have G:i < heap.size:=by simpa using I
   rw[zH (hj:=by simpa using G),zH (hj:=G),zH (hj:=G)];split <;> rfl
theorem PP{w:World}{b o:Nat}{C:Array Value}{E:TypeId}{fz:Nat×Nat}{v:Value}(h:w.heap[b]? =some (.cells C E fz)):
  w.setCell ⟨b,o,none⟩ v=Ct w b (.cells (C.setIfInBounds o v) E fz):=by
 have hb:b < w.heap.size:=(yJ.1 h).1;have he:=(yJ.1 h).2;cases w with
 | mk heap tape drawn os output=>
  simp only at he hb;simp only[World.setCell,Ct,World.mk.injEq,and_true];apply Array.ext
  ·simp
  ·intro i G h2;have I:i < heap.size:=by simpa using G
   rw[Array.getElem_modify,zH (hj:=I)];by_cases hi:b=i
   ·subst hi;simp[he]
   ·simp[hi]
theorem LM{w:World}{b:Nat}{C:Array Value}{E:TypeId}{fz:Nat×Nat}(h:w.heap[b]? =some (.cells C E fz))(o:Nat):w.cell? ⟨b,o,none⟩=C[o]?:=by
 simp[World.cell?,h]
abbrev Mem:=Nat->Option Obj
abbrev X8(w0:World)(F0:Mem):Prop:=∀ b o,F0 b=some o->w0.heap[b]? =some o
def Mem.le(F F':Mem):Prop:=∀ b o,F b=some o->F' b=some o
abbrev XI:=@Mem.le
theorem Mem.le.refl(F:Mem):XI F F:=fun _ _ h=>h
abbrev XJ:=@Mem.le.refl
theorem Mem.le.t{A B C:Mem}(h:XI A B)(k:XI B C):XI A C:=fun b o x=>k b o (h b o x)
theorem Mem.le.trans{A B C:Mem}(h:XI A B)(k:XI B C):XI A C:=fun b o x=>k b o (h b o x)
def TC(w0 w:World):Prop:=w.os=w0.os/\w.output=w0.output/\w.tape=w0.tape
theorem TC.trans{a b c:World}(h:TC a b)(k:TC b c):TC a c:=⟨k.1.trans h.1,k.2.1.trans h.2.1,k.2.2.trans h.2.2⟩
structure HS(w0:World)(F0:Mem)(w:World)(F:Mem)(L:List oO):Prop where
 base:∀ b o,F0 b=some o->w0.heap[b]? =some o
 fix:TC w0 w
 size:w0.heap.size<=w.heap.size
 keep:∀ b,b < w0.heap.size->w.heap[b]? =w0.heap[b]?
 f0:∀ b,b < w0.heap.size->F b=F0 b
 pers:∀ b o,F b=some o->w.heap[b]? =some o
 own:∀ b o,(some b,o)∈L->w.heap[b]? =some o/\F b=none/\w0.heap.size<=b
 nd:(L.filterMap (·.1)).Nodup
section
variable {w0 w w' w1:World} {F0 F F1:Mem} {L:List (Option Nat × Obj)}
theorem Be{w:World}{b:Nat}{o:Obj}(h:w.heap[b]? =some o):b < w.heap.size:=(yJ.1 h).1
theorem HS.start(h:∀ b o,F b=some o->w.heap[b]? =some o):HS w F w F []:=
 ⟨h,⟨rfl,rfl,rfl⟩,xN _,fun _ _=>rfl,fun _ _=>rfl,h,fun _ _ h=>(by cases h),wI⟩
abbrev XK:=@HS.start
theorem HS.le(h:HS w0 F0 w F L):XI F0 F:=fun b o hb=>by
 rw[h.f0 b (Be (h.base b o hb))];exact hb
theorem HS.heap(h:HS w0 F0 w F L)(e:w'.heap=w.heap)(ef:TC w w':=by exact⟨rfl,rfl,rfl⟩):HS w0 F0 w' F L:=
 ⟨h.base,h.fix.trans ef,by rw[e];exact h.size,fun b hb=>by rw[e];exact h.keep b hb,h.f0,fun b o hb=>by rw[e];exact h.pers b o hb,fun b o hm=>by rw[e];exact h.own b o hm,h.nd⟩
theorem HS.fresh(h:HS w0 F0 w F L):F w.heap.size=none:=by
 cases hF:F w.heap.size with
 | none=>rfl
 | some o=>exact absurd (Be (h.pers _ _ hF)) (Nat.lt_irrefl _)
theorem KG{b:Nat}{L:List oO}(h:b∈L.filterMap (·.1)):∃ o,(some b,o)∈L:=by
 obtain⟨⟨ob,o⟩,hm,he⟩:=zK.1 h;exact⟨o,by simp only at he;rw[<-he];exact hm⟩
theorem Ho(w:World)(o:Obj){b:Nat}(h:b < w.heap.size):(w.alloc o).heap[b]? =w.heap[b]?:=by
 simp only[World.alloc];rw[Array.getElem?_push_lt h];simp[h]
theorem OU(w:World)(o:Obj):(w.alloc o).heap[w.heap.size]? =some o:=by simp only[World.alloc];simp
theorem HS.alloc(h:HS w0 F0 w F L)(o:Obj):HS w0 F0 (w.alloc o) F ((some w.heap.size,o)::L):=by
 refine⟨h.base,h.fix.trans ⟨rfl,rfl,rfl⟩,?_,fun b hb=>?_,h.f0,fun b o hb=>?_,fun b o' hm=>?_,?_⟩
 ·have:=h.size;simp;omega
 ·rw[Ho w _ (zC hb h.size)];exact h.keep b hb
 ·have:=h.pers b o hb;rw[Ho w _ (Be this)];exact this
 ·rcases xL.1 hm with e | hm
  ·cases e;exact⟨OU w _,h.fresh,h.size⟩
  ·obtain⟨G,I,J⟩:=h.own b o' hm;exact⟨by rw[Ho w _ (Be G)];exact G,I,J⟩
 ·simp only[xZ];refine yE.2 ⟨fun hm=>?_,h.nd⟩;obtain⟨o',hm⟩:=KG hm;exact absurd (Be (h.own _ _ hm).1) (Nat.lt_irrefl _)
theorem HS.call(h:HS w0 F0 w F L)(hc:HS w F w1 F1 []):HS w0 F0 w1 F1 L:=by
 refine⟨h.base,h.fix.trans hc.fix,wJ h.size hc.size,fun b hb=>?_,fun b hb=>?_,hc.pers,fun b o hm=>?_,h.nd⟩
 ·rw[hc.keep b (zC hb h.size)];exact h.keep b hb
 ·rw[hc.f0 b (zC hb h.size)];exact h.f0 b hb
 ·obtain⟨G,I,J⟩:=h.own b o hm;have hl:=Be G;exact⟨by rw[hc.keep b hl];exact G,by rw[hc.f0 b hl];exact I,J⟩
theorem HS.put(h:HS w0 F0 w F L){k b:Nat}{o:Obj}(hk:L[k]? =some (some b,o))(o':Obj):HS w0 F0 (Ct w b o') F (L.set k (some b,o')):=by
 have hm:(some b,o)∈L:=yH hk;obtain⟨I,G,J⟩:=h.own b o hm;have hkl:k < L.length:=by
  rcases xM k L.length with h' | h'
  ·exact h'
  ·rw[xG h']at hk;cases hk
 have hmap:(L.set k (some b,o')).filterMap (·.1)=L.filterMap (·.1):=by
  clear h hm I G J
  induction L generalizing k with
  | nil=>rfl
  | cons x L ih=>
   cases k with
   | zero=>
    simp only[yB,xI]at hk;subst hk;rfl
   | succ k=>
    simp only[yC]at hk;simp only[zT,xZ];rw[ih hk (by simpa using hkl)]
 refine⟨h.base,h.fix.trans ⟨rfl,rfl,rfl⟩,by simpa using h.size,fun c hc=>?_,h.f0,fun c oc hF=>?_,fun c oc hmc=>?_,by rw[hmap];exact h.nd⟩
 ·rw[KE _ _ (by omega)];exact h.keep c hc
 ·rw[KE _ _ (fun e=>by rw[e,G]at hF;cases hF)];exact h.pers c oc hF
 ·by_cases hcb:c=b
  ·subst hcb;have:oc=o':=by
    have hnd:=h.nd;clear h I G J hmap hm
    induction L generalizing k with
    | nil=>cases hmc
    | cons x L ih=>
     cases k with
     | zero=>
      simp only[yB,xI]at hk;subst hk;simp only[wN]at hmc;rcases xL.1 hmc with e | hmc
      ·cases e;rfl
      ·simp only[xZ]at hnd;exact absurd (zK.2 ⟨(some c,oc),hmc,rfl⟩:c∈L.filterMap (·.1)) (yE.1 hnd).1
     | succ k=>
      simp only[yC]at hk;simp only[zT]at hmc;rcases xL.1 hmc with e | hmc
      ·subst e;simp only[xZ]at hnd;exact absurd (zK.2 ⟨(some c,o),yH hk,rfl⟩:c∈L.filterMap (·.1)) (yE.1 hnd).1
      ·refine ih (by simpa using hkl) hk hmc ?_;simp only[xZ]at hnd;split at hnd
       ·exact hnd
       ·exact(yE.1 hnd).2
   subst this;exact⟨Pk I,G,J⟩
  ·have:(some c,oc)∈L:=by
    rcases List.mem_or_eq_of_mem_set hmc with hh | hh
    ·exact hh
    ·cases hh;exact absurd rfl hcb
   obtain⟨M,O,U⟩:=h.own c oc this;exact⟨by rw[KE _ _ hcb];exact M,O,U⟩
def Ib(F:Mem)(p:oO):Mem:=fun b=>if p.1=some b then some p.2 else F b
theorem CL{α:Type}{x:α}:∀{k:Nat} {L:List α},x∈L.eraseIdx k->x∈L
 | _,[],h=>by cases h
 | 0,y::L,h=>xD _ h
 | k + 1,y::L,h=>by
  simp only[zR]at h;rcases xL.1 h with e | h
  ·subst e;exact yD
  ·exact xD _ (CL h)
theorem FR:∀{k:Nat} {L:List oO},(L.filterMap (·.1)).Nodup->((L.eraseIdx k).filterMap (·.1)).Nodup
 | _,[],_=>wI
 | 0,y::L,h=>by
  simp only[xZ]at h;simp only[List.eraseIdx_cons_zero];split at h
  ·exact h
  ·exact(yE.1 h).2
 | k + 1,y::L,h=>by
  simp only[zR,xZ]at h ⊢;cases hy:y.1 with
  | none=>simp only[hy]at h ⊢;exact FR h
  | some b=>
   simp only[hy]at h ⊢;refine yE.2 ⟨fun hm=>(yE.1 h).1 ?_,FR (yE.1 h).2⟩;obtain⟨o,hm⟩:=KG hm;exact zK.2 ⟨_,CL hm,rfl⟩
theorem HS.drop(h:HS w0 F0 w F L)(k:Nat):HS w0 F0 w F (L.eraseIdx k):=
 ⟨h.base,h.fix,h.size,h.keep,h.f0,h.pers,fun b o hm=>h.own b o (CL hm),FR h.nd⟩
theorem Oj:∀{k:Nat} {L:List oO} {b:Nat} {o:Obj},L[k]? =some (some b,o)->(L.filterMap (·.1)).Nodup->∀ c oc,(some c,oc)∈L.eraseIdx k->c≠b
 | _,[],_,_,hk,_=>by simp at hk
 | 0,y::L,b,o,hk,hnd=>fun c oc hm e=>by
  simp only[yB,xI]at hk;subst hk;subst e;simp only[xZ]at hnd;exact(yE.1 hnd).1 (zK.2 ⟨_,hm,rfl⟩)
 | k + 1,y::L,b,o,hk,hnd=>fun c oc hm e=>by
  simp only[yC]at hk;simp only[zR]at hm;rcases xL.1 hm with e' | hm
  ·subst e';subst e;simp only[xZ]at hnd;exact(yE.1 hnd).1 (zK.2 ⟨_,yH hk,rfl⟩)
  ·refine Oj hk ?_ c oc hm e;simp only[xZ]at hnd;split at hnd
   ·exact hnd
   ·exact(yE.1 hnd).2
theorem HS.freeze(h:HS w0 F0 w F L){k:Nat}{p:oO}(hk:L[k]? =some p):HS w0 F0 w (Ib F p) (L.eraseIdx k)/\XI F (Ib F p):=by
 obtain⟨ob,o⟩:=p;cases ob with
 | none=>
  have:Ib F (Option.none,o)=F:=by funext b;simp[Ib]
  rw[this];exact⟨h.drop k,XJ F⟩
 | some b=>
  obtain⟨G,I,h3⟩:=h.own b o (yH hk);refine⟨⟨h.base,h.fix,h.size,h.keep,fun c hc=>?_,fun c oc hF=>?_,fun c oc hm=>?_,FR h.nd⟩,fun c oc hF=>?_⟩
  ·have:b≠c:=by omega
   simp[Ib,this,h.f0 c hc]
  ·simp only[Ib]at hF;split at hF
   ·rename_i e;cases e;cases hF;exact G
   ·exact h.pers c oc hF
  ·obtain⟨J,M,O⟩:=h.own c oc (CL hm);have hne:=Oj hk h.nd c oc hm;refine⟨J,?_,O⟩;simp[Ib,Ne.symm hne,M]
  ·have:b≠c:=fun e=>by rw[<-e,I]at hF;cases hF
   simp[Ib,this,hF]
theorem Mz(F:Mem)(b:Nat)(o:Obj):Ib F (some b,o) b=some o:=by simp[Ib]
theorem HS.ownAt(h:HS w0 F0 w F L){k b:Nat}{o:Obj}(hk:L[k]? =some (some b,o)):w.heap[b]? =some o:=(h.own b o (yH hk)).1
end
def AD(w:World)(F:Mem)(post:Mem->Value->Prop):Ending->World->Prop:=
 fun e w'=>∃ r F',e=.returned r/\HS w F w' F' []/\post F' r
abbrev W64(n:Int):Int:=IntKind.i64.wrap n
section
variable {P:Program} {w:World} {ρ:Operand -> Value} {ty:TypeId}
theorem QO{x:Operand}{v:Value}(h:ρ x=v):(Am ρ (.move x) ty).run P w=.ok (.value v) w:=by subst h;rfl
theorem Ih{x:Operand}{v:Value}(h:ρ x=v):(Am ρ (.assign x) ty).run P w=.ok (.value v) w:=by subst h;rfl
theorem L4{c a b:Operand}{t:Bool}{v:Value}(hc:ρ c=.bool t)(ht:t=true)(h:ρ a=v):(Am ρ (.pick c a b) ty).run P w=.ok (.value v) w:=by
 subst h ht;simp[Am,execOp,hc,asBool]
theorem L5{c a b:Operand}{t:Bool}{v:Value}(hc:ρ c=.bool t)(ht:t=false)(h:ρ b=v):(Am ρ (.pick c a b) ty).run P w=.ok (.value v) w:=by
 subst h ht;simp[Am,execOp,hc,asBool]
section ints
variable {x y:Operand} {k:IntKind} {a b:Int} {t t':TypeId}
theorem PX(hx:ρ x=.int k a)(hy:ρ y=.int k b):(Am ρ (.binOp .add t x y t') ty).run P w=.ok (.value (.int k (k.wrap (a + b)))) w:=by
 simp[Am,execOp,hx,hy,eqGuard,binOp,Op.intArith]
theorem Gm(hx:ρ x=.int k a)(hy:ρ y=.int k b):(Am ρ (.binOp .sub t x y t') ty).run P w=.ok (.value (.int k (k.wrap (a - b)))) w:=by
 simp[Am,execOp,hx,hy,eqGuard,binOp,Op.intArith]
theorem U7(hx:ρ x=.int k a)(hy:ρ y=.int k b):(Am ρ (.binOp .mul t x y t') ty).run P w=.ok (.value (.int k (k.wrap (a * b)))) w:=by
 simp[Am,execOp,hx,hy,eqGuard,binOp,Op.intArith]
theorem U3(hx:ρ x=.int k a)(hy:ρ y=.int k b)(hb:decide (b=0)=false):(Am ρ (.binOp .quo t x y t') ty).run P w=.ok (.value (.int k (k.wrap (a.tdiv b)))) w:=by
 have:b≠0:=by simpa using hb
 simp[Am,execOp,hx,hy,eqGuard,binOp,Op.intDiv,this]
theorem U2(hx:ρ x=.int k a)(hy:ρ y=.int k b)(hb:decide (b=0)=false):(Am ρ (.binOp .rem t x y t') ty).run P w=.ok (.value (.int k (a.tmod b))) w:=by
 have:b≠0:=by simpa using hb
 simp[Am,execOp,hx,hy,eqGuard,binOp,Op.intDiv,this]
theorem DF(hx:ρ x=.int k a)(hy:ρ y=.int k b):(Am ρ (.binOp .lss t x y t') ty).run P w=.ok (.value (.bool (decide (a < b)))) w:=by
 simp[Am,execOp,hx,hy,eqGuard,binOp,Op.intCmp]
theorem JR(hx:ρ x=.int k a)(hy:ρ y=.int k b):(Am ρ (.binOp .leq t x y t') ty).run P w=.ok (.value (.bool (decide (a<=b)))) w:=by
 simp[Am,execOp,hx,hy,eqGuard,binOp,Op.intCmp]
theorem K8(hx:ρ x=.int k a)(hy:ρ y=.int k b):(Am ρ (.binOp .gtr t x y t') ty).run P w=.ok (.value (.bool (decide (a > b)))) w:=by
 simp[Am,execOp,hx,hy,eqGuard,binOp,Op.intCmp]
theorem PU(hx:ρ x=.int k a)(hy:ρ y=.int k b):(Am ρ (.binOp .geq t x y t') ty).run P w=.ok (.value (.bool (decide (a>=b)))) w:=by
 simp[Am,execOp,hx,hy,eqGuard,binOp,Op.intCmp]
theorem Ig(hx:ρ x=.int k a)(hy:ρ y=.int k b):(Am ρ (.binOp .eql t x y t') ty).run P w=.ok (.value (.bool (a==b))) w:=by
 simp[Am,execOp,hx,hy,eqGuard_at_int,binOp,Op.intCmp]
theorem JQ(hx:ρ x=.int k a)(hy:ρ y=.int k b):(Am ρ (.binOp .neq t x y t') ty).run P w=.ok (.value (.bool (a !=b))) w:=by
 simp[Am,execOp,hx,hy,eqGuard_at_int,binOp,Op.intCmp]
theorem U5(hx:ρ x=.int k a):(Am ρ (.unOp .neg t x) ty).run P w=.ok (.value (.int k (k.wrap (0 - a)))) w:=by
 simp[Am,execOp,hx,Op.unary,Op.intArith]
end ints
section bools
variable {x y:Operand} {a b:Bool} {t t':TypeId}
theorem K6(hx:ρ x=.bool a):(Am ρ (.unOp .not t x) ty).run P w=.ok (.value (.bool (!a))) w:=by
 simp[Am,execOp,hx,Op.unary]
theorem U9(hx:ρ x=.bool a)(hy:ρ y=.bool b)(hu:P.underlying t=some .bool):(Am ρ (.binOp .eql t x y t') ty).run P w=.ok (.value (.bool (a==b))) w:=by
 have e:Am ρ (.binOp .eql t x y t') ty=(do pure (Next.value (<-(do eqGuard .eql t x y (ρ x) (ρ y);binOp .eql t (ρ x) (ρ y))))):=rfl;have G:binOp .eql t (.bool a) (.bool b)=(do pure (Value.bool (<-Op.equalIn (9999 + 1) t (.bool a) (.bool b)))):=rfl;rw[e,hx,hy,eqGuard_at_bool,G];simp only[xE,xH,xC,run_equalIn_bool' w 9999 t a b hu]
theorem U6(hx:ρ x=.bool a)(hy:ρ y=.bool b)(hu:P.underlying t=some .bool):(Am ρ (.binOp .neq t x y t') ty).run P w=.ok (.value (.bool (!(a==b)))) w:=by
 have e:Am ρ (.binOp .neq t x y t') ty=(do pure (Next.value (<-(do eqGuard .neq t x y (ρ x) (ρ y);binOp .neq t (ρ x) (ρ y))))):=rfl;have G:binOp .neq t (.bool a) (.bool b)=(do pure (Value.bool (!(<-Op.equalIn (9999 + 1) t (.bool a) (.bool b))))):=rfl;rw[e,hx,hy,eqGuard_at_bool,G];simp only[xE,xH,xC,run_equalIn_bool' w 9999 t a b hu]
end bools
theorem Hj{C:Array Value}{o k:Nat}(h:(Ap C o k).length=k){j:Nat}(hj:j < k):C[o + j]? =(Ap C o k)[j]?:=by
 unfold Ap at *
 rw[yU hj,yR,yP]
theorem Nn(C:Array Value)(o k:Nat):(Ap C o k).toArray=C.extract o (o + k):=by
 apply yZ;simp only[Ap,Array.toList_extract,List.extract];rw[show o + k - o=k by omega]
theorem G0{t:TypeId}{g:Bool}{s:Nat}(h:Ef P t=some (g,s)):∃ d i,P.underlying t=some d/\P.info? t=some i/\Up d=g/\i.size=s:=by
 unfold Ef at h;split at h
 ·rename_i d i hd hi;simp only[xI,Prod.mk.injEq]at h;exact⟨d,i,hd,hi,h.1,h.2⟩
 ·cases h
theorem Pf{t:TypeId}{g:Bool}{s:Nat}(h:Ef P t=some (g,s))(w:World):(isAgg t).run P w=.ok g w:=by
 obtain⟨d,i,hd,hi,hg,hs⟩:=G0 h;subst hg;unfold isAgg;rw[xE,run_underlying hd];cases d <;> rfl
theorem Dp{t:TypeId}{i:TypeInfo}(h:P.info? t=some i)(w:World):(sizeOf t).run P w=.ok i.size w:=by
 simp[sizeOf,typeInfo,h]
theorem C7{t:TypeId}{g:Bool}{s:Nat}(h:Ef P t=some (g,s))(w:World):(sizeOf t).run P w=.ok s w:=by
 obtain⟨d,i,hd,hi,hg,hs⟩:=G0 h;rw[Dp hi,hs]
theorem HD{t:TypeId}{g:Bool}{s:Nat}(ht:Ef P t=some (g,s)){C:Array Value}{o:Nat}(hl:(Ap C o s).length=s)(hgs:g=true\/s=1)(w:World):
  (part t C o).run P w=.ok (mkV g (Ap C o s)) w:=by
 unfold part;rw[xE,Pf ht];cases g with
 | true=>
  simp only[xC,if_true,xE,C7 ht,xH,mkV,cond_true];rw[Nn]
 | false=>
  have G:s=1:=by simpa using hgs
  subst G;have:=Hj hl (j:=0) (by omega);simp only[zZ]at this;simp only[xC,xR,if_false,this,mkV,cond_false]
  match hc:Ap C o 1,hl with
  | [v],_=>rfl
def Kn(P:Program)(eq:TypeId->Value->Value->Option Bool)(xs ys:Array Value):List Field->Option Bool
 | []=>some true
 | f::fs=>
  if f.name== "_" then Kn P eq xs ys fs else
  match Ef P f.type with
  | none=>none
  | some (g,s)=>
   if(Ap xs f.offset s).length==s&&(Ap ys f.offset s).length==s&&(g||s==1)then
    match eq f.type (mkV g (Ap xs f.offset s)) (mkV g (Ap ys f.offset s)),Kn P eq xs ys fs with
    | some a,some b=>some (a&&b)
    | _,_=>none
   else none
def eqV(P:Program):Nat->TypeId->Value->Value->Option Bool
 | 0,_,_,_=>none
 | d + 1,t,x,y=>
  match P.underlying t with
  | some .bool=>match x,y with | .bool a,.bool b=>some (a==b) | _,_=>none
  | some (.int _)=>match x,y with | .int k a,.int k' b=>if k=k' then some (a==b)else none | _,_=>none
  | some .string=>match x,y with | .string a,.string b=>some (a.data.toList==b.data.toList) | _,_=>none
  | some (.struct fs)=>match x,y with | .agg xs,.agg ys=>if P.stoodInHeld t then none else Kn P (eqV P d) xs ys fs.toList | _,_=>none
  | _=>none
theorem Mf{eq:TypeId->Value->Value->Option Bool}{d:Nat}(he:∀ t x y b,eq t x y=some b->∀ w,(Op.equalIn d t x y).run P w=.ok b w)(xs ys:Array Value):
  ∀(fs:List Field)(b:Bool),Kn P eq xs ys fs=some b->∀ w,(Op.eqFields d xs ys fs).run P w=.ok b w
 | [],b,h,w=>by simp only[Kn,xI]at h;subst h;rfl
 | f::fs,b,h,w=>by
  unfold Kn at h;unfold Op.eqFields;by_cases hn:f.name= "_"
  ·have hn':(f.name== "_")=true:=by simpa using hn
   rw[hn']at h;simp only[if_true]at h;rw[if_neg (by simpa using hn)];exact Mf he xs ys fs b h w
  ·have hn':(f.name== "_")=false:=by simpa using hn
   rw[hn']at h;simp only[xR,if_false]at h;rw[if_pos (by simpa using hn)];cases ht:Ef P f.type with
   | none=>rw[ht]at h;cases h
   | some p=>
    obtain⟨g,s⟩:=p;rw[ht]at h;simp only at h;split at h
    ·rename_i hc;simp only[xA,beq_iff_eq,Bool.or_eq_true]at hc;split at h
     ·rename_i a c G I;simp only[xI]at h;subst h;simp only[xE,HD ht hc.1.1 hc.2,HD ht hc.1.2 hc.2,xC,he _ _ _ _ G,Sem.run_ite,xH];cases a with
      | false=>simp
      | true=>simp[Mf he xs ys fs c I w]
     ·cases h
    ·cases h
theorem NA:∀(d:Nat)(t:TypeId)(x y:Value)(b:Bool),eqV P d t x y=some b->∀ w,(Op.equalIn d t x y).run P w=.ok b w
 | 0,_,_,_,_,h,_=>by cases h
 | d + 1,t,x,y,b,h,w=>by
  unfold eqV at h;split at h
  ·rename_i hu;split at h
   ·simp only[xI]at h;subst h;exact run_equalIn_bool' w d t _ _ hu
   ·cases h
  ·rename_i hu;split at h
   ·split at h
    ·rename_i hk;simp only[xI]at h;subst h;subst hk;exact run_equalIn_int w d t _ _ _ _ hu
    ·cases h
   ·cases h
  ·rename_i hu;split at h
   ·simp only[xI]at h;subst h;rw[<-ByteArray.toList_eq,<-ByteArray.toList_eq];exact run_equalIn_string w d t _ _ hu
   ·cases h
  ·rename_i fs hu;split at h
   ·split at h
    ·cases h
    ·rename_i hp;have hf:P.fieldsOf t=fs:=by simp[Program.fieldsOf,hu]
     rw[run_equalIn_struct w d t _ _ (by rw[hf];exact hu) (by simpa using hp),hf];exact Mf (NA d) _ _ _ _ h w
   ·cases h
  ·cases h
theorem Uz{G M:TypeId->Value->Value->Option Bool}(he:∀ t x y b,G t x y=some b->M t x y=some b)(xs ys:Array Value):
  ∀(l:List Field)(c:Bool),Kn P G xs ys l=some c->Kn P M xs ys l=some c:=by
 intro l
 induction l with
 | nil=>exact fun c h=>h
 | cons f l ih=>
  intro c h;unfold Kn at h ⊢;by_cases hn:(f.name== "_")=true
  ·rw[if_pos hn]at h ⊢;exact ih c h
  ·rw[if_neg hn]at h ⊢;cases ht:Ef P f.type with
   | none=>rw[ht]at h;cases h
   | some p=>
    obtain⟨g,s⟩:=p;rw[ht]at h;simp only at h ⊢;split at h
    ·rename_i hc;rw[if_pos hc];cases I:G f.type (mkV g (Ap xs f.offset s)) (mkV g (Ap ys f.offset s))with
     | none=>rw[I]at h;cases h
     | some a=>
      cases J:Kn P G xs ys l with
      | none=>rw[I,J]at h;cases h
      | some b=>rw[I,J]at h;rw[he _ _ _ _ I,ih _ J];exact h
    ·cases h
theorem Uy:∀(d:Nat)(t:TypeId)(x y:Value)(b:Bool),eqV P d t x y=some b->eqV P (d + 1) t x y=some b
 | 0,_,_,_,_,h=>by cases h
 | d + 1,t,x,y,b,h=>by
  unfold eqV at h ⊢;cases hu:P.underlying t with
  | none=>rw[hu]at h;cases h
  | some td=>
   rw[hu]at h;cases td with
   | struct fs=>
    simp only at h ⊢;cases x <;> cases y <;> first | (cases h;done) | skip
    rename_i xs ys;simp only at h ⊢;split at h
    ·cases h
    ·rename_i hp;rw[if_neg hp];exact Uz (Uy d) xs ys fs.toList b h
   | _=>exact h
theorem R9{d:Nat}(k:Nat){t:TypeId}{x y:Value}{b:Bool}(h:eqV P d t x y=some b):eqV P (d + k) t x y=some b:=by
 induction k with
 | zero=>exact h
 | succ k ih=>exact Uy _ _ _ _ _ ih
theorem St{x y:Operand}{xs ys:Array Value}{t t':TypeId}{b:Bool}(hx:ρ x=.agg xs)(hy:ρ y=.agg ys)(hg:P.eqGuardType P.depth t=false)(he:eqV P 8 t (.agg xs) (.agg ys)=some b):
  (Am ρ (.binOp .eql t x y t') ty).run P w=.ok (.value (.bool b)) w:=by
 have e:Am ρ (.binOp .eql t x y t') ty=(do pure (Next.value (<-(do eqGuard .eql t x y (ρ x) (ρ y);binOp .eql t (ρ x) (ρ y))))):=rfl;rw[e,hx,hy];simp only[xE,run_eqGuard_agg w .eql t x y xs ys hg,xC,run_eql_struct,NA 10000 t _ _ b (R9 9992 he),xH]
theorem U4{x y:Operand}{xs ys:Array Value}{t t':TypeId}{b:Bool}(hx:ρ x=.agg xs)(hy:ρ y=.agg ys)(hg:P.eqGuardType P.depth t=false)(he:eqV P 8 t (.agg xs) (.agg ys)=some b):
  (Am ρ (.binOp .neq t x y t') ty).run P w=.ok (.value (.bool (!b))) w:=by
 have e:Am ρ (.binOp .neq t x y t') ty=(do pure (Next.value (<-(do eqGuard .neq t x y (ρ x) (ρ y);binOp .neq t (ρ x) (ρ y))))):=rfl;rw[e,hx,hy];simp only[xE,run_eqGuard_agg w .neq t x y xs ys hg,xC,run_neq_struct,NA 10000 t _ _ b (R9 9992 he),xH]
theorem QP{x:Operand}{vs:Array Value}{i:Nat}{v:Value}(hx:ρ x=.tuple vs)(hv:vs[i]? =some v):(Am ρ (.extract x i) ty).run P w=.ok (.value v) w:=by
 simp[Am,execOp,hx,Instr.extract,hv]
theorem Qi{s:TypeId}{i o k:Nat}(h:Ls P s i=some (o,k)):∃ fs f j,P.underlying s=some (.struct fs)/\fs[i]? =some f/\P.info? f.type=some j/\f.offset=o/\j.size=k:=by
 unfold Ls at h;split at h
 ·rename_i fs hu;split at h
  ·rename_i f hf;split at h
   ·rename_i j hj;simp only[xI,Prod.mk.injEq]at h;exact⟨fs,f,j,hu,hf,hj,h.1,h.2⟩
   ·cases h
  ·cases h
 ·cases h
theorem CO{s:TypeId}{x:Operand}{i o k b o0:Nat}(hx:ρ x=.pointer (some ⟨b,o0,none⟩))(hf:Ls P s i=some (o,k))(hk:decide (k=0)=false){o1:Nat}(ho:o0 + o=o1):
  (Am ρ (.fieldAddr s x i) ty).run P w=.ok (.value (.pointer (some ⟨b,o1,none⟩))) w:=by
 obtain⟨fs,f,j,hu,hfi,hj,hfo,hjs⟩:=Qi hf;have hk':k≠0:=by simpa using hk
 subst ho;simp only[Am,execOp,hx,Instr.fieldAt,Instr.sureAddr,xE,run_underlying hu,xC,hfi,xH,fieldPlace,Dp hj,hjs,hk',if_false,hfo,Addr.add];split
 ·rename_i G;simp[G]
 ·rfl
theorem Tb{s:TypeId}{x:Operand}{i o k:Nat}{cs:Array Value}{v:Value}(hx:ρ x=.agg cs){fs:Array Field}{f:Field}(hu:P.underlying s=some (.struct fs))(hf:fs[i]? =some f){g:Bool}
  (ht:Ef P f.type=some (g,k)) (hl:(Ap cs f.offset k).length=k) (hgs:(g||k==1)=true) (hv:mkV g (Ap cs f.offset k)=v):(Am ρ (.field s x i) ty).run P w=.ok (.value v) w:=by
 subst hv;simp only[Am,execOp,hx,Instr.field,xE,run_underlying hu,xC,hf,asAgg,xH,HD ht hl (by simpa using hgs)]
theorem BN{t E:TypeId}{x y:Operand}{k:IntKind}{b o n c:Nat}{i:Int}{s by_:Nat}(hx:ρ x=.slice (some ⟨b,o,none⟩) n c)(hy:ρ y=.int k i)(he:A2 P t=some (E,s,by_))
  (hi:0<=i/\i < (n:Int)):(Am ρ (.indexAddr t x y) ty).run P w=.ok (.value (.pointer (some ⟨b,o + i.toNat * s,none⟩))) w:=by
 unfold A2 at he;split at he
 ·rename_i e hu;split at he
  ·rename_i j hj;simp only[xI,Prod.mk.injEq]at he;obtain⟨rfl,rfl,rfl⟩:=he;have hdo:Am ρ (.indexAddr t x y) ty=(do pure (Next.value (<-Instr.indexAt t (ρ x) (ρ y)))):=rfl;rw[hdo,hx,hy];simp only[Instr.indexAt,asIntOf,xE,xH,xC,run_underlying hu,hi,and_self,if_true,Dp hj,Addr.add];split
   ·rename_i G;simp[G]
   ·rfl
  ·cases he
 ·cases he
theorem Ai{t:TypeId}{g:Bool}{s b o:Nat}{C:Array Value}{E:TypeId}{fz:Nat×Nat}(ht:Ef P t=some (g,s))(hb:w.heap[b]? =some (.cells C E fz))
  (hl:(Ap C o s).length=s) (hgs:g=true\/s=1):(loadVar t ⟨b,o,none⟩).run P w=.ok (mkV g (Ap C o s)) w:=by
 unfold loadVar;rw[xE,Pf ht];cases g with
 | true=>
  simp only[xC,if_true,xE,C7 ht,xH,mkV,cond_true];have hh:=run_loadCells_list (P:=P) (w:=w) ⟨b,o,none⟩ (Ap C o s) (fun j v hj=>by
   have hjs:j < s:=by
    rcases xM j s with h' | h'
    ·exact h'
    ·rw[xG (by omega)]at hj;cases hj
   rw[Addr.add_lit,LM hb,Hj hl hjs];exact hj)
  rw[hl]at hh;rw[hh];rfl
 | false=>
  have G:s=1:=by simpa using hgs
  subst G;have:=Hj hl (j:=0) (by omega);simp only[zZ]at this;simp only[xC,xR,if_false,run_load,LM hb,this,mkV,cond_false]
  match hc:Ap C o 1,hl with
  | [v],_=>rfl
theorem BM{t:TypeId}{x:Operand}{g:Bool}{s b o:Nat}{C:Array Value}{E:TypeId}{fz:Nat×Nat}{v:Value}(hx:ρ x=.pointer (some ⟨b,o,none⟩))(ht:Ef P t=some (g,s))
  (hb:w.heap[b]? =some (.cells C E fz)) (hl:(Ap C o s).length=s) (hgs:(g||s==1)=true) (hv:mkV g (Ap C o s)=v):
  (Am ρ (.load t x) ty).run P w=.ok (.value v) w:=by
 subst hv;have e:Am ρ (.load t x) ty=(do pure (Next.value (<-Instr.loadAt t (ρ x)))):=rfl;rw[e,hx];simp only[Instr.loadAt,Instr.sureAddr,xE,xH,xC,Ai ht hb hl (by simpa using hgs)]
theorem Su{t:TypeId}{x:Operand}{v:Value}(hx:ρ x=v):(Am ρ (.box t x) ty).run P w=.ok (.value (.pointer (some ⟨w.heap.size,0,none⟩))) (w.alloc (.cells v.cells t)):=by
 subst hx;rfl
theorem Ph{t:TypeId}{z:Value}(hz:Bq P t=some z):(Am ρ (.alloc t) ty).run P w=.ok (.value (.pointer (some ⟨w.heap.size,0,none⟩))) (w.alloc (.cells z.cells t)):=by
 unfold Bq at hz;split at hz
 ·rename_i i hi;have e:Am ρ (.alloc t) ty=(do pure (Next.value (<-Instr.alloc t true (.tuple #[])))):=rfl;rw[e];simp only[Instr.alloc,zeroValue,typeInfo,xE,run_program,xC,hi,hz,xH];rfl
 ·cases hz
theorem CR(E:TypeId):∀(vs:List Value)(w:World)(b o i:Nat)(C:Array Value),w.heap[b]? =some (.cells C E (0,0))->o + i + vs.length<=C.size->vs.all (·.oneCell')=true->
  (storeCells ⟨b,o,none⟩ vs i).run P w=.ok () (Ct w b (.cells (BE C (o + i) vs) E (0,0)))
 | [],w,b,o,i,C,hb,_,_=>by simp only[storeCells,BE,xH];rw[Th hb]
 | v::vs,w,b,o,i,C,hb,hl,G=>by
  simp only[yX,xA]at G;simp only[xO]at hl;have hlt:o + i < C.size:=by omega
  have hc:w.cell? ⟨b,o + i,none⟩=some C[o + i]:=by rw[LM hb];simp[hlt]
  have hf:w.frozen? ⟨b,o + i,none⟩=false:=by simp[World.frozen?,hb]
  simp only[storeCells,Addr.add_lit,xE,run_store P w _ v _ G.1,hc,hf,xR,if_false,xC];rw[PP hb];rw[CR E vs _ b o (i + 1) (C.setIfInBounds (o + i) v) (Pk hb) (by simp;omega) G.2,Ti];simp only[BE];rw[show o + (i + 1)=o + i + 1 by omega]
theorem KC{t:TypeId}{x y:Operand}{g:Bool}{s b o:Nat}{C:Array Value}{E:TypeId}{v:Value}(hx:ρ x=.pointer (some ⟨b,o,none⟩))(hy:ρ y=v)(ht:Ef P t=some (g,s))
  (hb:w.heap[b]? =some (.cells C E (0,0))) (hs:v.cells.size=s) (hl:decide (o + s<=C.size)=true) (G:v.cells.toList.all (·.oneCell')=true) {C':Array Value} (hC:BE C o v.cells.toList=C'):
  (Am ρ (.store t x y) ty).run P w=.ok .skip (Ct w b (.cells C' E (0,0))):=by
 subst hy hC;have e:Am ρ (.store t x y) ty=(do Instr.storeAt t (ρ x) (ρ y);pure .skip):=rfl;have hl':o + s<=C.size:=by simpa using hl
 rw[e,hx];simp only[Instr.storeAt,Instr.sureAddr,storeVar,xE,xH,xC,C7 ht,hs,ne_eq,not_true_eq_false,if_false];rw[CR E _ w b o 0 C hb (by simp[hs];omega) G];rfl
def Ag(P:Program)(g:FuncId):Prop:=∀(args:Array Value)(w:World),(callFunc g args).run P w=.ok (.enter g args) w
theorem map_toArray(aos:Array Operand)(ρ:Operand->Value):aos.map ρ=(aos.toList.map ρ).toArray:=by
 apply yZ;simp
theorem Ek{f:Operand}{aos:Array Operand}{ats:Array TypeId}{g:FuncId}{first cap:Array Value}{args:List Value}(hf:ρ f=.func (.func g) first cap)(hg:Ag P g)(ha:first.toList++aos.toList.map ρ++cap.toList=args):
  (Am ρ (.call {callee:=.value f,args:=aos,argTypes:=ats}) ty).run P w=.ok (.enter g args.toArray) w:=by
 subst ha;have e:Am ρ (.call {callee:=.value f,args:=aos,argTypes:=ats}) ty=(do let d<-Deferred.ofValue (ρ f) (aos.map ρ);invoke d.target d.args):=rfl;rw[e,hf];simp only[Deferred.ofValue,xE,xH,xC,invoke];rw[hg];congr 2;apply yZ;simp
theorem PS{fn:Fn}{first cap:Array Operand}{fl cl:List Value}(hf:first.toList.map ρ=fl)(hc:cap.toList.map ρ=cl):(Am ρ (.makeFunc fn first cap) ty).run P w=.ok (.value (.func fn fl.toArray cl.toArray)) w:=by
 subst hf hc;rw[<-map_toArray,<-map_toArray];rfl
theorem I8{x:Operand}{ats:Array TypeId}{t E:TypeId}{s by_:Nat}{a:X7}{n c:Nat}(hx:ρ x=.slice a n c)(ht:ats[0]? =some t)(he:A2 P t=some (E,s,by_)):
  (Am ρ (.call {callee:=.builtin .len,args:=#[x],argTypes:=ats}) ty).run P w=.ok (.value (.int .i64 (n:Int))) w:=by
 unfold A2 at he;split at he
 ·rename_i e hu;have G:Am ρ (.call {callee:=.builtin .len,args:=#[x],argTypes:=ats}) ty=(do pure (Next.value (<-Builtin.len_ ats ty (Array.map ρ #[x])))):=rfl;rw[G,map_toArray];simp only[yY,zD,hx];simp only[Builtin.len_,ht,xE,yO,yB,run_underlying hu,xC,xH,goInt]
 ·cases he
end
structure Ty(α:Type) where
 sz:Nat
 agg:Bool
 R:Mem->List Value->α->Prop
 len:∀{F:Mem} {cs:List Value} {x:α},R F cs x->cs.length=sz
 mono:∀{F F':Mem} {cs:List Value} {x:α},XI F F'->R F cs x->R F' cs x
 ok:(agg||sz==1)=true
def Ty.V{α:Type}(T:Ty α)(F:Mem)(v:Value)(x:α):Prop:=∃ cs,T.R F cs x/\v=mkV T.agg cs
theorem Ty.V.mono{α:Type}{T:Ty α}{F F':Mem}{v:Value}{x:α}(h:T.V F v x)(hl:XI F F'):T.V F' v x:=
 let ⟨cs,G,I⟩:=h;⟨cs,T.mono hl G,I⟩
def AK:Ty Int:=⟨1,false,fun _ cs x=>cs=[.int .i64 x],fun h=>by subst h;rfl,fun _ h=>h,rfl⟩
def So:Ty Bool:=⟨1,false,fun _ cs x=>cs=[.bool x],fun h=>by subst h;rfl,fun _ h=>h,rfl⟩
def SlA{α:Type}(T:Ty α)(F:Mem)(a:X7)(l:List α):Prop:=
 l=[]\/ ∃ b o C E fz,a=some ⟨b,o,none⟩/\F b=some (.cells C E fz)/\ ∀ i x,l[i]? =some x->T.R F (Ap C (o + i * T.sz) T.sz) x
theorem SlA.mono{α:Type}{T:Ty α}{F F':Mem}{a:X7}{l:List α}(h:SlA T F a l)(hl:XI F F'):SlA T F' a l:=by
 rcases h with h | ⟨b,o,C,E,fz,ha,hF,hx⟩
 ·exact .inl h
 ·exact .inr ⟨b,o,C,E,fz,ha,hl _ _ hF,fun i x hi=>T.mono hl (hx i x hi)⟩
abbrev XL:=@SlA.mono
def LC(n c:Nat):Prop:=n<=c/\n < 9223372036854775808
theorem LC.nil{α:Type}:LC ([]:List α).length 0:=⟨xN _,by simp⟩
abbrev XM:=@LC.nil
def tSl{α:Type}(T:Ty α):Ty (List α):=⟨1,false,fun F cs l=>∃ a c,cs=[.slice a l.length c]/\LC l.length c/\SlA T F a l,
 fun h=>by obtain⟨a,c,h,_⟩:=h;subst h;rfl,fun hl h=>by obtain⟨a,c,G,I,J⟩:=h;exact⟨a,c,G,I,J.mono hl⟩,rfl⟩
def idx{α:Type}(l:List α)(i:Int):Option α:=if 0<=i then l[i.toNat]? else none
theorem Af{α:Type}{l:List α}{i:Int}{x:α}(h:idx l i=some x):(0<=i/\i < (l.length:Int))/\l[i.toNat]? =some x:=by
 unfold idx at h;split at h
 ·rename_i hi;have hlt:i.toNat < l.length:=by
   rcases xM i.toNat l.length with h' | h'
   ·exact h'
   ·rw[xG h']at h;cases h
  exact⟨⟨hi,by omega⟩,h⟩
 ·cases h
theorem bS{α β:Type}{o:Option α}{k:α->Option β}{r:β}(h:o.bind k=some r):∃ x,o=some x/\k x=some r:=by
 cases o with
 | none=>cases h
 | some x=>exact⟨x,rfl,h⟩
theorem Qn{α:Type}{b:Bool}{x y r:α}(h:(bif b then x else y)=r)(hb:b=true):x=r:=by subst hb;exact h
theorem Qo{α:Type}{b:Bool}{x y r:α}(h:(bif b then x else y)=r)(hb:b=false):y=r:=by subst hb;exact h
theorem Aa{α:Type}{x y:α}(h:some x=some y):x=y:=by cases h;rfl
inductive Ba(ρ σ:Type) where
 | next (s:σ)
 | done (s:σ)
 | ret (r:ρ)
def AJ{ρ σ:Type}(body:σ->Option (Ba ρ σ)):Nat->σ->Option (Ba ρ σ)
 | 0,_=>none
 | n + 1,s=>match body s with
  | some (.next s')=>AJ body n s'
  | r=>r
section
variable {P:Program} {ro:Option Nat} {n:Nat} {R:Array Oper} {Q:Exit -> Fr -> World -> Prop}
def FV(R:Array Oper)(j:Nat):Option Nat:=(R[j]?).bind (·.dst)
theorem Hp{f:Fr}{j d:Nat}{want b:Bool}(hj:FV R j=some d)(hf:f d=.bool b)(hb:b=want):gd R f (some (j,want))=true:=by
 unfold FV at hj;simp[gd,yf,hj,hf,asB,hb]
theorem Wx{f:Fr}{j d:Nat}{want b:Bool}(hj:FV R j=some d)(hf:f d=.bool b)(hb:b= !want):gd R f (some (j,want))=false:=by
 unfold FV at hj;simp[gd,yf,hj,hf,asB,hb]
theorem Ww{f:Fr}{j d:Nat}{want:Bool}(hj:FV R j=some d)(hf:f d=undef):gd R f (some (j,want))=false:=by
 unfold FV at hj;simp[gd,yf,hj,hf,asB,undef]
theorem RWP.split{l:List Nat}{f:Fr}{w:World}(b:Bool)(ht:b=true->RWP P ro n R Q l f w)(hf:b=false->RWP P ro n R Q l f w):RWP P ro n R Q l f w:=by
 cases b
 ·exact hf rfl
 ·exact ht rfl
abbrev XN:=@RWP.split
theorem LetsOut.mono{A B:Exit->Act->World->Prop}(hq:∀ e a w,A e a w->B e a w)(h:LetsOut A):LetsOut B:=let ⟨a,w,h⟩:=h;⟨a,w,hq _ _ _ h⟩
theorem Oper.wpIn_monoQ{F:Fence}{o:Oper}{a:Act}{w:World}{K K':Act->World->Prop}{A B:Exit->Act->World->Prop}(h:∀ a w,K a w->K' a w)(hq:∀ e a w,A e a w->B e a w)
  (hh:o.wpIn F 0 P a w K A):o.wpIn F 0 P a w K' B:=by
 unfold Oper.wpIn at *
 refine⟨hh.1,?_⟩;have hh:=hh.2;generalize (o.semAt F.round a.eval).run P w=r at *
 cases r with
 | ok n w'=>
  cases n <;> simp only[Oper.uponIn]at hh ⊢ <;>
   first
    | exact h _ _ hh
    | exact⟨hh.1,CallsIn.mono hh.2 (fun e w'' he=>by cases e <;> first | exact h _ _ he | exact hq _ _ _ he | exact LetsOut.mono hq he)⟩
    | exact⟨hh.1,RoundIn.mono hh.2 (fun e w'' he=>by cases e <;> first | exact h _ _ he | exact hq _ _ _ he | exact LetsOut.mono hq he)⟩
    | exact⟨hh.1,RowsIn.mono hh.2 (fun _ _ he=>h _ _ he)⟩
 | halt x w'=>cases x <;> simp only[Oper.uponIn]at hh ⊢ <;> first | exact hq _ _ _ hh | exact hh
theorem Fz{F:Fence}{ops:Array Oper}{A B:Exit->Act->World->Prop}(hq:∀ e a w,A e a w->B e a w):∀(l:List Nat)(a:Act)(w:World),wpOpsIn F 0 P ops A l a w->wpOpsIn F 0 P ops B l a w
 | [],a,w,h=>hq _ _ _ h
 | i::l,a,w,h=>by
  rw[wpOpsIn]at h ⊢;cases ho:ops[i]? with
  | none=>simp only[ho]at h ⊢;exact Fz hq l a w h
  | some o=>
   simp only[ho]at h ⊢;split
   ·rename_i hw;simp only[hw,if_true]at h;exact Oper.wpIn_monoQ (Fz hq l) hq h
   ·rename_i hw;simp only[hw]at h;exact⟨h.1,Fz hq l _ _ h.2⟩
theorem RWP.cut{l:List Nat}{f:Fr}{w:World}(S:Fr->World->Prop)(h:RWP P ro n R (fun e f w=>e=.normal/\S f w) l f w)(k:∀ f w,S f w->Q .normal f w):RWP P ro n R Q l f w:=
 fun hok a ha=>Fz (by rintro e a w ⟨f,hf,rfl,hS⟩;exact⟨f,hf,k _ _ hS⟩) l a w (h hok a ha)
abbrev XO:=@RWP.cut
theorem CWP.cut{c:Code}{f:Fr}{w:World}(S:Fr->World->Prop)(h:CWP P ro n c (fun e f w=>(e=.normal/\S f w)\/Q e f w) f w)(k:∀ f w,S f w->Q .normal f w):CWP P ro n c Q f w:=
 h.mono fun e f w hh=>hh.elim (fun⟨he,hS⟩=>he ▸ k _ _ hS) id
abbrev XP:=@CWP.cut
end
section
variable {P:Program} {ro:Option Nat} {n:Nat} {R:Array Oper} {Q:Exit -> Fr -> World -> Prop} {K:Fr -> World -> Prop} {f:Fr} {w:World}
theorem Ab(h:K f w):IE K Q .normal f w:=h
theorem An{i:Nat}(h:Q (.exit i) f w):IE K Q (.exit i) f w:=h
theorem Ad(h:Q .ret f w):IE K Q .ret f w:=h
theorem Aq{i:Nat}(h:Q .normal f w):ID i Q .normal f w:=h
theorem Ay{i j:Nat}(e:j=i)(h:Q .normal f w):ID i Q (.exit j) f w:=by subst e;simp only[ID,if_true];exact h
theorem MS{i j:Nat}(e:j≠i)(h:Q (.exit j) f w):ID i Q (.exit j) f w:=by simp only[ID,e,if_false];exact h
theorem Ao{i:Nat}(h:Q .ret f w):ID i Q .ret f w:=h
theorem CWP.cond1{c:Code}{t:Bool}(hk:kin c=4)(hc:fev f (Sf c)=.bool t)(ht:t=true)(h:CWP P ro n (UE c) Q f w):CWP P ro n c Q f w:=CWP.cond hk hc (fun _=>h) (fun e=>by rw[ht]at e;cases e)
theorem CWP.cond0{c:Code}{t:Bool}(hk:kin c=4)(hc:fev f (Sf c)=.bool t)(ht:t=false)(h:CWP P ro n (UG c) Q f w):CWP P ro n c Q f w:=CWP.cond hk hc (fun e=>by rw[ht]at e;cases e) (fun _=>h)
section
variable {α:Type} {b:Bool} {v x y:α}
theorem Ia(hb:b=true)(h:v=x):v=(bif b then x else y):=by subst hb;exact h
theorem JK(hb:b=false)(h:v=y):v=(bif b then x else y):=by subst hb;exact h
end
theorem LZ{b v x:Bool}(hb:b=true)(h:v=x):v=(b&&x):=by subst hb;simpa using h
theorem L0{b v x:Bool}(hb:b=false)(h:v=false):v=(b&&x):=by subst hb;simpa using h
theorem Ft{b v x:Bool}(hb:b=true)(h:v=true):v=(b||x):=by subst hb;simpa using h
theorem CC{b v x:Bool}(hb:b=false)(h:v=x):v=(b||x):=by subst hb;simpa using h
def Ba.k{ρ σ τ:Type}(o:Ba ρ σ)(fr:ρ->Option τ)(fd:σ->Option τ):Option τ:=
 match o with
 | .next _=>none
 | .done s=>fd s
 | .ret r=>fr r
theorem A6{ρ σ τ:Type}{s:σ}{fr:ρ->Option τ}{fd:σ->Option τ}{r:τ}(h:(Ba.done s:Ba ρ σ).k fr fd=some r):fd s=some r:=h
theorem AE{ρ σ:Type}{body:σ->Option (Ba ρ σ)}{m:Nat}{s:σ}{o:Ba ρ σ}(h:AJ body m s=some o):
  ∃ m' fl,m=m' + 1/\body s=some fl/\((∃ s',fl=.next s'/\AJ body m' s'=some o)\/(fl=o/\ ∀ s',fl≠.next s')):=by
 cases m with
 | zero=>cases h
 | succ m=>
  refine⟨m,?_⟩;rw[AJ]at h;cases hb:body s with
  | none=>rw[hb]at h;cases h
  | some fl=>
   rw[hb]at h;cases fl with
   | next s'=>exact⟨_,rfl,rfl,.inl ⟨s',rfl,h⟩⟩
   | done s'=>cases h;exact⟨_,rfl,rfl,.inr ⟨rfl,fun _ e=>by cases e⟩⟩
   | ret r=>cases h;exact⟨_,rfl,rfl,.inr ⟨rfl,fun _ e=>by cases e⟩⟩
section
variable {ρ σ:Type} {body:σ -> Option (Ba ρ σ)} {m:Nat} {o fl:Ba ρ σ}
theorem AC{s:σ}(h:some (Ba.next s)=some fl)(hn:(∃ s',fl=.next s'/\AJ body m s'=some o)\/(fl=o/\ ∀ s',fl≠.next s')):AJ body m s=some o:=by
 cases h;rcases hn with⟨s',e,hi⟩ | ⟨_,hne⟩
 ·cases e;exact hi
 ·exact absurd rfl (hne s)
theorem AF{s:σ}(h:some (Ba.done s)=some fl)(hn:(∃ s',fl=.next s'/\AJ body m s'=some o)\/(fl=o/\ ∀ s',fl≠.next s')):o=.done s:=by
 cases h;rcases hn with⟨s',e,hi⟩ | ⟨e,_⟩
 ·cases e
 ·exact e.symm
theorem Bc{r:ρ}(h:some (Ba.ret r)=some fl)(hn:(∃ s',fl=.next s'/\AJ body m s'=some o)\/(fl=o/\ ∀ s',fl≠.next s')):o=.ret r:=by
 cases h;rcases hn with⟨s',e,hi⟩ | ⟨e,_⟩
 ·cases e
 ·exact e.symm
end
section
variable {w0:World} {F0 F:Mem} {L:List (Option Nat × Obj)} {i:Nat} {rest:List Nat} {dst:Option Nat} {op:Op} {ty:TypeId} {g:Option (Nat × Bool)}
theorem HS.clear(h:HS w0 F0 w F L):HS w0 F0 w F []:=⟨h.base,h.fix,h.size,h.keep,h.f0,h.pers,fun _ _ hm=>(by cases hm),wI⟩
theorem HS.freezeC(h:HS w0 F0 w F L){k b:Nat}{o:Obj}(hk:L[k]? =some (some b,o)):∃ F',HS w0 F0 w F' (L.eraseIdx k)/\XI F F'/\F' b=some o:=
 ⟨_,(h.freeze hk).1,(h.freeze hk).2,Mz F b o⟩
theorem RWP.box{x:Operand}{t:TypeId}{v:Value}{C:Array Value}(ho:opq R i=some (dst,.box t x,ty,g))(hg:gd R f g=true)(hx:fev f x=v)(hC:v.cells=C)
  (hs:HS w0 F0 w F L) (k:∀ b w',HS w0 F0 w' F ((some b,.cells C t (0,0))::L)->RWP P ro n R Q rest (A1 f dst (.pointer (some ⟨b,0,none⟩))) w'):RWP P ro n R Q (i::rest) f w:=by
 subst hC;exact XF ho hg (Su hx) (k _ _ (hs.alloc _))
theorem RWP.alloc{t:TypeId}{z:Value}{C:Array Value}(ho:opq R i=some (dst,.alloc t,ty,g))(hg:gd R f g=true)(hz:Bq P t=some z)(hC:z.cells=C)
  (hs:HS w0 F0 w F L) (k:∀ b w',HS w0 F0 w' F ((some b,.cells C t (0,0))::L)->RWP P ro n R Q rest (A1 f dst (.pointer (some ⟨b,0,none⟩))) w'):RWP P ro n R Q (i::rest) f w:=by
 subst hC;exact XF ho hg (Ph hz) (k _ _ (hs.alloc _))
theorem RWP.call{f0:Operand}{aos:Array Operand}{ats:Array TypeId}{fid:FuncId}{first cap:Array Value}{args:List Value}{post:Mem->Value->Prop}
  (ho:opq R i=some (dst,.call {callee:=.value f0,args:=aos,argTypes:=ats},ty,g)) (hg:gd R f g=true) (hf:fev f f0=.func (.func fid) first cap) (hok:Ag P fid)
  (ha:first.toList++aos.toList.map (fev f)++cap.toList=args) (hs:HS w0 F0 w F L) (hc:Calls P fid args.toArray w (AD w F post))
  (k:∀ v F1 w1,HS w0 F0 w1 F1 L->XI F F1->post F1 v->RWP P ro n R Q rest (A1 f dst v) w1):RWP P ro n R Q (i::rest) f w:=by
 refine XG ho hg (Ek hf hok ha) hc ?_;rintro e w' ⟨r,F',rfl,G,I⟩;exact k r F' w' (hs.call G) G.le I
theorem MM{C:Array Value}{o k:Nat}{cs:List Value}(h:Ap C o k=cs){j s:Nat}(hj:decide (j + s<=k)=true):Ap C (o + j) s=(cs.drop j).take s:=by
 have hj':j + s<=k:=by simpa using hj
 subst h;unfold Ap;rw[wV,List.take_take,zW];rw[show min s (k - j)=s by omega]
theorem Fq{ρ:Operand->Value}{t:TypeId}{x:Operand}{gg:Bool}{s b o j kk:Nat}{C:Array Value}{E:TypeId}{fz:Nat×Nat}{v:Value}{cs:List Value}(hx:ρ x=.pointer (some ⟨b,o + j,none⟩))
  (ht:Ef P t=some (gg,s)) (hb:w.heap[b]? =some (.cells C E fz)) (hc:Ap C o kk=cs) (hj:decide (j + s<=kk)=true) (hl:((cs.drop j).take s).length=s/\True:=by exact⟨rfl,trivial⟩)
  (hgs:(gg||s==1)=true) (hv:mkV gg ((cs.drop j).take s)=v):(Am ρ (.load t x) ty).run P w=.ok (.value v) w:=by
 have e:=MM hc hj;exact BM hx ht hb (by rw[e];exact hl.1) hgs (by rw[e];exact hv)
theorem SlA.open{α:Type}{T:Ty α}{a:X7}{l:List α}(h:SlA T F a l){i:Nat}{x:α}(hx:l[i]? =some x):
  ∃ b o C E fz,a=some ⟨b,o,none⟩/\F b=some (.cells C E fz)/\ ∀ i x,l[i]? =some x->T.R F (Ap C (o + i * T.sz) T.sz) x:=by
 rcases h with h | h
 ·subst h;simp at hx
 ·exact h
abbrev XQ:=@SlA.open
end
def DS(F:Mem)(Lc:List oO)(w:World):Prop:=(∀ b o,F b=some o->w.heap[b]? =some o)/\ ∀(k:Nat) b o,Lc[k]? =some (some b,o)->w.heap[b]? =some o
theorem V8{w0:World}{F0 F Fs:Mem}{L Lc:List oO}(hs:HS w0 F0 w F L)(hl:XI Fs F)(hL:∀ p,p∈Lc->p∈L):DS Fs Lc w:=
 ⟨fun b o h=>hs.pers b o (hl b o h),fun k b o h=>(hs.own b o (hL _ (yH h))).1⟩
theorem DS.keep{F:Mem}{Lc:List oO}{w w':World}(h:DS F Lc w)(hk:∀ b,b < w.heap.size->w'.heap[b]? =w.heap[b]?):DS F Lc w':=
 ⟨fun b o hb=>by have:=h.1 b o hb;rw[hk b (Be this)];exact this,fun k b o hb=>by have:=h.2 k b o hb;rw[hk b (Be this)];exact this⟩
def DZ(F:Mem)(Lc Lz:List oO)(zd:Bool)(w:World):Prop:=DS F Lc w/\(zd=false->DS F Lz w)
theorem DZ.keep{F:Mem}{Lc Lz:List oO}{zd:Bool}{w w':World}(h:DZ F Lc Lz zd w)(hk:∀ b,b < w.heap.size->w'.heap[b]? =w.heap[b]?):DZ F Lc Lz zd w':=
 ⟨h.1.keep hk,fun e=>(h.2 e).keep hk⟩
theorem A0{w0:World}{F0 F Fs:Mem}{L Lc Lz:List oO}{zd:Bool}(hs:HS w0 F0 w F L)(hl:XI Fs F)(hL:∀ p,p∈Lc->p∈L)(hz:zd=false->∀ p,p∈Lz->p∈L):DZ Fs Lc Lz zd w:=
 ⟨V8 hs hl hL,fun e=>V8 hs hl (hz e)⟩
section held0
variable {ops:Array Oper} {Q:Exit -> Act -> World -> Prop} {S:World -> Prop}
abbrev GZ(P:Program)(ops:Array Oper)(Q:Exit->Act->World->Prop):=wpOpIn (FW none) 0 P ops Q
abbrev V9(P:Program)(ops:Array Oper)(Q:Exit->Act->World->Prop):=wpAnyIn (FW none) 0 P .any ops Q
theorem Ke{i:Nat}{o:Oper}{v:Value}{a:Act}(hi:ops[i]? =some o)(hy:YieldsIf P ops S o v a)
  {K:Act->World->Prop} {w:World} (hS:S w) (h:K (a.put o.dst v) w):GZ P ops Q i K a w:=by
 unfold GZ Go.wpOpIn;simp only[hi];rcases hy with⟨hw,hv⟩ | ⟨hw,rfl⟩
 ·simp only[hw,if_true,Oper.wpIn];refine⟨Bp,?_⟩;show o.uponIn (FW none) 0 P a K Q ((execOp a.eval o).run P w);rw[hv w hS];exact h
 ·simp only[hw,xR,if_false];exact⟨Bp,h⟩
theorem QG{j:Nat}{oi oj:Oper}{v:Value}(hj:ops[j]? =some oj)(hap:oi.apart ops oj=true)
  (hsi:∀ cs b,oi.op≠.select cs b) (hsj:∀ cs b,oj.op≠.select cs b)
  (hQ:∀ c a w,Q (.panic c) (a.put oi.dst v) w->Q (.panic c) a w) {K:Act->World->Prop} {a:Act} {w:World}
  (hy:YieldsIf P ops S oi v a) (h:GZ P ops Q j K (a.put oi.dst v) w):
  GZ P ops Q j (fun a' w'=>YieldsIf P ops S oi v a'/\K (a'.put oi.dst v) w') a w:=by
 obtain⟨I,G,J⟩:=Oper.apart_spec hap;have keep:∀(a:Act),YieldsIf P ops S oi v a->∀ u,YieldsIf P ops S oi v (a.put oj.dst u):=fun a hy u=>
  hy.of_same (execOp_put oi hsi a oj.dst u J) (wanted_put oi a oj.dst u J)
 have keepD:∀ d,YieldsIf P ops S oi v {a with defers:=d::a.defers}:=fun d=>hy.of_same rfl rfl;unfold GZ wpOpIn at *
 simp only[hj]at *
 rw[wanted_put oj a oi.dst v I]at h;split
 ·rename_i hw;simp only[hw,if_true]at h;unfold Oper.wpIn at *
  refine⟨Bp,?_⟩;have h:=h.2;change oj.uponIn (FW none) 0 P (a.put oi.dst v) _ Q ((execOp (a.put oi.dst v).eval oj).run P w)at h;show oj.uponIn (FW none) 0 P a _ Q ((execOp a.eval oj).run P w);rw[execOp_put oj hsj a oi.dst v I]at h;generalize (execOp a.eval oj).run P w=r at *
  cases r with
  | ok x w'=>
   cases x <;> simp only[Oper.uponIn]at h ⊢
   case value u=>exact⟨keep a hy u,by rw[<-Act.put_comm a v u G];exact h⟩
   case skip=>exact⟨keep a hy _,by rw[<-Act.put_comm a v undef G];exact h⟩
   case defer d=>
    refine⟨keep _ (keepD d) _,?_⟩;rw[<-Act.put_comm _ v undef G,<-Act.put_defers];exact h
   case enter f args=>
    refine⟨h.1,CallsIn.mono h.2 fun e w'' he=>?_⟩;cases e with
    | returned u=>exact⟨keep a hy u,by rw[<-Act.put_comm a v u G];exact he⟩
    | panicked c=>exact hQ _ _ _ he
    | outgrown=>exact he
   case row row args=>exact⟨h.1,RowsIn.mono h.2 fun u w'' he=>⟨keep a hy u,by rw[<-Act.put_comm a v u G];exact he⟩⟩
   case round l f tmps assign body=>
    refine⟨h.1,RoundIn.mono h.2 fun e w'' he=>?_⟩;cases e with
    | returned u=>exact⟨keep a hy u,by rw[<-Act.put_comm a v u G];exact he⟩
    | panicked c=>exact hQ _ _ _ he
    | outgrown=>exact he
  | halt x w'=>
   cases x <;> simp only[Oper.uponIn]at h ⊢
   case panic u=>exact hQ _ _ _ h
 ·rename_i hw;simp only[hw]at h;exact⟨Bp,keep a hy _,by rw[<-Act.put_comm a v undef G];exact h.2⟩
end held0
section held
variable {ops:Array Oper} {Qa:Exit -> Act -> World -> Prop} {z:Nat} {S:Bool -> World -> Prop}
def Kx(P:Program)(ops:Array Oper)(Qa:Exit->Act->World->Prop)(z:Nat)(S:Bool->World->Prop):Nat->Array Bool->Act->World->Prop
 | 0,l,a,w=>Region.ready .any ops l=[]/\Qa .normal a w
 | fuel + 1,l,a,w=>(Region.ready .any ops l=[]->Qa .normal a w)/\
  ∀ i∈Region.ready .any ops l,GZ P ops Qa i (fun a' w'=>S ((l.setIfInBounds i true).getD z true) w'/\Kx P ops Qa z S fuel (l.setIfInBounds i true) a' w') a w
theorem NE:∀(fuel:Nat)(l:Array Bool)(a:Act)(w:World),Kx P ops Qa z S fuel l a w->V9 P ops Qa fuel l a w
 | 0,_,_,_,h=>h
 | fuel + 1,_,_,_,h=>⟨h.1,fun i hi=>wpOpIn_mono (fun a' w' h'=>NE fuel _ a' w' h'.2) (h.2 i hi)⟩
theorem KY{i:Nat}{oi:Oper}{v:Value}{zd:Bool}(hi:ops[i]? =some oi)(hsel:∀(j:Nat)(o:Oper) cs b,ops[j]? =some o->o.op≠.select cs b)
  (hQ:∀ c a w,Qa (.panic c) (a.put oi.dst v) w->Qa (.panic c) a w) (hiz:i≠z)
  (hz:∀ oz,ops[z]? =some oz->∃ e∈oz.after,Region.binds .any e=true/\e.on=i):
  ∀(fuel:Nat)(l:Array Bool)(a:Act)(w:World),l.getD z true=zd->
   (∀ j oj,ops[j]? =some oj->j≠i->l.getD j true=false->(∀ e∈oj.after,Region.binds .any e=true->e.on≠i)->oi.apart ops oj=true)->
   i∈Region.ready .any ops l->YieldsIf P ops (S zd) oi v a->S zd w->
   Kx P ops Qa z S fuel (l.setIfInBounds i true) (a.put oi.dst v) w->Kx P ops Qa z S (fuel + 1) l a w:=by
 intro fuel
 induction fuel with
 | zero=>
  intro l a w hzd _ hr hy hS H;refine⟨fun h=>(by rw[h]at hr;cases hr),fun j hj=>?_⟩;by_cases hji:j=i
  ·subst hji;exact Ke hi hy hS ⟨by rw[getD_set_ne true hiz,hzd];exact hS,H⟩
  ·have:=ready_mono hj hji;rw[H.1]at this;cases this
 | succ fuel ih=>
  intro l a w hzd hfree hr hy hS H;have hiu:=(mem_ready.1 hr).1;refine⟨fun h=>(by rw[h]at hr;cases hr),fun j hj=>?_⟩;by_cases hji:j=i
  ·subst hji;exact Ke hi hy hS ⟨by rw[getD_set_ne true hiz,hzd];exact hS,H⟩
  ·have I:=H.2 j (ready_mono hj hji);obtain⟨hju,oj,hoj,hall⟩:=mem_ready.1 hj;have hnot:∀ e,e∈oj.after->Region.binds .any e=true->e.on≠i:=fun e he hb heq=>by
    have G:=hall e he hb;rw[heq]at G;rcases xM i l.size with h' | h'
    ·simp[h']at hiu G;rw[hiu]at G;cases G
    ·simp[wH h']at G
   have hjz:j≠z:=fun e=>by
    subst e;obtain⟨e,he,hb,heq⟩:=hz oj hoj;exact hnot e he hb heq
   have G:=QG hoj (hfree j oj hoj hji hju hnot) (fun cs b=>hsel i oi cs b hi) (fun cs b=>hsel j oj cs b hoj) hQ hy I;have hzd':(l.setIfInBounds j true).getD z true=zd:=by rw[getD_set_ne true hjz];exact hzd
   refine wpOpIn_mono (fun a' w' J=>?_) G;obtain⟨hy',hS',hK⟩:=J;rw[getD_set_ne true hjz,getD_set_ne true hiz,hzd]at hS';refine⟨by rw[hzd'];exact hS',ih (l.setIfInBounds j true) a' w' hzd' (fun k ok hk hki hun hno=>?_) (ready_mono hr (Ne.symm hji)) hy' hS' ?_⟩
   ·refine hfree k ok hk hki ?_ hno;by_cases hjk:j=k
    ·subst hjk;exact hju
    ·rw[getD_set_ne true hjk]at hun;exact hun
   ·rw[Array.setIfInBounds_comm _ _ hji];exact hK
theorem QH{l:Array Bool}{a:Act}{w:World}(hr:Region.ready .any ops l=[])(h:Qa .normal a w):∀ fuel,Kx P ops Qa z S fuel l a w
 | 0=>⟨hr,h⟩
 | _ + 1=>⟨fun _=>h,by rw[hr];simp⟩
end held
def I2(R:Array Oper)(z i:Nat):Bool:=i !=z&&match R[z]? with | none=>true | some o=>o.after.toList.any fun e=>Region.binds .any e&&e.on==i
theorem NF{R:Array Oper}{z i:Nat}(h:I2 R z i=true):i≠z/\ ∀ oz,R[z]? =some oz->∃ e∈oz.after,Region.binds .any e=true/\e.on=i:=by
 unfold I2 at h;simp only[xA,bne_iff_ne,ne_eq]at h;refine⟨h.1,fun oz hz=>?_⟩;have G:=h.2;rw[hz]at G;simp only[List.any_eq_true,xA,beq_iff_eq]at G;obtain⟨e,he,I,J⟩:=G;exact⟨e,by simpa using he,I,J⟩
def nq(PQ:List PanicEntry->List Deferred->World->Prop)(Post:Fr->World->Prop):Exit->Fr->World->Prop
 | .normal,f,w=>Post f w
 | .panic c,f,w=>PQ c f.d w
 | _,_,_=>False
theorem QU{PQ:List PanicEntry->List Deferred->World->Prop}{Post:Fr->World->Prop}{n:Nat}{dst:Option Nat}{v:Value}:∀(c:List PanicEntry)(a:Act)(w:World),lq n (nq PQ Post) (.panic c) (a.put dst v) w->lq n (nq PQ Post) (.panic c) a w:=by
 rintro c a w ⟨f,hf,h⟩;refine⟨⟨fun i=>a.tmps.getD i undef,a.defers⟩,⟨?_,fun i=>rfl,rfl⟩,?_⟩
 ·have:=hf.size;cases dst <;> simpa [Act.put]using this
 ·have e:f.d=a.defers:=by rw[<-hf.defers];cases dst <;> simp[Act.put]
  simp only[nq]at h ⊢;rw[<-e];exact h
def DWP(P:Program)(n:Nat)(R:Array Oper)(PQ:List PanicEntry->List Deferred->World->Prop)(Post:Fr->World->Prop)(z:Nat)(Sw:Bool->World->Prop)(fuel:Nat)(l:List Bool)(f:Fr)(w:World):Prop:=
 okR n R=true->Region.noSelect R=true->Sw (l.toArray.getD z true) w->∀ a,Fy n f a->Kx P R (lq n (nq PQ Post)) z Sw fuel l.toArray a w
section
variable {PQ:List PanicEntry -> List Deferred -> World -> Prop} {Post:Fr -> World -> Prop} {z:Nat} {Sw:Bool -> World -> Prop} {fuel:Nat} {l l':List Bool} {zd:Bool} {i:Nat} {dst:Option Nat} {op:Op} {ty:TypeId} {g:Option (Nat × Bool)}
theorem FO(l:List Bool)(i:Nat)(b:Bool):l.toArray.setIfInBounds i b=(l.set i b).toArray:=by simp
theorem DWP.take{v:Value}(ho:opq R i=some (dst,op,ty,g))(hf:Region.free .any R l.toArray i=true)(hr:(Region.ready .any R l.toArray).contains i=true)(hwt:I2 R z i=true)(hzd:l.toArray.getD z true=zd)(hg:gd R f g=true)
  (hy:∀ w',Sw zd w'->(Am (fev f) op ty).run P w'=.ok (.value v) w') (hl:l.set i true=l') (k:DWP P n R PQ Post z Sw fuel l' (A1 f dst v) w):DWP P n R PQ Post z Sw (fuel + 1) l f w:=by
 intro hok hns hS a ha;obtain⟨o,hR,hd,hop,hty,hgd⟩:=CK ho;obtain⟨hiz,hw⟩:=NF hwt;rw[hzd]at hS;refine KY (v:=v) hR (Region.noSelect_spec hns) ?_ hiz hw fuel l.toArray a w hzd (Region.free_spec hR hf) (by simpa using hr) (.inl ⟨by rw[ha.wanted R o,hgd,hg],fun w' hw'=>?_⟩) hS ?_
 ·exact QU
 ·rw[CE,ha.evalF,hop,hty];exact hy w' hw'
 ·rw[FO,hl,hd];refine k hok hns ?_ _ (ha.put (by rw[<-hd];exact Ew hok hR) v);rw[<-hl,<-FO,getD_set_ne true hiz,hzd];exact hS
theorem DWP.skip(ho:opq R i=some (dst,op,ty,g))(hf:Region.free .any R l.toArray i=true)(hr:(Region.ready .any R l.toArray).contains i=true)(hwt:I2 R z i=true)(hzd:l.toArray.getD z true=zd)(hg:gd R f g=false)
  (hl:l.set i true=l') (k:DWP P n R PQ Post z Sw fuel l' (A1 f dst undef) w):DWP P n R PQ Post z Sw (fuel + 1) l f w:=by
 intro hok hns hS a ha;obtain⟨o,hR,hd,hop,hty,hgd⟩:=CK ho;obtain⟨hiz,hw⟩:=NF hwt;rw[hzd]at hS;refine KY (v:=undef) hR (Region.noSelect_spec hns) ?_ hiz hw fuel l.toArray a w hzd (Region.free_spec hR hf) (by simpa using hr) (.inr ⟨by rw[ha.wanted R o,hgd,hg],rfl⟩) hS ?_
 ·exact QU
 ·rw[FO,hl,hd];refine k hok hns ?_ _ (ha.put (by rw[<-hd];exact Ew hok hR) _);rw[<-hl,<-FO,getD_set_ne true hiz,hzd];exact hS
def Ax(P:Program)(n:Nat)(R:Array Oper)(PQ:List PanicEntry->List Deferred->World->Prop)(Post:Fr->World->Prop)(z:Nat)(Sw:Bool->World->Prop)(fuel:Nat)(l:List Bool)(i:Nat)(f:Fr)(w:World):Prop:=
 okR n R=true->Region.noSelect R=true->Sw (l.toArray.getD z true) w->∀ a,Fy n f a->
  GZ P R (lq n (nq PQ Post)) i (fun a' w'=>Sw ((l.set i true).toArray.getD z true) w'/\Kx P R (lq n (nq PQ Post)) z Sw fuel (l.set i true).toArray a' w') a w
theorem DWP.of{rs:List Nat}(hr:Region.ready .any R l.toArray=rs)(hne:rs.isEmpty=false)(h:∀ i∈rs,Ax P n R PQ Post z Sw fuel l i f w):DWP P n R PQ Post z Sw (fuel + 1) l f w:=by
 intro hok hns hS a ha;refine⟨fun G=>?_,fun j hj=>?_⟩
 ·rw[hr]at G;subst G;cases hne
 ·rw[FO];exact h j (hr ▸ hj) hok hns hS a ha
theorem DWP.one(hr:Region.ready .any R l.toArray=[i])(h:Ax P n R PQ Post z Sw fuel l i f w):DWP P n R PQ Post z Sw (fuel + 1) l f w:=
  DWP.of hr rfl fun j hj => by have : j = i := by simpa using hj
                               subst this;exact h
theorem DWP.two{j:Nat}(hr:Region.ready .any R l.toArray=[i,j])(h:Ax P n R PQ Post z Sw fuel l i f w)(G:Ax P n R PQ Post z Sw fuel l j f w):DWP P n R PQ Post z Sw (fuel + 1) l f w:=
 DWP.of hr rfl fun q hq=>by
  rcases xL.1 hq with e | hq
  ·subst e;exact h
  ·have:q=j:=by simpa using hq
   subst this;exact G
abbrev XR:=@DWP.two
theorem Ax.val{v:Value}{w':World}(hl:l.set i true=l')(hzd:l'.toArray.getD z true=zd)(ho:opq R i=some (dst,op,ty,g))(hg:gd R f g=true)(hy:(Am (fev f) op ty).run P w=.ok (.value v) w')(hS':Sw zd w')
  (k:DWP P n R PQ Post z Sw fuel l' (A1 f dst v) w'):Ax P n R PQ Post z Sw fuel l i f w:=by
 intro hok hns hS a ha;obtain⟨o,hR,hd,hop,hty,hgd⟩:=CK ho;unfold GZ wpOpIn;simp only[hR];rw[ha.wanted R o,hgd,hg];simp only[if_true];refine⟨Bp,?_⟩;show o.uponIn (FW none) 0 P a _ _ ((execOp a.eval o).run P w);rw[CE,ha.evalF,hop,hty,hy];simp only[Oper.uponIn];rw[hl,hd,hzd];exact⟨hS',k hok hns (by rw[hzd];exact hS') _ (ha.put (by rw[<-hd];exact Ew hok hR) v)⟩
abbrev XS:=@Ax.val
theorem Ax.unit{w':World}(hl:l.set i true=l')(hzd:l'.toArray.getD z true=zd)(ho:opq R i=some (none,op,ty,g))(hg:gd R f g=true)(hy:(Am (fev f) op ty).run P w=.ok .skip w')(hS':Sw zd w')
  (k:DWP P n R PQ Post z Sw fuel l' f w'):Ax P n R PQ Post z Sw fuel l i f w:=by
 intro hok hns hS a ha;obtain⟨o,hR,hd,hop,hty,hgd⟩:=CK ho;unfold GZ wpOpIn;simp only[hR];rw[ha.wanted R o,hgd,hg];simp only[if_true];refine⟨Bp,?_⟩;show o.uponIn (FW none) 0 P a _ _ ((execOp a.eval o).run P w);rw[CE,ha.evalF,hop,hty,hy];simp only[Oper.uponIn];rw[hl,hd,hzd];exact⟨hS',k hok hns (by rw[hzd];exact hS') _ ha⟩
abbrev XT:=@Ax.unit
theorem Ax.call{w0:World}{F0 F Fs:Mem}{L Lc Lz:List oO}{f0:Operand}{aos:Array Operand}{ats:Array TypeId}{fid:FuncId}{first cap:Array Value}{args:List Value}{post:Mem->Value->Prop}
  (hl:l.set i true=l') (hzd:l'.toArray.getD z true=zd) (I:l.toArray.getD z true=zd)
  (ho:opq R i=some (dst,.call {callee:=.value f0,args:=aos,argTypes:=ats},ty,g)) (hg:gd R f g=true) (hf:fev f f0=.func (.func fid) first cap) (hok:Ag P fid)
  (ha:first.toList++aos.toList.map (fev f)++cap.toList=args) (hs:HS w0 F0 w F L) (hc:Calls P fid args.toArray w (AD w F post))
  (k:∀ v F1 w1,HS w0 F0 w1 F1 L->XI F F1->post F1 v->DWP P n R PQ Post z (DZ Fs Lc Lz) fuel l' (A1 f dst v) w1):Ax P n R PQ Post z (DZ Fs Lc Lz) fuel l i f w:=by
 intro hokR hns hS a haf;obtain⟨o,hR,hd,hop,hty,hgd⟩:=CK ho;unfold GZ wpOpIn;simp only[hR];rw[haf.wanted R o,hgd,hg];simp only[if_true];refine⟨Bp,?_⟩;show o.uponIn (FW none) 0 P a _ _ ((execOp a.eval o).run P w);rw[CE,haf.evalF,hop,hty,Ek hf hok ha];simp only[Oper.uponIn];refine⟨(fun h=>by cases h),(EG hc).mono ?_⟩;rintro e w' ⟨r,F',rfl,G,J⟩;simp only;rw[I]at hS;have hS':DZ Fs Lc Lz zd w':=hS.keep G.keep;rw[hl,hd,hzd];exact⟨hS',k r F' w' (hs.call G) G.le J hokR hns (by rw[hzd];exact hS') _ (haf.put (by rw[<-hd];exact Ew hokR hR) r)⟩
abbrev XU:=@Ax.call
theorem DWP.split(b:Bool)(ht:b=true->DWP P n R PQ Post z Sw fuel l f w)(hf:b=false->DWP P n R PQ Post z Sw fuel l f w):DWP P n R PQ Post z Sw fuel l f w:=by
 cases b
 ·exact hf rfl
 ·exact ht rfl
theorem DWP.done(hr:Region.ready .any R l.toArray=[])(h:Post f w):DWP P n R PQ Post z Sw fuel l f w:=
 fun _ _ _ a ha=>QH hr ⟨f,ha,h⟩ fuel
abbrev XV:=@DWP.done
end
theorem NP{ρ:Operand->Value}{ty s:TypeId}{x:Operand}{i o k:Nat}{t:TypeId}{gg:Bool}{cs:Array Value}{v:Value}(hx:ρ x=.agg cs)(hf:R8 P s i=some (o,t))(ht:Ef P t=some (gg,k))
  (hl:(Ap cs o k).length=k) (hgs:(gg||k==1)=true) (hv:mkV gg (Ap cs o k)=v):(Am ρ (.field s x i) ty).run P w=.ok (.value v) w:=by
 unfold R8 at hf;split at hf
 ·rename_i fs hu;split at hf
  ·rename_i fl hfl;simp only[xI,Prod.mk.injEq]at hf;obtain⟨rfl,rfl⟩:=hf;exact Tb (o:=0) hx hu hfl ht hl hgs hv
  ·cases hf
 ·cases hf
def La(P:Program):List Field->Option (List (Nat×Nat))
 | []=>some []
 | f::fs=>match P.info? f.type,La P fs with
  | some i,some l=>some ((f.offset,i.size)::l)
  | _,_=>none
def Sh(P:Program)(t:TypeId)(parts:List (Nat×Value)):Option (List Value):=
 match P.underlying t,Bq P t with
 | some (.struct fs),some z=>match La P fs.toList with
  | some pl=>match Instr.fill (pl[·]?) z.cells parts with
   | some cs=>some cs.toList
   | none=>none
  | none=>none
 | _,_=>none
theorem ME:∀(fs:List Field)(pl:List (Nat×Nat)),La P fs=some pl->(fs.mapM (m:=Sem) fun f=>do pure (f.offset,<-sizeOf f.type)).run P w=.ok pl w
 | [],pl,h=>by simp only[La,xI]at h;subst h;rfl
 | f::fs,pl,h=>by
  unfold La at h;split at h
  ·rename_i i l hi hl;simp only[xI]at h;subst h;rw[List.mapM_cons];simp only[xE,Dp hi,xC,xH,ME fs l hl]
  ·cases h
theorem RR{ρ:Operand->Value}{ty t:TypeId}{parts:Array (Nat×Operand)}{vs:List (Nat×Value)}{cs:List Value}(hv:parts.toList.map (fun p=>(p.1,ρ p.2))=vs)(hb:Sh P t vs=some cs):
  (Am ρ (.build t parts) ty).run P w=.ok (.value (.agg cs.toArray)) w:=by
 subst hv;unfold Sh at hb;split at hb
 ·rename_i fs z hu hz;split at hb
  ·rename_i pl hpl;split at hb
   ·rename_i cs' hfill;simp only[xI]at hb;subst hb;have G:Am ρ (.build t parts) ty=(do pure (Next.value (<-Instr.build t (parts.map fun(i,x)=>(i,ρ x))))):=rfl;have hzv:(zeroValue t).run P w=.ok z w:=by
     unfold Bq at hz;split at hz
     ·rename_i i hi;simp[zeroValue,typeInfo,hi,hz]
     ·cases hz
    have hp:(parts.map fun(i,x)=>(i,ρ x)).toList=parts.toList.map fun p=>(p.1,ρ p.2):=by simp
    have hm:=ME (P:=P) (w:=w) fs.toList pl hpl;rw[G];simp only[Instr.build,xE,hzv,xC,run_underlying hu];rw[Array.mapM_eq_mapM_toList,Sem.run_map,hm];simp only[xC,hp,yO,hfill,xH]
   ·cases hb
  ·cases hb
 ·cases hb
def UQ(P:Program)(w:World)(f:Fr):List ResultVar->List Value->Prop
 | [],[]=>True
 | .tmp t::rs,v::vs=>f t=v/\UQ P w f rs vs
 | .cell a t::rs,v::vs=>∃ b o,f a=.pointer (some ⟨b,o,none⟩)/\(loadVar t ⟨b,o,none⟩).run P w=.ok v w/\UQ P w f rs vs
 | _,_=>False
def KA:List Value->Value
 | [v]=>v
 | vs=>.tuple vs.toArray
theorem NU:∀(rs:List ResultVar)(vs:List Value),UQ P w f rs vs->(rs.mapM (L7 f)).run P w=.ok vs w
 | [],[],_=>rfl
 | .tmp t::rs,v::vs,h=>by
  obtain⟨G,I⟩:=h;subst G;rw[List.mapM_cons,xE,L7,xH];simp only[xE,xH,xC,NU rs vs I]
 | .cell a t::rs,v::vs,h=>by
  obtain⟨b,o,G,I,J⟩:=h;have e:(L7 f (.cell a t)).run P w=.ok v w:=by
   rw[L7,G,xE];exact I
  rw[List.mapM_cons,xE,e];simp only[xE,xH,xC,NU rs vs J]
 | [],_::_,h=>h.elim
 | .tmp _::_,[],h=>h.elim
 | .cell _ _::_,[],h=>h.elim
theorem AL{rs:Array ResultVar}{l:List ResultVar}(hr:rs.toList=l){vs:List Value}(h:UQ P w f l vs):(DN rs f).run P w=.ok (KA vs) w:=by
 subst hr;unfold DN;rw[Array.mapM_eq_mapM_toList,xE,Sem.run_map,NU _ _ h];simp only[xC]
 match vs with
 | []=>rfl
 | [v]=>rfl
 | a::b::c=>rfl
end
def Ak{α:Type}(T:Ty α)(E:TypeId)(F:Mem)(a:X7)(cap:Nat)(l:List α)(e:oO):Prop:=
 l.length < 4398046511104/\((a=none/\cap=0/\l=[]/\e.1=none)\/
  ∃ b C,a=some ⟨b,0,none⟩/\e=(some b,.cells C E (0,0))/\l.length<=cap/\C.size=cap * T.sz/\ ∀ i x,l[i]? =some x->T.R F (Ap C (i * T.sz) T.sz) x)
def Bm{α:Type}(l m:List α):Option (List α):=if l.length + m.length < 4294967296 then some (l++m)else none
theorem TB{α:Type}{l m r:List α}(h:Bm l m=some r):l.length + m.length < 4294967296/\r=l++m:=by
 unfold Bm at h;split at h
 ·rename_i hl;cases h;exact⟨hl,rfl⟩
 ·cases h
section
variable {P:Program} {w0 w w':World} {F0 F F':Mem} {L:List (Option Nat × Obj)} {α:Type} {T:Ty α} {E:TypeId} {a:X7} {cap:Nat} {l:List α} {e:Option Nat × Obj}
theorem Ak.mono(h:Ak T E F a cap l e)(hl:XI F F'):Ak T E F' a cap l e:=by
 refine⟨h.1,h.2.imp id ?_⟩;rintro⟨b,C,G,I,J,M,O⟩;exact⟨b,C,G,I,J,M,fun i x hx=>T.mono hl (O i x hx)⟩
theorem Ak.bound(h:Ak T E F a cap l e):LC l.length cap:=⟨by
  rcases h.2 with⟨_,rfl,rfl,_⟩ | ⟨b,C,_,_,G,_⟩
  ·exact xN _
  ·exact G,Nat.lt_trans h.1 (by decide)⟩
abbrev XW:=@Ak.bound
theorem Ak.nil(T:Ty α)(E:TypeId)(F:Mem)(o:Obj):Ak T E F none 0 [] (none,o):=⟨by simp,.inl ⟨rfl,rfl,rfl,rfl⟩⟩
abbrev XX:=@Ak.nil
theorem HS.dummy(h:HS w0 F0 w F L)(o:Obj):HS w0 F0 w F ((none,o)::L):=
 ⟨h.base,h.fix,h.size,h.keep,h.f0,h.pers,fun b o' hm=>by
  rcases xL.1 hm with e | hm
  ·cases e
  ·exact h.own b o' hm,by simpa using h.nd⟩
theorem HS.pick(h:HS w0 F0 w F L){k:Nat}{p:oO}(hk:L[k]? =some p):HS w0 F0 w F (p::L.eraseIdx k):=by
 refine⟨h.base,h.fix,h.size,h.keep,h.f0,h.pers,fun b o hm=>?_,?_⟩
 ·rcases xL.1 hm with e | hm
  ·exact h.own b o (e ▸ yH hk)
  ·exact h.own b o (CL hm)
 ·obtain⟨ob,o⟩:=p;cases ob with
  | none=>simpa using FR (k:=k) h.nd
  | some b=>
   simp only[xZ];refine yE.2 ⟨fun hm=>?_,FR h.nd⟩;obtain⟨o',hm⟩:=KG hm;exact Oj hk h.nd b o' hm rfl
theorem PO{x p:oO}:∀{k:Nat} {L:List oO},x∈L.set k p->x=p\/x∈L.eraseIdx k
 | _,[],h=>by cases h
 | 0,y::L,h=>by
  simp only[wN]at h;rcases xL.1 h with e | h
  ·exact .inl e
  ·exact .inr h
 | k + 1,y::L,h=>by
  simp only[zT]at h;rcases xL.1 h with e | h
  ·subst e;exact .inr (by simp)
  ·rcases PO h with e | h
   ·exact .inl e
   ·exact .inr (by simp[h])
theorem T9{b:Nat}{o:Obj}:∀{k:Nat} {L:List oO},(L.filterMap (·.1)).Nodup->(∀ o',(some b,o')∉L.eraseIdx k)->((L.set k (some b,o)).filterMap (·.1)).Nodup
 | _,[],_,_=>wI
 | 0,y::L,h,hb=>by
  simp only[wN,xZ];refine yE.2 ⟨fun hm=>?_,?_⟩
  ·obtain⟨o',hm⟩:=KG hm;exact hb o' hm
  ·exact FR (k:=0) (L:=y::L) h
 | k + 1,y::L,h,hb=>by
  simp only[zT];have I:(L.filterMap (·.1)).Nodup:=FR (k:=0) (L:=y::L) h;have G:=T9 (b:=b) (o:=o) (k:=k) I (fun o' hm=>hb o' (by rw[zR];exact xD _ hm));cases hy:y.1 with
  | none=>simp only[xZ,hy];exact G
  | some c=>
   simp only[xZ,hy]at h ⊢;refine yE.2 ⟨fun hm=>?_,G⟩;obtain⟨o',hm⟩:=KG hm;rcases PO hm with e | hm
   ·cases e;exact hb y.2 (by rw[zR,<-hy];exact yD)
   ·exact(yE.1 h).1 (zK.2 ⟨(some c,o'),CL hm,rfl⟩)
theorem HS.renew(h:HS w0 F0 w F L)(k:Nat)(o:Obj):HS w0 F0 (w.alloc o) F (L.set k (some w.heap.size,o)):=by
 have G:=h.alloc o;refine⟨G.base,G.fix,G.size,G.keep,G.f0,G.pers,fun b o' hm=>?_,T9 h.nd fun o' hm=>?_⟩
 ·rcases PO hm with e | hm
  ·exact G.own b o' (e ▸ yD)
  ·exact G.own b o' (xD _ (CL hm))
 ·exact absurd (Be (h.own _ _ (CL hm)).1) (Nat.lt_irrefl _)
def Rd(T:Ty α)(F:Mem)(w:World)(a:X7)(l:List α):Prop:=
 l=[]\/ ∃ b o C E fz,a=some ⟨b,o,none⟩/\w.heap[b]? =some (.cells C E fz)/\ ∀ i x,l[i]? =some x->T.R F (Ap C (o + i * T.sz) T.sz) x
theorem SlA.rd(hs:HS w0 F0 w F L)(h:SlA T F a l):Rd T F w a l:=by
 refine h.imp id ?_;rintro⟨b,o,C,E,fz,G,I,J⟩;exact⟨b,o,C,E,fz,G,hs.pers _ _ I,J⟩
theorem Ak.rd(hs:HS w0 F0 w F L){k:Nat}(hk:L[k]? =some e)(h:Ak T E F a cap l e):Rd T F w a l:=by
 refine h.2.imp (fun h=>h.2.2.1) ?_;rintro⟨b,C,G,I,h3,h4,J⟩;subst I;exact⟨b,0,C,E,(0,0),G,hs.ownAt hk,fun i x hx=>by rw[wA];exact J i x hx⟩
theorem Ak.freeze(h:Ak T E F a cap l e)(hF:XI F (Ib F e)):SlA T (Ib F e) a l:=by
 refine h.2.imp (fun h=>h.2.2.1) ?_;rintro⟨b,C,G,I,h3,h4,J⟩;subst I;exact⟨b,0,C,E,(0,0),G,Mz _ _ _,fun i x hx=>by rw[wA];exact T.mono hF (J i x hx)⟩
theorem HS.freezeRow(hs:HS w0 F0 w F L){k:Nat}(hk:L[k]? =some e)(h:Ak T E F a cap l e):∃ F',HS w0 F0 w F' (L.eraseIdx k)/\XI F F'/\SlA T F' a l:=
 ⟨_,(hs.freeze hk).1,(hs.freeze hk).2,h.freeze (hs.freeze hk).2⟩
def C4(T:Ty α)(F:Mem):List α->List Value->Prop
 | [],cs=>cs=[]
 | x::l,cs=>T.R F (cs.take T.sz) x/\C4 T F l (cs.drop T.sz)
theorem C4.len:∀{l:List α} {cs:List Value},C4 T F l cs->cs.length=l.length * T.sz
 | [],cs,h=>by simp only[C4]at h;subst h;simp
 | x::l,cs,h=>by
  obtain⟨G,I⟩:=h;have:=T.len G;have:=C4.len I;simp only[yG,yK,xO]at *
  rw[yI];omega
theorem C4.get:∀{l:List α} {cs:List Value},C4 T F l cs->∀ i x,l[i]? =some x->T.R F ((cs.drop (i * T.sz)).take T.sz) x
 | [],_,_,_,_,h=>by simp at h
 | y::l,cs,h,0,x,hx=>by simp only[yB,xI]at hx;subst hx;simpa using h.1
 | y::l,cs,h,i + 1,x,hx=>by
  simp only[yC]at hx;have:=C4.get h.2 i x hx;rw[zW]at this;rw[yI,Nat.one_mul,wU];exact this
theorem C4.of_get:∀{l:List α} {cs:List Value},cs.length=l.length * T.sz->(∀ i x,l[i]? =some x->T.R F ((cs.drop (i * T.sz)).take T.sz) x)->C4 T F l cs
 | [],cs,hl,_=>by simpa [C4]using hl
 | y::l,cs,hl,h=>by
  refine⟨by simpa using h 0 y rfl,C4.of_get ?_ fun i x hx=>?_⟩
  ·simp only[yK,hl,xO,yI];omega
  ·have:=h (i + 1) x (by simpa using hx);rw[zW];rw[yI,Nat.one_mul,wU]at this;exact this
theorem C4.append:∀{l m:List α} {cs ds:List Value},C4 T F l cs->C4 T F m ds->C4 T F (l++m) (cs++ds)
 | [],m,cs,ds,h,k=>by simp only[C4]at h;subst h;exact k
 | x::l,m,cs,ds,h,k=>by
  have hl:(cs.take T.sz).length=T.sz:=T.len h.1;have hl':T.sz<=cs.length:=by simp only[yG]at hl;omega
  refine⟨?_,?_⟩
  ·rw[xT hl'];exact h.1
  ·rw[xX hl'];exact C4.append h.2 k
theorem Ak.lit{b:Nat}{cs:List Value}(h:C4 T F l cs)(hl:decide (l.length < 4294967296)=true):Ak T E F (some ⟨b,0,none⟩) l.length l (some b,.cells cs.toArray E (0,0)):=
 ⟨Nat.lt_trans (show l.length < 4294967296 by simpa using hl) (by decide),.inr ⟨b,cs.toArray,rfl,rfl,xN _,by simpa using h.len,fun i x hx=>h.get i x hx⟩⟩
abbrev XY:=@Ak.lit
end
section
variable {P:Program} {w0 w w':World} {F0 F F':Mem} {L:List (Option Nat × Obj)} {α:Type} {T:Ty α} {E:TypeId} {a:X7} {cap:Nat} {l m:List α} {e:Option Nat × Obj}
theorem MN{C:Array Value}{o:Nat}(hm:m≠[])(h:∀ i x,m[i]? =some x->T.R F (Ap C (o + i * T.sz) T.sz) x):(Ap C o (m.length * T.sz)).length=m.length * T.sz:=by
 have hl:0 < m.length:=List.length_pos_iff.2 hm;have h1:=T.len (h (m.length - 1) m[m.length - 1] (by simp[hl]));unfold Ap at *
 simp only[yG,yK,Array.length_toList]at *
 rcases wD T.sz with G | G
 ·rw[G];simp
 ·have e:(m.length - 1) * T.sz + T.sz=m.length * T.sz:=by
   rw[<-yV];congr 1;omega
  omega
theorem Iy{C:Array Value}{o:Nat}(hm:m≠[])(h:∀ i x,m[i]? =some x->T.R F (Ap C (o + i * T.sz) T.sz) x):C4 T F m (Ap C o (m.length * T.sz)):=by
 refine C4.of_get (MN hm h) fun i x hx=>?_;have hi:i < m.length:=by
  rcases xM i m.length with h' | h'
  ·exact h'
  ·rw[xG h']at hx;cases hx
 have:=MM (C:=C) (o:=o) (k:=m.length * T.sz) rfl (j:=i * T.sz) (s:=T.sz) (by
  have:i * T.sz + T.sz<=m.length * T.sz:=by rw[<-yV];exact xU _ hi
  simpa using this)
 rw[<-this];exact h i x hx
theorem Rd.load(h:Rd T F w a m)(c:Nat):∃ cs,C4 T F m cs/\(Builtin.firstCells T.sz m.length (.slice a m.length c)).run P w=.ok cs.toArray w:=by
 by_cases hm:m=[]
 ·subst hm;refine⟨[],rfl,?_⟩;cases a with
  | none=>rfl
  | some a=>simp[Builtin.firstCells,loadCells,loadCellsFrom]
 ·rcases h with h | ⟨b,o,C,E,fz,rfl,hb,hx⟩
  ·exact absurd h hm
  ·refine⟨_,Iy hm hx,?_⟩;simp only[Builtin.firstCells];have hl:=MN hm hx;have:=run_loadCells_list (P:=P) (w:=w) ⟨b,o,none⟩ (Ap C o (m.length * T.sz)) (fun j v hj=>by
    have hjs:j < m.length * T.sz:=by
     rcases xM j (m.length * T.sz)with h' | h'
     ·exact h'
     ·rw[xG (by omega)]at hj;cases hj
    rw[Addr.add_lit,LM hb,Hj hl hjs];exact hj)
   rw[hl]at this;exact this
theorem EM{t:TypeId}{s by_:Nat}(h:A2 P t=some (E,s,by_)):∃ i,P.underlying t=some (.slice E)/\P.info? E=some i/\i.size=s/\i.bytes=by_:=by
 unfold A2 at h;split at h
 ·rename_i e hu;split at h
  ·rename_i i hi;simp only[xI,Prod.mk.injEq]at h;obtain⟨rfl,rfl,rfl⟩:=h;exact⟨i,hu,hi,rfl,rfl⟩
  ·cases h
 ·cases h
def Og(P:Program)(t:TypeId):Bool:=match P.underlying t with | some (.slice _)=>true | _=>false
theorem Oh(need B:Nat)(hB:need + need / 4 + 192<=B):∀(r c:Nat),c<=B->Builtin.growBy need r c<=B
 | 0,c,h=>by simpa [Builtin.growBy]using h
 | r + 1,c,h=>by
  simp only[Builtin.growBy];split
  ·exact h
  ·exact Oh need B hB r _ (by omega)
theorem MF{need c:Nat}(h:c < need):Builtin.nextslicecap need c<=need + need / 4 + 512:=by
 unfold Builtin.nextslicecap;split
 ·omega
 ·split
  ·omega
  ·exact Oh need _ (by omega) _ _ (by omega)
theorem NM{β:Type}{x:β}:∀{k:Nat} {L:List β},L[k]? =some x->L.set k x=L
 | _,[],h=>by simp at h
 | 0,y::L,h=>by simp only[yB,xI]at h;subst h;rfl
 | k + 1,y::L,h=>by simp only[yC]at h;rw[zT,NM h]
def Ty.One(T:Ty α):Prop:=∀{F:Mem} {cs:List Value} {x:α},T.R F cs x->cs.all (·.oneCell')=true
theorem W0:AK.One:=fun h=>by subst h;rfl
theorem C4.one(G:T.One):∀{l:List α} {cs:List Value},C4 T F l cs->cs.all (·.oneCell')=true
 | [],cs,h=>by simp only[C4]at h;subst h;rfl
 | x::l,cs,h=>by
  have e:cs=cs.take T.sz++cs.drop T.sz:=(wK _ _).symm;rw[e,zI,G h.1,C4.one G h.2];rfl
theorem OK:∀(vs:List Value)(C:Array Value)(o i:Nat),o + vs.length<=C.size->(BE C o vs)[i]? =if o<=i/\i < o + vs.length then vs[i - o]? else C[i]?
 | [],C,o,i,_=>by
  simp only[BE,List.length_nil,zZ];rw[if_neg (by omega)]
 | v::vs,C,o,i,h=>by
  simp only[xO]at h;rw[BE,OK vs _ (o + 1) i (by simp;omega)];by_cases hio:i=o
  ·subst hio;rw[if_neg (by omega),if_pos (by simp)];have hlt:i < C.size:=by omega
   simp[hlt]
  ·by_cases G:o + 1<=i/\i < o + 1 + vs.length
   ·rw[if_pos G,if_pos (by simp only[xO];omega)];have:i - o=(i - (o + 1)) + 1:=by omega
    rw[this,yC]
   ·rw[if_neg G,if_neg (by simp only[xO];omega)];simp[zS,Ne.symm hio]
theorem Ec{vs:List Value}{C:Array Value}{o:Nat}(h:o + vs.length<=C.size):(BE C o vs).toList=C.toList.take o++vs++C.toList.drop (o + vs.length):=by
 apply zU;intro i;rw[yP,OK _ _ _ _ h];by_cases G:i < o
 ·rw[if_neg (by omega),yT (by simp;omega),yT (by simp;omega),yU G,yP]
 ·by_cases I:i < o + vs.length
  ·rw[if_pos ⟨by omega,I⟩,yT (by simp;omega),yQ (by simp;omega)];congr 1;simp;omega
  ·rw[if_neg (by omega),yQ (by simp;omega),yR,yP];congr 1;simp;omega
theorem Rx{t t2 ty:TypeId}{by_ c2:Nat}{a2:X7}{z:Value}(he:A2 P t=some (E,T.sz,by_))(hni:Og P t2=true)(hz:Bq P E=some z)(hzs:z.cells.size=T.sz)
  (I:T.One) (hs:HS w0 F0 w F L) {k:Nat} (hk:L[k]? =some e) (hr:Ak T E F a cap l e) (hm:Rd T F w a2 m) (hlen:l.length + m.length < 4398046511104) (hroom:((l.length + m.length) + (l.length + m.length) / 4 + 512) * by_<=281474976710656):
  ∃ a' cap' e' w',(Builtin.append_ #[t,t2] ty #[.slice a l.length cap,.slice a2 m.length c2]).run P w=.ok (.slice a' (l++m).length cap') w'/\HS w0 F0 w' F (L.set k e')/\Ak T E F a' cap' (l++m) e':=by
 obtain⟨i,hu,hi,his,hib⟩:=EM he;obtain⟨new,hnew,hload⟩:=hm.load (P:=P) c2;have hnl:=hnew.len;obtain⟨G,hd⟩:∃ G,P.underlying t2=some (.slice G):=by
  unfold Og at hni;split at hni
  ·rename_i G h;exact⟨G,h⟩
  ·cases hni
 unfold Builtin.append_;simp only[yO,yB,yC,xE,run_underlying hu,xC,Dp hi,his];simp only[run_underlying hd,xC,xH,xR,if_false,Builtin.lenOf];simp only[pure_bind];by_cases hfit:l.length + m.length<=cap
 ·rw[if_pos hfit];simp only[zM,if_true,xE,hload,xC];rcases hr.2 with⟨rfl,rfl,rfl,h4⟩ | ⟨b,C,rfl,rfl,hlc,hC,hx⟩
  ·have J:m=[]:=List.eq_nil_of_length_eq_zero (by simpa using hfit);subst J;refine⟨none,0,e,w,?_,?_,hr⟩
   ·simp
   ·rw[NM hk];exact hs
  ·have hC1:l.length * T.sz + new.length<=C.size:=by rw[hC,hnl,<-yI];exact xU _ hfit
   have hst:=CR (P:=P) E new w b (l.length * T.sz) 0 C (hs.ownAt hk) (by simpa using hC1) (hnew.one I);refine⟨some ⟨b,0,none⟩,cap,(some b,.cells (BE C (l.length * T.sz) new) E (0,0)),Ct w b (.cells (BE C (l.length * T.sz) new) E (0,0)),?_,hs.put hk _,?_⟩
   ·simp only[Addr.add_lit,wA];simp only[zZ]at hst;rw[xE,hst];simp
   ·have hrow:C4 T F l (Ap C 0 (l.length * T.sz)):=by
     by_cases hl:l=[]
     ·subst hl;simp[C4,Ap]
     ·exact Iy hl (fun i x hi=>by rw[wA];exact hx i x hi)
    have hlr:=hrow.len;refine⟨by simpa using hlen,.inr ⟨b,_,rfl,rfl,by simpa using hfit,by rw[Ca,hC],fun i x hix=>?_⟩⟩;have:=(C4.append hrow hnew).get i x hix;have hii:i < (l++m).length:=by
     rcases xM i (l++m).length with h' | h'
     ·exact h'
     ·rw[xG h']at hix;cases hix
    unfold Ap;rw[Ec hC1];have M:C.toList.take (l.length * T.sz)=Ap C 0 (l.length * T.sz):=by simp[Ap]
    rw[M];have hle:i * T.sz + T.sz<=(Ap C 0 (l.length * T.sz)++new).length:=by
     rw[xJ,hlr,hnl,<-yI,<-yV];exact xU _ (Nat.succ_le_of_lt (by simpa using hii))
    rw[xX (by omega),xT (by simp only[yK];omega)];exact this
 ·rw[if_neg hfit];have hcl:cap < l.length + m.length:=by omega
  have hnc:=MF hcl;have hti:∀ w,(typeInfo E).run P w=.ok i w:=fun w=>by simp[typeInfo,hi]
  have hmax:¬ (((l.length + m.length:Nat):Int) > IntKind.i64.max/\(False\/i.bytes=0)):=by
   have:IntKind.i64.max=9223372036854775807:=by decide
   omega
  have hbig:¬ (Builtin.nextslicecap (l.length + m.length) cap * i.bytes > 2 ^ 48):=by
   have:Builtin.nextslicecap (l.length + m.length) cap * i.bytes<=((l.length + m.length) + (l.length + m.length) / 4 + 512) * by_:=Nat.mul_le_mul hnc (hib ▸ xN _);omega
  obtain⟨old,hold,hloadO⟩:=(hr.rd hs hk).load (P:=P) cap;simp only[xE,hti,xC];rw[if_neg hmax];simp only[xE,hti,xC];rw[if_neg hbig];simp only[xE,hti,xC,zM,if_true];have hne:l.length + m.length < 2 ^ 63:=by omega
  simp only[xH,xC,run_choose,Question.forced,xR,if_false,run_askRoom];generalize hq:(Question.appendCap (l.length + m.length) cap E).cut (w.tape w.drawn (Question.appendCap (l.length + m.length) cap E))=nc;have O:l.length + m.length<=nc:=by rw[<-hq];simp[Question.cut]
  have hsd:HS w0 F0 {w with drawn:=w.drawn + 1} F L:=hs.heap rfl;obtain⟨old,hold,hloadO⟩:=(hr.rd hsd hk).load (P:=P) cap;have hmd:Rd T F {w with drawn:=w.drawn + 1} a2 m:=hm;obtain⟨new,hnew,hload⟩:=hmd.load (P:=P) c2;have hzv:(zeroValue E).run P {w with drawn:=w.drawn + 1}=.ok z {w with drawn:=w.drawn + 1}:=by
   unfold Bq at hz;rw[hi]at hz;simp[zeroValue,typeInfo,hi,hz]
  simp only[hti,hloadO,xC,hload,hzv,newRow,xE,run_newObj,xH];have hol:=hold.len;have hnl:=hnew.len;have hzc:(Builtin.zeroCells z.cells (nc - (l.length + m.length))).size=(nc - (l.length + m.length)) * T.sz:=by simp[Builtin.zeroCells,hzs]
  refine⟨some ⟨w.heap.size,0,none⟩,nc,(some w.heap.size,.cells (old.toArray++new.toArray++Builtin.zeroCells z.cells (nc - (l.length + m.length))) E (0,0)),_,?_,hsd.renew k _,?_⟩
  ·simp only[xJ];rfl
  ·refine⟨by simpa using hlen,.inr ⟨_,_,rfl,rfl,by simpa using O,?_,fun i x hix=>?_⟩⟩
   ·simp only[Array.size_append,List.size_toArray,hol,hnl,hzc];rw[<-yI,<-yI];congr 1;omega
   ·have:=(C4.append hold hnew).get i x hix;have hii:i < (l++m).length:=by
     rcases xM i (l++m).length with h' | h'
     ·exact h'
     ·rw[xG h']at hix;cases hix
    unfold Ap;simp only[wB];have hle:i * T.sz + T.sz<=(old++new).length:=by
     rw[xJ,hol,hnl,<-yI,<-yV];exact xU _ (Nat.succ_le_of_lt (by simpa using hii))
    rw[xX (by simpa using (by omega:i * T.sz<=(old++new).length)),xT (by simp only[yK];omega)];exact this
theorem Si{t t2 ty:TypeId}{by_ c2:Nat}{a2:X7}{z:Value}(he:A2 P t=some (E,T.sz,by_))(hb:decide (by_<=1024)=true)(hni:Og P t2=true)(hz:Bq P E=some z)(hzs:z.cells.size=T.sz)
  (G:T.One) (hs:HS w0 F0 w F L) {k:Nat} (hk:L[k]? =some e) (hr:Ak T E F a cap l e) (hm:Rd T F w a2 m) {r:List α} (hap:Bm l m=some r):
  ∃ a' cap' e' w',(Builtin.append_ #[t,t2] ty #[.slice a l.length cap,.slice a2 m.length c2]).run P w=.ok (.slice a' r.length cap') w'/\HS w0 F0 w' F (L.set k e')/\Ak T E F a' cap' r e':=by
 obtain⟨hlen,rfl⟩:=TB hap;have hb':by_<=1024:=by simpa using hb
 exact Rx he hni hz hzs G hs hk hr hm (by omega) (by
  have:((l.length + m.length) + (l.length + m.length) / 4 + 512) * by_<=5368709632 * 1024:=Nat.mul_le_mul (by omega) hb';omega)
section
variable {ro:Option Nat} {n:Nat} {R:Array Oper} {Q:Exit -> Fr -> World -> Prop} {f:Fr} {i:Nat} {rest:List Nat} {dst:Option Nat} {ty:TypeId} {g:Option (Nat × Bool)} {PQ:List PanicEntry -> List Deferred -> World -> Prop} {Post:Fr -> World -> Prop} {fuel:Nat} {ll l':List Bool} {Fs:Mem} {Lc Lz:List (Option Nat × Obj)} {zz:Nat} {zd:Bool}
theorem Ax.box{x:Operand}{t:TypeId}{v:Value}{C:Array Value}(hl:ll.set i true=l')(hzd:l'.toArray.getD zz true=zd)(ho:opq R i=some (dst,.box t x,ty,g))(hg:gd R f g=true)(hx:fev f x=v)(hC:v.cells=C)
  (hs:HS w0 F0 w F L) (hle:XI Fs F) (hL:∀ p,p∈Lc->p∈L) (hLz:zd=false->∀ p,p∈Lz->p∈L) (k:∀ b w',HS w0 F0 w' F ((some b,.cells C t (0,0))::L)->DWP P n R PQ Post zz (DZ Fs Lc Lz) fuel l' (A1 f dst (.pointer (some ⟨b,0,none⟩))) w'):Ax P n R PQ Post zz (DZ Fs Lc Lz) fuel ll i f w:=by
 subst hC;exact XS hl hzd ho hg (Su hx) (A0 (hs.alloc _) hle (fun p hp=>xD _ (hL p hp)) (fun e p hp=>xD _ (hLz e p hp))) (k _ _ (hs.alloc _))
theorem Ax.alloc{t:TypeId}{z:Value}{C:Array Value}(hl:ll.set i true=l')(hzd:l'.toArray.getD zz true=zd)(ho:opq R i=some (dst,.alloc t,ty,g))(hg:gd R f g=true)(hz:Bq P t=some z)(hC:z.cells=C)
  (hs:HS w0 F0 w F L) (hle:XI Fs F) (hL:∀ p,p∈Lc->p∈L) (hLz:zd=false->∀ p,p∈Lz->p∈L) (k:∀ b w',HS w0 F0 w' F ((some b,.cells C t (0,0))::L)->DWP P n R PQ Post zz (DZ Fs Lc Lz) fuel l' (A1 f dst (.pointer (some ⟨b,0,none⟩))) w'):Ax P n R PQ Post zz (DZ Fs Lc Lz) fuel ll i f w:=by
 subst hC;exact XS hl hzd ho hg (Ph hz) (A0 (hs.alloc _) hle (fun p hp=>xD _ (hL p hp)) (fun e p hp=>xD _ (hLz e p hp))) (k _ _ (hs.alloc _))
theorem NS{x y:Operand}{t t2:TypeId}{by_ c2:Nat}{a2:X7}{z:Value}(hx:fev f x=.slice a l.length cap)(hy:fev f y=.slice a2 m.length c2)
  (he:A2 P t=some (E,T.sz,by_)) (hb:decide (by_<=1024)=true) (hni:Og P t2=true) (hz:Bq P E=some z) (hzs:z.cells.size=T.sz)
  (G:T.One) (hs:HS w0 F0 w F L) {k:Nat} (hk:L[k]? =some e) (hr:Ak T E F a cap l e) (hm:Rd T F w a2 m) {r:List α} (hap:Bm l m=some r):
  ∃ a' cap' e' w',(Am (fev f) (.call {callee:=.builtin .append,args:=#[x,y],argTypes:=#[t,t2]}) ty).run P w=.ok (.value (.slice a' r.length cap')) w'/\HS w0 F0 w' F (L.set k e')/\Ak T E F a' cap' r e':=by
 obtain⟨a',cap',e',w',G,I,J⟩:=Si (ty:=ty) he hb hni hz hzs G hs hk hr hm hap;refine⟨a',cap',e',w',?_,I,J⟩;have M:Am (fev f) (.call {callee:=.builtin .append,args:=#[x,y],argTypes:=#[t,t2]}) ty=(do pure (Next.value (<-Builtin.append_ #[t,t2] ty (Array.map (fev f) #[x,y])))):=rfl;rw[M,map_toArray];simp only[yY,zD,hx,hy];rw[xE,G];rfl
theorem RWP.append{x y:Operand}{t t2:TypeId}{by_ c2:Nat}{a2:X7}{z:Value}(ho:opq R i=some (dst,.call {callee:=.builtin .append,args:=#[x,y],argTypes:=#[t,t2]},ty,g))(hg:gd R f g=true)
  (hx:fev f x=.slice a l.length cap) (hy:fev f y=.slice a2 m.length c2)
  (he:A2 P t=some (E,T.sz,by_)) (hb:decide (by_<=1024)=true) (hni:Og P t2=true) (hz:Bq P E=some z) (hzs:z.cells.size=T.sz)
  (G:T.One) (hs:HS w0 F0 w F L) {k:Nat} (hk:L[k]? =some e) (hr:Ak T E F a cap l e) (hm:Rd T F w a2 m) {r:List α} (hap:Bm l m=some r)
  (kk:∀ a' cap' e' w',HS w0 F0 w' F (L.set k e')->Ak T E F a' cap' r e'->RWP P ro n R Q rest (A1 f dst (.slice a' r.length cap')) w'):RWP P ro n R Q (i::rest) f w:=by
 obtain⟨a',cap',e',w',G,I,J⟩:=NS (ty:=ty) hx hy he hb hni hz hzs G hs hk hr hm hap;exact XF ho hg G (kk a' cap' e' w' I J)
theorem Ax.append{x y:Operand}{t t2:TypeId}{by_ c2:Nat}{a2:X7}{z:Value}(hl':ll.set i true=l')(hzd:l'.toArray.getD zz true=zd)(ho:opq R i=some (dst,.call {callee:=.builtin .append,args:=#[x,y],argTypes:=#[t,t2]},ty,g))(hg:gd R f g=true)
  (hx:fev f x=.slice a l.length cap) (hy:fev f y=.slice a2 m.length c2)
  (he:A2 P t=some (E,T.sz,by_)) (hb:decide (by_<=1024)=true) (hni:Og P t2=true) (hz:Bq P E=some z) (hzs:z.cells.size=T.sz)
  (G:T.One) (hs:HS w0 F0 w F L) {k:Nat} (hk:L[k]? =some e) (hr:Ak T E F a cap l e) (hm:Rd T F w a2 m) {r:List α} (hap:Bm l m=some r) (hle:XI Fs F) (hL:∀ e' p,p∈Lc->p∈L.set k e') (hLz:zd=false->∀ e' p,p∈Lz->p∈L.set k e')
  (kk:∀ a' cap' e' w',HS w0 F0 w' F (L.set k e')->Ak T E F a' cap' r e'->DWP P n R PQ Post zz (DZ Fs Lc Lz) fuel l' (A1 f dst (.slice a' r.length cap')) w'):Ax P n R PQ Post zz (DZ Fs Lc Lz) fuel ll i f w:=by
 obtain⟨a',cap',e',w',G,I,J⟩:=NS (ty:=ty) hx hy he hb hni hz hzs G hs hk hr hm hap;exact XS hl' hzd ho hg G (A0 I hle (hL e') (fun e=>hLz e e')) (kk a' cap' e' w' I J)
def LX(P:Program)(t:TypeId)(len:Nat)(parts:List (Nat×Value)):Option (TypeId×List Value):=
 match A2 P t with
 | some (E,s,_)=>
  if len * s > 2 ^ 24 then none else
  match Bq P E with
  | some z=>if s=0 then none else
   match Instr.fill (fun i=>some (i * s,s)) ((List.range (len * s)).map (z.cells[· % z.cells.size]!)).toArray parts with
   | some cs=>some (E,cs.toList)
   | none=>none
  | none=>none
 | none=>none
theorem Xp(parts:Array (Nat×Operand))(ρ:Operand->Value):(parts.map fun(i,x)=>(i,ρ x))=(parts.toList.map fun p=>(p.1,ρ p.2)).toArray:=by
 apply yZ;simp
theorem I9{t:TypeId}{len:Nat}{parts:Array (Nat×Operand)}{vs:List (Nat×Value)}{cs:List Value}(hv:parts.toList.map (fun p=>(p.1,fev f p.2))=vs)(hb:LX P t len vs=some (E,cs)):
  (Am (fev f) (.buildSlice t len parts) ty).run P w=.ok (.value (.slice (some ⟨w.heap.size,0,none⟩) len len)) (w.alloc (.cells cs.toArray E (0,0))):=by
 subst hv;unfold LX at hb;split at hb
 ·rename_i E' s by_ he;obtain⟨i,hu,hi,his,hib⟩:=EM he;split at hb
  ·cases hb
  ·rename_i I;split at hb
   ·rename_i z hz;split at hb
    ·cases hb
    ·rename_i h1;split at hb
     ·rename_i cs' hfill;simp only[xI,Prod.mk.injEq]at hb;obtain⟨rfl,rfl⟩:=hb;have J:Am (fev f) (.buildSlice t len parts) ty=(do pure (Next.value (<-Instr.buildSlice t len (parts.map fun(i,x)=>(i,fev f x))))):=rfl;have hzv:(zeroValue E').run P w=.ok z w:=by
       unfold Bq at hz;rw[hi]at hz;simp[zeroValue,typeInfo,hi,hz]
      rw[J,Xp];have hrange:(Array.range (len * s)).map (z.cells[· % z.cells.size]!)=((List.range (len * s)).map (z.cells[· % z.cells.size]!)).toArray:=by
       apply yZ;simp
      by_cases G:len * s=0
      ·simp only[Instr.buildSlice,xE,run_underlying hu,xC,Dp hi,his,I,if_false,G,if_true,xH];rw[G]at hfill;simp only[List.range_zero,zD]at hfill;have h24':¬ (0 > 2 ^ 24):=by omega
       rw[if_neg h24'];simp only[xE,xH,xC,Array.range_zero'];rw[show(Array.map (fun x=>(#[]:Array Value)[x % (#[]:Array Value).size]!) #[])=([]:List Value).toArray from by simp,hfill];simp only[newRow,xE,run_newObj,xC,xH];rfl
      ·simp only[Instr.buildSlice,xE,run_underlying hu,xC,Dp hi,his,I,if_false,G,xH,hzv];rw[hrange,hfill];simp only[newRow,xE,run_newObj,xC,xH];rfl
     ·cases hb
   ·cases hb
 ·cases hb
theorem RWP.buildSlice{t:TypeId}{len:Nat}{parts:Array (Nat×Operand)}{vs:List (Nat×Value)}{cs:List Value}(ho:opq R i=some (dst,.buildSlice t len parts,ty,g))(hg:gd R f g=true)
  (hv:parts.toList.map (fun p=>(p.1,fev f p.2))=vs) (hb:LX P t len vs=some (E,cs)) (hs:HS w0 F0 w F L)
  (k:∀ b w',HS w0 F0 w' F ((some b,.cells cs.toArray E (0,0))::L)->RWP P ro n R Q rest (A1 f dst (.slice (some ⟨b,0,none⟩) len len)) w'):RWP P ro n R Q (i::rest) f w:=
 XF ho hg (I9 hv hb) (k _ _ (hs.alloc _))
theorem Ax.buildSlice{t:TypeId}{len:Nat}{parts:Array (Nat×Operand)}{vs:List (Nat×Value)}{cs:List Value}(hl':ll.set i true=l')(hzd:l'.toArray.getD zz true=zd)(ho:opq R i=some (dst,.buildSlice t len parts,ty,g))(hg:gd R f g=true)
  (hv:parts.toList.map (fun p=>(p.1,fev f p.2))=vs) (hb:LX P t len vs=some (E,cs)) (hs:HS w0 F0 w F L) (hle:XI Fs F) (hL:∀ p,p∈Lc->p∈L) (hLz:zd=false->∀ p,p∈Lz->p∈L)
  (k:∀ b w',HS w0 F0 w' F ((some b,.cells cs.toArray E (0,0))::L)->DWP P n R PQ Post zz (DZ Fs Lc Lz) fuel l' (A1 f dst (.slice (some ⟨b,0,none⟩) len len)) w'):Ax P n R PQ Post zz (DZ Fs Lc Lz) fuel ll i f w:=
 XS hl' hzd ho hg (I9 hv hb) (A0 (hs.alloc _) hle (fun p hp=>xD _ (hL p hp)) (fun e p hp=>xD _ (hLz e p hp))) (k _ _ (hs.alloc _))
theorem ND{x:Int}(G: -9223372036854775808<=x)(I:x<=9223372036854775807):IntKind.i64.wrap x=x:=IntWalk.i64_in x ⟨G,I⟩
theorem Te(zc:Array Value)(k:Nat){z:α}(hz:T.R F zc.toList z):∀ i x,(List.replicate k z)[i]? =some x->T.R F (Ap ((Array.range (k * zc.size)).map (zc[· % zc.size]!)) (i * T.sz) T.sz) x:=by
 intro i x hx;have hi:i < k:=by
  rcases xM i k with h' | h'
  ·exact h'
  ·rw[xG (by simpa using h')]at hx;cases hx
 have hxz:x=z:=by simpa [hi]using hx.symm
 subst hxz;have hs:T.sz=zc.size:=by have:=T.len hz;simpa using this.symm
 have:Ap ((Array.range (k * zc.size)).map (zc[· % zc.size]!)) (i * T.sz) T.sz=zc.toList:=by
  rw[hs];apply zU;intro j;unfold Ap;by_cases hj:j < zc.size
  ·have hle:i * zc.size + zc.size<=k * zc.size:=by rw[<-yV];exact xU _ hi
   rw[yU hj,yR,yP];have hlt:i * zc.size + j < k * zc.size:=by omega
   have hm:(i * zc.size + j) % zc.size=j:=by rw[Nat.mul_comm,Nat.mul_add_mod,Nat.mod_eq_of_lt hj]
   simp[hlt,hm,hj]
  ·rw[xG (by simp;omega),xG (by simpa using hj)]
 rw[this];exact hz
theorem Iq{v:Value}{a:X7}{j:Nat}{u:α}(h:v=.slice a l.length cap):v=.slice a (l.set j u).length cap:=by rw[List.length_set];exact h
theorem Da{x y:Operand}{t:TypeId}{kk:IntKind}{b nn c:Nat}{j:Int}{s by_:Nat}(hx:fev f x=.slice (some ⟨b,0,none⟩) nn c)(hy:fev f y=.int kk j)(he:A2 P t=some (E,s,by_))
  (hi:0<=j/\j < (nn:Int)):(Am (fev f) (.indexAddr t x y) ty).run P w=.ok (.value (.pointer (some ⟨b,j.toNat * s,none⟩))) w:=by
 have:=BN (P:=P) (w:=w) (ty:=ty) hx hy he hi;rw[wA]at this;exact this
theorem Ak.open(h:Ak T E F a cap l e){j:Nat}{x:α}(hx:l[j]? =some x):∃ b C,a=some ⟨b,0,none⟩/\e=(some b,.cells C E (0,0))/\ ∀ i x,l[i]? =some x->T.R F (Ap C (i * T.sz) T.sz) x:=by
 rcases h.2 with⟨_,_,rfl,_⟩ | ⟨b,C,G,I,_,_,J⟩
 ·simp at hx
 ·exact⟨b,C,G,I,J⟩
abbrev XZ:=@Ak.open
theorem Ak.set{b:Nat}{C:Array Value}(h:Ak T E F a cap l (some b,.cells C E (0,0))){j:Nat}{x y:α}(hx:l[j]? =some x){vs:List Value}(hy:T.R F vs y):Ak T E F a cap (l.set j y) (some b,.cells (BE C (j * T.sz) vs) E (0,0)):=by
 rcases h.2 with⟨_,_,rfl,_⟩ | ⟨b',C',M,O,U,I,Y⟩
 ·simp at hx
 ·cases O;have hj:j < l.length:=by
   rcases xM j l.length with h' | h'
   ·exact h'
   ·rw[xG h']at hx;cases hx
  have hvl:=T.len hy;have hle:j * T.sz + vs.length<=C.size:=by
   rw[hvl,I,<-yV];exact xU _ (by omega)
  refine⟨by simpa using h.1,.inr ⟨b,_,M,rfl,by simpa using U,by rw[Ca,I],fun i z hz=>?_⟩⟩;by_cases hij:i=j
  ·subst hij;have:z=y:=by simpa [hj]using hz.symm
   subst this;have:Ap (BE C (i * T.sz) vs) (i * T.sz) T.sz=vs:=by
    unfold Ap;rw[Ec hle,xY,xX (by simp;omega),yA (by simp;omega),wE,xT (by omega),<-hvl,yW]
   rw[this];exact hy
  ·have hz':l[i]? =some z:=by rw[List.getElem?_set_ne (Ne.symm hij)]at hz;exact hz
   have J:=Y i z hz';have h7:=T.len J;have:Ap (BE C (j * T.sz) vs) (i * T.sz) T.sz=Ap C (i * T.sz) T.sz:=by
    apply zU;intro q;unfold Ap;by_cases hq:q < T.sz
    ·rw[yU hq,yU hq,yR,yR,yP,yP,OK _ _ _ _ hle];rw[if_neg];rw[hvl];rcases Nat.lt_or_gt_of_ne hij with G | G
     ·have:i * T.sz + T.sz<=j * T.sz:=by rw[<-yV];exact xU _ G
      omega
     ·have:j * T.sz + T.sz<=i * T.sz:=by rw[<-yV];exact xU _ G
      omega
    ·rw[xG (by simp;omega),xG (by simp;omega)]
   rw[this];exact J
theorem K5{x y:Operand}{t:TypeId}{v:Value}{gg:Bool}{b j:Nat}{C:Array Value}{q u:α}(hx:fev f x=.pointer (some ⟨b,j * T.sz,none⟩))(hy:fev f y=v)(ht:Ef P t=some (gg,T.sz))
  (hs:HS w0 F0 w F L) {k:Nat} (hk:L[k]? =some (some b,.cells C E (0,0))) (hr:Ak T E F a cap l (some b,.cells C E (0,0))) (hq:l[j]? =some q) (hu:T.R F v.cells.toList u) (G:v.cells.toList.all (·.oneCell')=true):
  ∃ C' w',(Am (fev f) (.store t x y) ty).run P w=.ok .skip w'/\HS w0 F0 w' F (L.set k (some b,.cells C' E (0,0)))/\Ak T E F a cap (l.set j u) (some b,.cells C' E (0,0)):=by
 have hj:j < l.length:=by
  rcases xM j l.length with h' | h'
  ·exact h'
  ·rw[xG h']at hq;cases hq
 have hle:j * T.sz + T.sz<=C.size:=by
  rcases hr.2 with⟨_,_,rfl,_⟩ | ⟨b',C',G,I,h3,J,h5⟩
  ·simp at hq
  ·cases I;rw[J,<-yV];exact xU _ (by omega)
 exact⟨_,_,KC hx hy ht (hs.ownAt hk) (by have:=T.len hu;simpa using this) (by simpa using hle) G rfl,hs.put hk _,hr.set hq hu⟩
theorem RWP.storeRow{x y:Operand}{t:TypeId}{v:Value}{gg:Bool}{b j:Nat}{C:Array Value}{q u:α}(ho:opq R i=some (none,.store t x y,ty,g))(hg:gd R f g=true)(hx:fev f x=.pointer (some ⟨b,j * T.sz,none⟩))(hy:fev f y=v)(ht:Ef P t=some (gg,T.sz))
  (hs:HS w0 F0 w F L) {k:Nat} (hk:L[k]? =some (some b,.cells C E (0,0))) (hr:Ak T E F a cap l (some b,.cells C E (0,0))) (hq:l[j]? =some q) (hu:T.R F v.cells.toList u) (G:v.cells.toList.all (·.oneCell')=true)
  (kk:∀ C' w',HS w0 F0 w' F (L.set k (some b,.cells C' E (0,0)))->Ak T E F a cap (l.set j u) (some b,.cells C' E (0,0))->RWP P ro n R Q rest f w'):RWP P ro n R Q (i::rest) f w:=by
 obtain⟨C',w',I,J,M⟩:=K5 (ty:=ty) hx hy ht hs hk hr hq hu G;exact RWP.unit ho hg I (kk C' w' J M)
theorem Ax.storeRow{x y:Operand}{t:TypeId}{v:Value}{gg:Bool}{b j:Nat}{C:Array Value}{q u:α}(hl':ll.set i true=l')(hzd:l'.toArray.getD zz true=zd)(ho:opq R i=some (none,.store t x y,ty,g))(hg:gd R f g=true)(hx:fev f x=.pointer (some ⟨b,j * T.sz,none⟩))(hy:fev f y=v)(ht:Ef P t=some (gg,T.sz))
  (hs:HS w0 F0 w F L) {k:Nat} (hk:L[k]? =some (some b,.cells C E (0,0))) (hr:Ak T E F a cap l (some b,.cells C E (0,0))) (hq:l[j]? =some q) (hu:T.R F v.cells.toList u) (I:v.cells.toList.all (·.oneCell')=true)
  (hle:XI Fs F) (hL:∀ C' p,p∈Lc->p∈L.set k (some b,.cells C' E (0,0))) (hLz:zd=false->∀ C' p,p∈Lz->p∈L.set k (some b,.cells C' E (0,0)))
  (kk:∀ C' w',HS w0 F0 w' F (L.set k (some b,.cells C' E (0,0)))->Ak T E F a cap (l.set j u) (some b,.cells C' E (0,0))->DWP P n R PQ Post zz (DZ Fs Lc Lz) fuel l' f w'):Ax P n R PQ Post zz (DZ Fs Lc Lz) fuel ll i f w:=by
 obtain⟨C',w',J,G,M⟩:=K5 (ty:=ty) hx hy ht hs hk hr hq hu I;exact XT hl' hzd ho hg J (A0 G hle (hL C') (fun e=>hLz e C')) (kk C' w' G M)
abbrev X0:=@Ax.storeRow
end
end
section
variable {P:Program} {w:World} {ρ:Operand -> Value} {ty:TypeId}
theorem QR{s d:TypeId}{x:Operand}{k q:IntKind}{a:Int}(hx:ρ x=.int q a)(hs:(P.underlying s).isSome=true)(hd:P.underlying d=some (.int k)):
  (Am ρ (.convert s d x) ty).run P w=.ok (.value (.int k (k.wrap a))) w:=by
 obtain⟨ds,hs⟩:=Option.isSome_iff_exists.1 hs;simp[Am,execOp,hx,convert,run_underlying hs,run_underlying hd,Conv.intToInt]
theorem U1{x y:Operand}{k q:IntKind}{a b:Int}{t t':TypeId}(hx:ρ x=.int k a)(hy:ρ y=.int q b)(hb:decide (b < 0)=false):
  (Am ρ (.binOp .shr t x y t') ty).run P w=.ok (.value (.int k (a.fdiv (2 ^ min b.toNat k.bits)))) w:=by
 have:¬ b < 0:=by simpa using hb
 simp[Am,execOp,hx,hy,eqGuard,binOp,Op.shift,this]
theorem Pg{x y:Operand}{t t' e:TypeId}{a:X7}{n c:Nat}(hx:ρ x=.slice a n c)(hy:ρ y=.slice none 0 0)(ht:P.underlying t=some (.slice e)):
  (Am ρ (.binOp .eql t x y t') ty).run P w=.ok (.value (.bool a.isNone)) w:=by
 have e:Am ρ (.binOp .eql t x y t') ty=(do pure (Next.value (<-(do eqGuard .eql t x y (ρ x) (ρ y);binOp .eql t (ρ x) (ρ y))))):=rfl;have G:binOp .eql t (.slice a n c) (.slice none 0 0)=(do pure (Value.bool (<-Op.equal t (.slice a n c) (.slice none 0 0)))):=rfl;rw[e,hx,hy,eqGuard_at_slice,G];simp only[xE,xH,xC,run_equal_slice_nil _ _ _ _ _ _ ht]
def Uj(ρ:Operand->Value):Option Operand->Value
 | none=>.int .i64 0
 | some x=>ρ x
theorem Cc{x : Operand}{lo hi mx : Option Operand}{t E : TypeId}{s by_ n c : Nat}{a : X7}{i j m : Nat}(hx : ρ x = .slice a n c)(ht : A2 P t = some (E, s, by_))(hut : P.underlying t = some (.slice (P.elem t)))
    (hlo:Uj ρ lo=.int .i64 (i:Int)) (hhi:match hi with | none=>j=n | some y=>ρ y=.int .i64 (j:Int)) (hmx:match mx with | none=>m=c | some y=>ρ y=.int .i64 (m:Int)) (hmh:mx.isSome=true->hi.isSome=true)
    (hij:i<=j) (hjm:j<=m) (hmc:m<=c):
    (Am ρ (.slice t x lo hi mx) ty).run P w=.ok (.value (.slice (if m=i then a else a.map (·.add (i * s))) (j - i) (m - i))) w:=by
  have hE:P.elem t=E/\(sizeOf (P.elem t)).run P w=.ok s w:=by
    unfold A2 at ht;rw[hut]at ht;simp only at ht;split at ht
    · rename_i i' hi'
      simp only[xI,Prod.mk.injEq]at ht;obtain⟨I,J,_⟩:=ht;exact⟨I,by rw[Dp hi',J]⟩
    · cases ht
  have hb:(Instr.sliceBounds true n c (lo.map ρ) (hi.map ρ) (mx.map ρ)).run P w=.ok (i,j,m) w:=by
    cases lo <;> cases hi <;> cases mx <;> simp only[Uj]at hlo <;> simp only at hhi hmx hmh <;>
      first
      | (simp at hmh;done)
      | (try (have G:i=0:=by injection hlo with _ h;omega)
         try subst G
         try subst hhi
         try subst hmx
         simp[Instr.sliceBounds,Instr.sliceBound,asIntOf, *,Result.andThen]
         done)
      | skip
    all_goals
      (try (have G:i=0:=by injection hlo with _ h;omega)
       try subst G
       simp[Instr.sliceBounds,Instr.sliceBound,asIntOf, *,Result.andThen]
       try omega)
  simp only[Am,execOp,xE,xH,hx,run_sliceAt_slice w t _ _ _ _ hut,Instr.slice,run_underlying hut,xC,hb,hE.2]
section mapmodel
variable {α β:Type} [DecidableEq α]
def Lh:List (α×β)->α->Option β
 | [],_=>none
 | p::l,k=>if k=p.1 then some p.2 else Lh l k
def OT:List (α×β)->α->β->List (α×β)
 | [],k,v=>[(k,v)]
 | p::l,k,v=>if k=p.1 then(k,v)::l else p::OT l k v
def Ee(l:List (α×β))(k:α)(z:β):β:=(Lh l k).getD z
def P2(l:List (α×β))(k:α):Bool:=(Lh l k).isSome
end mapmodel
def MpL{α β:Type}(K:Ty α)(T:Ty β)(F:Mem):List MapEntry->List (α×β)->Prop
 | [],[]=>True
 | e::es,p::l=>K.V F e.key p.1/\T.V F e.val p.2/\MpL K T F es l
 | _,_=>False
theorem MpL.mono{α β:Type}{K:Ty α}{T:Ty β}{F F':Mem}(hl:XI F F'):∀{es:List MapEntry} {l:List (α×β)},MpL K T F es l->MpL K T F' es l
 | [],[],_=>trivial
 | _::_,_::_,h=>⟨h.1.mono hl,h.2.1.mono hl,MpL.mono hl h.2.2⟩
 | [],_::_,h=>h.elim
 | _::_,[],h=>h.elim
theorem MpL.length{α β:Type}{K:Ty α}{T:Ty β}{F:Mem}:∀{es:List MapEntry} {l:List (α×β)},MpL K T F es l->es.length=l.length
 | [],[],_=>rfl
 | _::_,_::_,h=>by simp[MpL.length h.2.2]
 | [],_::_,h=>h.elim
 | _::_,[],h=>h.elim
def MpA{α β:Type}(K:Ty α)(T:Ty β)(F:Mem)(ob:Option Nat)(l:List (α×β)):Prop:=
 (ob=none/\l=[])\/ ∃ b es clk,ob=some b/\F b=some (.map es clk)/\MpL K T F es.toList l
theorem MpA.mono{α β:Type}{K:Ty α}{T:Ty β}{F F':Mem}{ob:Option Nat}{l:List (α×β)}(h:MpA K T F ob l)(hl:XI F F'):MpA K T F' ob l:=by
 rcases h with h | ⟨b,es,clk,G,I,J⟩
 ·exact .inl h
 ·exact .inr ⟨b,es,clk,G,hl _ _ I,J.mono hl⟩
def Bg{α β:Type}(K:Ty α)(T:Ty β)(F:Mem)(b:Nat)(l:List (α×β))(e:oO):Prop:=
 ∃ es clk,e=(some b,.map es clk)/\MpL K T F es.toList l
theorem Bg.mono{α β:Type}{K:Ty α}{T:Ty β}{F F':Mem}{b:Nat}{l:List (α×β)}{e:oO}(h:Bg K T F b l e)(hl:XI F F'):Bg K T F' b l e:=by
 obtain⟨es,clk,G,I⟩:=h;exact⟨es,clk,G,I.mono hl⟩
def MpW{α β:Type}(K:Ty α)(T:Ty β)(F:Mem)(w:World)(ob:Option Nat)(l:List (α×β)):Prop:=
 (ob=none/\l=[])\/ ∃ b es clk,ob=some b/\w.heap[b]? =some (.map es clk)/\MpL K T F es.toList l
structure KL(P:Program)(k:TypeId){α:Type}[DecidableEq α](K:Ty α):Prop where
 check:∀(w:World)(em:Bool) {F:Mem} {v:Value} {x:α},K.V F v x->(Instr.checkKey em 10000 k v).run P w=.ok () w
 equal:∀(w:World) {F:Mem} {v u:Value} {x y:α},K.V F v x->K.V F u y->(Op.equal k v u).run P w=.ok (decide (x=y)) w
 same:∀{F:Mem} {v u:Value} {x:α},K.V F v x->K.V F u x->v=u
 stays:∀(w:World) {F:Mem} {v:Value} {x:α},K.V F v x->(Instr.keyThatStays v v).run P w=.ok v w
 asks:∀(w:World) {F:Mem} {v:Value} {x:α} (es:List MapEntry),K.V F v x->(Instr.findKey k v es).run P w=(Instr.findAsking k v es).run P w
section maps
variable {α β:Type} [DecidableEq α] {K:Ty α} {T:Ty β} {k mt vt:TypeId} {w0:World} {F0 F:Mem} {L:List (Option Nat × Obj)}
theorem KL.find(H:KL P k K)(w:World){kv:Value}{x:α}(hk:K.V F kv x):∀(es:List MapEntry)(l:List (α×β))(i:Nat),MpL K T F es l->
  ((Instr.findAsking k kv es i).run P w=.ok none w/\Lh l x=none)\/
  ∃ j e y,(Instr.findAsking k kv es i).run P w=.ok (some (i + j,e.val)) w/\es[j]? =some e/\Lh l x=some y/\T.V F e.val y/\e.key=kv
 | [],[],i,_=>.inl ⟨by simp[Instr.findAsking],rfl⟩
 | e::es,p::l,i,h=>by
  by_cases hx:x=p.1
  ·refine .inr ⟨0,e,p.2,?_,rfl,by simp[Lh,hx],h.2.1,H.same h.1 (hx ▸ hk)⟩;simp[Instr.findAsking,H.equal w hk h.1,hx]
  ·rcases KL.find H w hk es l (i + 1) h.2.2 with⟨G,I⟩ | ⟨j,e',y,G,I,J,M,O⟩
   ·exact .inl ⟨by simp[Instr.findAsking,H.equal w hk h.1,hx,G],by simp[Lh,hx,I]⟩
   ·exact .inr ⟨j + 1,e',y,by simp[Instr.findAsking,H.equal w hk h.1,hx,G,Nat.add_assoc,wU 1 j],by simpa using I,by simp[Lh,hx,J],M,O⟩
 | [],_::_,_,h=>h.elim
 | _::_,[],_,h=>h.elim
theorem RO{m x:Operand}{ob:Option Nat}{l:List (α×β)}{kv:Value}{kx:α}{ok:Bool}{z:Value}{zx:β}(H:KL P k K)(hm:ρ m=.map ob)(hx:ρ x=kv)(hk:K.V F kv kx)
  (hu:P.underlying mt=some (.map k vt)) (hz:Bq P vt=some z) (hzx:T.V F z zx) (hr:MpW K T F w ob l):
  ∃ v,T.V F v (Ee l kx zx)/\(Am ρ (.lookup mt m x ok) ty).run P w=.ok (.value (bif ok then .tuple #[v,.bool (P2 l kx)]else v)) w:=by
 have e:Am ρ (.lookup mt m x ok) ty=(do pure (Next.value (<-Instr.lookup mt (ρ m) (ρ x) ok))):=rfl;have hzv:(zeroValue vt).run P w=.ok z w:=by
  unfold Bq at hz;split at hz
  ·rename_i i hi;simp[zeroValue,typeInfo,hi,hz]
  ·cases hz
 rcases hr with⟨rfl,rfl⟩ | ⟨b,es,clk,rfl,J,O⟩
 ·refine⟨z,by simpa [Ee,Lh]using hzx,?_⟩;rw[e,hm,hx];cases ok <;> simp[Instr.lookup,run_underlying hu,H.check w _ hk,H.asks w [] hk,Instr.findAsking,hzv,Result.andThen,P2,Lh]
 ·rcases KL.find (T:=T) H w hk es.toList l 0 O with⟨G,I⟩ | ⟨j,en,y,G,I,M,U,h8⟩
  ·refine⟨z,by simpa [Ee,I]using hzx,?_⟩;rw[e,hm,hx];cases ok <;> simp[Instr.lookup,run_underlying hu,MapKept.run_getObj_map J,H.check w _ hk,H.asks w _ hk,G,hzv,Result.andThen,P2,I]
  ·refine⟨en.val,by simpa [Ee,M]using U,?_⟩;rw[e,hm,hx];cases ok <;> simp[Instr.lookup,run_underlying hu,MapKept.run_getObj_map J,H.check w _ hk,H.asks w _ hk,G,Result.andThen,P2,M]
theorem MpL.push:∀{es:List MapEntry} {l:List (α×β)} {kv v:Value} {kx:α} {x:β} {c:Nat},MpL K T F es l->K.V F kv kx->T.V F v x->Lh l kx=none->MpL K T F (es++[⟨kv,v,c⟩]) (OT l kx x)
 | [],[],_,_,_,_,_,_,hk,hv,_=>⟨hk,hv,trivial⟩
 | e::es,p::l,kv,v,kx,x,c,h,hk,hv,hg=>by
  unfold Lh at hg;split at hg
  ·cases hg
  ·rename_i hne;simp only[OT,hne,if_false,wS];exact⟨h.1,h.2.1,MpL.push h.2.2 hk hv hg⟩
 | [],_::_,_,_,_,_,_,h,_,_,_=>h.elim
 | _::_,[],_,_,_,_,_,h,_,_,_=>h.elim
theorem KL.put(H:KL P k K)(w:World){kv:Value}{x:α}(hk:K.V F kv x){v:Value}{y:β}(hv:T.V F v y):∀(es:List MapEntry)(l:List (α×β))(i:Nat),MpL K T F es l->
  ((Instr.findAsking k kv es i).run P w=.ok none w/\Lh l x=none)\/
  ∃ j e,(Instr.findAsking k kv es i).run P w=.ok (some (i + j,e.val)) w/\es[j]? =some e/\e.key=kv/\MpL K T F (es.set j {e with key:=kv,val:=v}) (OT l x y)
 | [],[],i,_=>.inl ⟨by simp[Instr.findAsking],rfl⟩
 | e::es,p::l,i,h=>by
  by_cases hx:x=p.1
  ·refine .inr ⟨0,e,?_,rfl,H.same h.1 (hx ▸ hk),?_⟩
   ·simp[Instr.findAsking,H.equal w hk h.1,hx]
   ·simp only[OT,hx,if_true,wN];exact⟨hx ▸ hk,hv,h.2.2⟩
  ·rcases KL.put H w hk hv es l (i + 1) h.2.2 with⟨G,I⟩ | ⟨j,e',G,I,J,M⟩
   ·exact .inl ⟨by simp[Instr.findAsking,H.equal w hk h.1,hx,G],by simp[Lh,hx,I]⟩
   ·refine .inr ⟨j + 1,e',by simp[Instr.findAsking,H.equal w hk h.1,hx,G,Nat.add_assoc,wU 1 j],by simpa using I,J,?_⟩;simp only[OT,hx,if_false,zT];exact⟨h.1,h.2.1,M⟩
 | [],_::_,_,h=>h.elim
 | _::_,[],_,h=>h.elim
theorem RM{m x y:Operand}{b:Nat}{l:List (α×β)}{kv v:Value}{kx:α}{u:β}{e:oO}{i:Nat}(H:KL P k K)(hm:ρ m=.map (some b))(hx:ρ x=kv)(hy:ρ y=v)(hk:K.V F kv kx)(hv:T.V F v u)
  (hu:P.underlying mt=some (.map k vt)) (hs:HS w0 F0 w F L) (hi:L[i]? =some e) (hr:Bg K T F b l e):
  ∃ e' w',(Instr.mapUpdate mt (ρ m) (ρ x) (ρ y)).run P w=.ok () w'/\HS w0 F0 w' F (L.set i e')/\Bg K T F b (OT l kx u) e':=by
 obtain⟨es,clk,rfl,J⟩:=hr;have hb:=hs.ownAt hi;have hset:∀ es' clk',(setObj b (.map es' clk')).run P w=.ok () (Ct w b (.map es' clk')):=fun es' clk'=>by
  rw[MapKept.run_setObj_map _ hb];rfl
 rw[hm,hx,hy];rcases KL.put H w hk hv es.toList l 0 J with⟨I,G⟩ | ⟨j,en,I,G,M,O⟩
 ·refine⟨(some b,.map (es.push ⟨kv,v,clk⟩) (clk + 1)),Ct w b (.map (es.push ⟨kv,v,clk⟩) (clk + 1)),?_,hs.put hi _,_,_,rfl,?_⟩
  ·simp[Instr.mapUpdate,run_underlying hu,MapKept.run_getObj_map hb,H.check w _ hk,H.asks w _ hk,I,Result.andThen,hset]
  ·rw[Array.toList_push];exact MpL.push J hk hv G
 ·have hj:es[j]? =some en:=by simpa using G
  refine⟨(some b,.map (es.modify j (fun e'=>{e' with key:=kv,val:=v})) clk),Ct w b (.map (es.modify j (fun e'=>{e' with key:=kv,val:=v})) clk),?_,hs.put hi _,_,_,rfl,?_⟩
  ·simp[Instr.mapUpdate,run_underlying hu,MapKept.run_getObj_map hb,H.check w _ hk,H.asks w _ hk,I,hj,M,H.stays w hk,Result.andThen,hset]
  ·rw[Array.toList_modify,ChangeMaps.modify_eq_set _ _ _ _ G];exact O
end maps
end
section maps
variable {α β:Type} [DecidableEq α] {K:Ty α} {T:Ty β} {P:Program} {k mt vt:TypeId} {w0 w:World} {F0 F Fs:Mem} {L Lc Lz:List (Option Nat × Obj)}
variable {ro:Option Nat} {n:Nat} {R:Array Oper} {Q:Exit -> Fr -> World -> Prop} {PQ:List PanicEntry -> List Deferred -> World -> Prop} {Post:Fr -> World -> Prop} {zz fuel i:Nat} {ll l':List Bool} {zd:Bool} {rest:List Nat} {f:Fr} {ty:TypeId} {g:Option (Nat × Bool)} {dst:Option Nat}
theorem Bg.mpw{b i:Nat}{l:List (α×β)}{e:oO}(hs:HS w0 F0 w F L)(hi:L[i]? =some e)(h:Bg K T F b l e):MpW K T F w (some b) l:=by
 obtain⟨es,clk,rfl,G⟩:=h;exact .inr ⟨b,es,clk,rfl,hs.ownAt hi,G⟩
theorem MC{ρ:Operand->Value}{t:TypeId}:(Am ρ (.makeMap t none) ty).run P w=.ok (.value (.map (some w.heap.size))) (w.alloc (.map #[] 0)):=by
 have e:Am ρ (.makeMap t none) ty=(do pure (Next.value (<-Instr.makeMap t none))):=rfl;rw[e];simp[Instr.makeMap,run_newObj,Result.andThen]
theorem RWP.makeMap{t:TypeId}(ho:opq R i=some (dst,.makeMap t none,ty,g))(hg:gd R f g=true)(hs:HS w0 F0 w F L)
  (kk:∀ b e' w',HS w0 F0 w' F (e'::L)->Bg K T F b ([]:List (α×β)) e'->RWP P ro n R Q rest (A1 f dst (.map (some b))) w'):RWP P ro n R Q (i::rest) f w:=
 XF ho hg MC (kk _ _ _ (hs.alloc _) ⟨_,_,rfl,trivial⟩)
theorem Ax.mapPut{m x y:Operand}{b:Nat}{l:List (α×β)}{kv v:Value}{kx:α}{u:β}{e:oO}{q:Nat}(hl:ll.set i true=l')(hzd:l'.toArray.getD zz true=zd)(H:KL P k K)(ho:opq R i=some (none,.mapUpdate mt m x y,ty,g))(hg:gd R f g=true)
  (hm:fev f m=.map (some b)) (hx:fev f x=kv) (hy:fev f y=v) (hk:K.V F kv kx) (hv:T.V F v u)
  (hu:P.underlying mt=some (.map k vt)) (hs:HS w0 F0 w F L) (hi:L[q]? =some e) (hr:Bg K T F b l e) (hle:XI Fs F) (hL:∀ e' p,p∈Lc->p∈L.set q e') (hLz:zd=false->∀ e' p,p∈Lz->p∈L.set q e')
  (kk:∀ e' w',HS w0 F0 w' F (L.set q e')->Bg K T F b (OT l kx u) e'->DWP P n R PQ Post zz (DZ Fs Lc Lz) fuel l' f w'):Ax P n R PQ Post zz (DZ Fs Lc Lz) fuel ll i f w:=by
 obtain⟨e',w',I,G,J⟩:=RM H hm hx hy hk hv hu hs hi hr;refine XT hl hzd ho hg ?_ (A0 G hle (hL e') (fun h=>hLz h e')) (kk e' w' G J);have e:Am (fev f) (.mapUpdate mt m x y) ty=(do Instr.mapUpdate mt (fev f m) (fev f x) (fev f y);pure .skip):=rfl;rw[e];simp only[xE,xH,I,xC]
end maps
section looks
variable {α β:Type} {P:Program} {k mt vt:TypeId} {w0 w:World} {F0 F Fs:Mem} {L Lc Lz:List (Option Nat × Obj)}
variable {ro:Option Nat} {n:Nat} {R:Array Oper} {Q:Exit -> Fr -> World -> Prop} {i:Nat} {rest:List Nat} {f:Fr} {ty:TypeId} {g:Option (Nat × Bool)} {dst:Option Nat}
def sub(l:List α)(lo hi:Int):Option (List α):=if 0<=lo/\lo<=hi/\hi<=l.length then some ((l.take hi.toNat).drop lo.toNat)else none
def Wb(l:List α)(lo hi mx:Int):Option (List α):=if hi<=mx/\mx<=l.length then sub l lo hi else none
theorem K0{l r:List α}{lo hi:Int}(h:sub l lo hi=some r):0<=lo/\lo<=hi/\hi<=l.length/\r=(l.take hi.toNat).drop lo.toNat/\r.length=hi.toNat - lo.toNat:=by
 unfold sub at h;split at h
 ·rename_i hc;cases h;refine⟨hc.1,hc.2.1,hc.2.2,rfl,?_⟩;simp;omega
 ·cases h
theorem SlA.sub{T:Ty α}{a:X7}{l r:List α}{lo hi:Int}{m:Nat}(hs:SlA T F a l)(h:sub l lo hi=some r)(hm:hi<=m):
  SlA T F (if m=lo.toNat then a else a.map (·.add (lo.toNat * T.sz))) r:=by
 obtain⟨h1,h2,h3,rfl,G⟩:=K0 h;rcases hs with rfl | ⟨b,o,C,E,fz,rfl,hF,hE⟩
 ·exact .inl (by simp)
 ·by_cases hmi:m=lo.toNat
  ·refine .inl ?_;apply List.eq_nil_of_length_eq_zero;rw[G];omega
  ·rw[if_neg hmi];refine .inr ⟨b,o + lo.toNat * T.sz,C,E,fz,by simp[Addr.add_lit],hF,fun q x hx=>?_⟩;rw[yR]at hx;rw[wF]at hx;split at hx
   ·have:=hE _ _ hx;rw[show o + lo.toNat * T.sz + q * T.sz=o + (lo.toNat + q) * T.sz by rw[yI];omega];exact this
   ·cases hx
def hiQ(ρ:Operand->Value)(n:Nat):Option Operand->Int->Prop
 | none,j=>j=n
 | some y,j=>ρ y=.int .i64 j
def mxQ(ρ:Operand->Value):Option Operand->Int->Prop
 | none,_=>True
 | some y,m=>ρ y=.int .i64 m
def TJ(l:List α)(lo hi mx:Int):Option Operand->Option (List α)
 | none=>sub l lo hi
 | some _=>Wb l lo hi mx
theorem S9{T:Ty α}{x:Operand}{lo hi mx:Option Operand}{t E:TypeId}{by_ c:Nat}{a:X7}{l r:List α}{il ih im:Int}{ρ:Operand->Value}(hx:ρ x=.slice a l.length c)(ht:A2 P t=some (E,T.sz,by_))(hut:P.underlying t=some (.slice (P.elem t)))
  (hc:LC l.length c) (hs:SlA T F a l) (hlo:Uj ρ lo=.int .i64 il) (hhi:hiQ ρ l.length hi ih) (hmx:mxQ ρ mx im) (hmh:mx.isSome=true->hi.isSome=true)
  (h:TJ l il ih im mx=some r):
  ∃ a' c',(Am ρ (.slice t x lo hi mx) ty).run P w=.ok (.value (.slice a' r.length c')) w/\LC r.length c'/\SlA T F a' r:=by
 have hsub:sub l il ih=some r/\(mx.isSome=true->ih<=im/\im<=l.length):=by
  cases mx with
  | none=>exact⟨h,fun h=>by cases h⟩
  | some y=>
   simp only[TJ,Wb]at h;split at h
   ·rename_i hc;exact⟨h,fun _=>hc⟩
   ·cases h
 obtain⟨h1,h2,h3,h4,G⟩:=K0 hsub.1;have hlc:=hc.1;have J:il=(il.toNat:Int):=by omega
 have I:ih=(ih.toNat:Int):=by omega
 rw[J]at hlo;cases mx with
 | none=>
  have hrun:=Cc (P:=P) (w:=w) (ty:=ty) (i:=il.toNat) (j:=ih.toNat) (m:=c) (mx:=none) (hi:=hi) hx ht hut hlo (by cases hi with | none=>simp only[hiQ]at hhi ⊢;omega | some y=>simp only[hiQ]at hhi ⊢;rw[hhi,<-I]) rfl (fun h=>by cases h) (by omega) (by omega) (xN _);refine⟨_,_,by rw[G];exact hrun,⟨by omega,?_⟩,hs.sub hsub.1 (by omega)⟩;have:=hc.2;omega
 | some y=>
  have h6:=hsub.2 rfl;have M:im=(im.toNat:Int):=by omega
  have hrun:=Cc (P:=P) (w:=w) (ty:=ty) (i:=il.toNat) (j:=ih.toNat) (m:=im.toNat) (mx:=some y) (hi:=hi) hx ht hut hlo (by cases hi with | none=>simp only[hiQ]at hhi ⊢;omega | some y=>simp only[hiQ]at hhi ⊢;rw[hhi,<-I]) (by simp only[mxQ]at hmx ⊢;rw[hmx,<-M]) hmh (by omega) (by omega) (by omega);refine⟨_,_,by rw[G];exact hrun,⟨by omega,?_⟩,hs.sub hsub.1 (by omega)⟩;have:=hc.2;omega
theorem RWP.slice{T:Ty α}{x:Operand}{lo hi mx:Option Operand}{t E:TypeId}{by_ c:Nat}{a:X7}{l r:List α}{il ih im:Int}(ho:opq R i=some (dst,.slice t x lo hi mx,ty,g))(hg:gd R f g=true)
  (hx:fev f x=.slice a l.length c) (ht:A2 P t=some (E,T.sz,by_)) (hut:P.underlying t=some (.slice (P.elem t)))
  (hc:LC l.length c) (hs:SlA T F a l) (hlo:Uj (fev f) lo=.int .i64 il) (hhi:hiQ (fev f) l.length hi ih) (hmx:mxQ (fev f) mx im) (hmh:mx.isSome=true->hi.isSome=true)
  (h:TJ l il ih im mx=some r)
  (kk:∀ a' c',LC r.length c'->SlA T F a' r->RWP P ro n R Q rest (A1 f dst (.slice a' r.length c')) w):RWP P ro n R Q (i::rest) f w:=by
 obtain⟨a',c',G,I,J⟩:=S9 (ty:=ty) (w:=w) hx ht hut hc hs hlo hhi hmx hmh h;exact XF ho hg G (kk a' c' I J)
theorem Ak.take{T:Ty α}{E:TypeId}{a:X7}{cap:Nat}{l:List α}{e:oO}(h:Ak T E F a cap l e)(k:Nat):Ak T E F a cap (l.take k) e:=by
 refine⟨Nat.lt_of_le_of_lt (by simp;omega) h.1,?_⟩;rcases h.2 with⟨G,I,M,J⟩ | ⟨b,C,G,I,M,J,O⟩
 ·exact .inl ⟨G,I,by rw[M];simp,J⟩
 ·refine .inr ⟨b,C,G,I,by simp;omega,J,fun i x hx=>O i x ?_⟩;rw[wF]at hx;split at hx
  ·exact hx
  ·cases hx
theorem EN{f:Fr}{aos:Array Operand}{l fi k:List Value}(h:aos.toList.map (fev f)=l):fi.toArray.toList++aos.toList.map (fev f)++k.toArray.toList=fi++(l++k):=by subst h;simp
def MU(w:World)(F:Mem)(post:Mem->Value->List oO->Prop):Ending->World->Prop:=
 fun e w'=>∃ r F' L',e=.returned r/\HS w F w' F' L'/\post F' r L'
theorem Tm{w w1:World}{F F1:Mem}{L':List oO}(hL:∀ b o,(some b,o)∈L->b < w.heap.size)(hnd:(L.filterMap (·.1)).Nodup)(hc:HS w F w1 F1 L'):((L'++L).filterMap (·.1)).Nodup:=by
 rw[List.filterMap_append];refine List.nodup_append.2 ⟨hc.nd,hnd,fun x hx y hy e=>?_⟩;subst e;obtain⟨o,ho⟩:=KG hx;obtain⟨o',ho'⟩:=KG hy;have:=(hc.own _ _ ho).2.2;have:=hL _ _ ho';omega
theorem HS.callO{w1:World}{F1:Mem}{L':List oO}(h:HS w0 F0 w F L)(hc:HS w F w1 F1 L'):HS w0 F0 w1 F1 (L'++L):=by
 refine⟨h.base,h.fix.trans hc.fix,wJ h.size hc.size,fun b hb=>?_,fun b hb=>?_,hc.pers,fun b o hm=>?_,Tm (fun b o hm=>Be (h.own b o hm).1) h.nd hc⟩
 ·rw[hc.keep b (zC hb h.size)];exact h.keep b hb
 ·rw[hc.f0 b (zC hb h.size)];exact h.f0 b hb
 ·rcases yF.1 hm with hm | hm
  ·obtain⟨G,I,J⟩:=hc.own b o hm;exact⟨G,I,wJ h.size J⟩
  ·obtain⟨G,I,J⟩:=h.own b o hm;have hl:=Be G;exact⟨by rw[hc.keep b hl];exact G,by rw[hc.f0 b hl];exact I,J⟩
theorem HS.lend{q:Nat}{p:oO}(h:HS w0 F0 w F L)(hk:L[q]? =some p):XI F (Ib F p)/\ ∀ b o,Ib F p b=some o->w.heap[b]? =some o:=
 ⟨(h.freeze hk).2,(h.freeze hk).1.pers⟩
abbrev X1:=@HS.lend
end looks
def VT(P:Program)(ck:TypeId->Value->Bool)(xs:Array Value):List Field->Bool
 | []=>true
 | f::fs=>(f.name== "_" ||match Ef P f.type with
  | none=>false
  | some (g,s)=>(Ap xs f.offset s).length==s&&(g||s==1)&&ck f.type (mkV g (Ap xs f.offset s)))&&VT P ck xs fs
def ckV(P:Program):Nat->TypeId->Value->Bool
 | 0,_,_=>false
 | d + 1,t,v=>
  match P.underlying t with
  | some .bool=>match v with | .bool _=>true | _=>false
  | some (.int _)=>match v with | .int _ _=>true | _=>false
  | some .string=>match v with | .string _=>true | _=>false
  | some (.struct fs)=>match v with | .agg xs=>VT P (ckV P d) xs fs.toList | _=>false
  | _=>false
section keys
variable {P:Program} {w:World}
theorem Oz{em:Bool}{d:Nat}{ck:TypeId->Value->Bool}(he:∀ t x,ck t x=true->(Instr.checkKey em d t x).run P w=.ok () w)(xs:Array Value):
  ∀ fs:List Field,VT P ck xs fs=true->((forIn fs PUnit.unit fun(f:Field) (_:PUnit)=>do
   if f.name≠ "_" then do Instr.checkKey em d f.type (<-part f.type xs f.offset);pure (ForInStep.yield PUnit.unit) else pure (ForInStep.yield PUnit.unit)):Sem PUnit).run P w=.ok PUnit.unit w
 | [],_=>rfl
 | f::fs,h=>by
  simp only [VT,xA] at h;simp only [List.forIn_cons,xE];by_cases hn:f.name= "_"
  ·simp only[hn,ne_eq,not_true_eq_false,if_false,xH,xC];exact Oz he xs fs h.2
  ·have G:=h.1;have hn':(f.name== "_")=false:=by simpa using hn
   rw[hn',zQ]at G;cases ht:Ef P f.type with
   | none=>rw[ht]at G;cases G
   | some p=>
    obtain⟨g,s⟩:=p;rw[ht]at G;simp only[xA,beq_iff_eq,Bool.or_eq_true]at G;simp only[ne_eq,hn,not_false_eq_true,if_true,xE,HD ht G.1.1 G.1.2,xC,he _ _ G.2,xH];exact Oz he xs fs h.2
theorem SW(em:Bool):∀(d k:Nat)(t:TypeId)(x:Value),ckV P d t x=true->(Instr.checkKey em (d + k) t x).run P w=.ok () w
 | 0,_,_,_,h=>by cases h
 | d + 1,k,t,x,h=>by
  unfold ckV at h;rw[show d + 1 + k=(d + k) + 1 by omega];cases hu:P.underlying t with
  | none=>rw[hu]at h;cases h
  | some td=>
   rw[hu]at h;cases td with
   | bool=>cases x <;> simp at h;simp[Instr.checkKey,run_underlying hu]
   | int k=>cases x <;> simp at h;simp[Instr.checkKey,run_underlying hu]
   | string=>cases x <;> simp at h;simp[Instr.checkKey,run_underlying hu]
   | struct fs=>
    cases x <;> simp at h;rename_i xs;unfold Instr.checkKey;simp only[xE,run_underlying hu,xC];have:=Oz (P:=P) (w:=w) (em:=em) (d:=d + k) (ck:=ckV P d) (fun t x hx=>SW em d k t x hx) xs fs.toList h;rw[<-Array.forIn_toList];simp at this;simp[this,Result.andThen]
   | _=>simp at h
end keys
section
variable {α β:Type} {P:Program} {w0 w:World} {F0 F:Mem} {L:List (Option Nat × Obj)}
theorem KL.ofStruct[DecidableEq α]{k:TypeId}{K:Ty α}{d:Nat}(hd:decide (d<=10000)=true)(mk:α->Value)(hV:∀{F:Mem} {v:Value} {x:α},K.V F v x->v=mk x)
  (hwide:(match P.underlying k with | some (.array _ _) | some (.struct _)=>true | _=>false)=true)
  (hc:∀ x,ckV P d k (mk x)=true) (eq:α->α->Bool) (heq:∀ x y,eqV P d k (mk x) (mk y)=some (eq x y)) (hdec:∀ x y,eq x y=decide (x=y))
  (hs:∀ x,Instr.sameBits 10000 (mk x) (mk x)=true):KL P k K where
 check:=fun w em F v x h=>by
  have hd':d<=10000:=by simpa using hd
  rw[hV h,show 10000=d + (10000 - d)by omega];exact SW em d _ k _ (hc x)
 equal:=fun w F v u x y h1 h2=>by
  have hd':d<=10000:=by simpa using hd
  rw[hV h1,hV h2,<-hdec];have:=R9 (10000 - d) (heq x y);rw[show d + (10000 - d)=10000 by omega]at this;exact NA 10000 k _ _ _ this w
 same:=fun h1 h2=>by rw[hV h1,hV h2]
 stays:=fun w F v x h=>by rw[hV h];simp[Instr.keyThatStays,hs x]
 asks:=fun w F v x es h=>run_findKey_eq w hwide _ _
end
section
variable {α β:Type} [DecidableEq α] {K:Ty α} {T:Ty β} {P:Program} {k mt vt:TypeId} {w:World} {F:Mem} {ρ:Operand -> Value} {ty:TypeId}
theorem NO{m x:Operand}{ob:Option Nat}{l:List (α×β)}{kv v:Value}{kx:α}{z:Value}{zx:β}(H:KL P k K)(hm:ρ m=.map ob)(hx:ρ x=kv)(hk:K.V F kv kx)
  (hu:P.underlying mt=some (.map k vt)) (hz:Bq P vt=some z) (hzx:T.V F z zx) (hr:MpW K T F w ob l) (hv:∀{u:Value},T.V F u (Ee l kx zx)->u=v):
  (Am ρ (.lookup mt m x true) ty).run P w=.ok (.value (.tuple #[v,.bool (P2 l kx)])) w:=by
 obtain⟨u,G,I⟩:=RO (ty:=ty) (ok:=true) H hm hx hk hu hz hzx hr;rw[I,hv G];rfl
theorem Bg.mpwD{b i:Nat}{l:List (α×β)}{e:oO}{Fs:Mem}{Lc:List oO}(hd:DS Fs Lc w)(hi:Lc[i]? =some e)(h:Bg K T F b l e):MpW K T F w (some b) l:=by
 obtain⟨es,clk,rfl,G⟩:=h;exact .inr ⟨b,es,clk,rfl,hd.2 i _ _ hi,G⟩
end
theorem E0{α:Type}{P:Program}{F:Mem}{T:Ty α}{lo hi mx:Option Operand}{t E:TypeId}{by_ c:Nat}{a:X7}{l r:List α}{il ih im:Int}(ht:A2 P t=some (E,T.sz,by_))(hut:P.underlying t=some (.slice (P.elem t)))
  (hc:LC l.length c) (hs:SlA T F a l) (hmh:mx.isSome=true->hi.isSome=true) (h:TJ l il ih im mx=some r):
  ∃ a' c',LC r.length c'/\SlA T F a' r/\ ∀{ρ:Operand->Value} {x:Operand} {ty:TypeId} {w:World},ρ x=.slice a l.length c->Uj ρ lo=.int .i64 il->hiQ ρ l.length hi ih->mxQ ρ mx im->
   (Am ρ (.slice t x lo hi mx) ty).run P w=.ok (.value (.slice a' r.length c')) w:=by
 have hsub:sub l il ih=some r/\(mx.isSome=true->ih<=im/\im<=l.length):=by
  cases mx with
  | none=>exact⟨h,fun h=>by cases h⟩
  | some y=>
   simp only[TJ,Wb]at h;split at h
   ·rename_i hc;exact⟨h,fun _=>hc⟩
   ·cases h
 obtain⟨h1,h2,h3,h4,G⟩:=K0 hsub.1;have hlc:=hc.1;have I:il=(il.toNat:Int):=by omega
 have J:ih=(ih.toNat:Int):=by omega
 cases mx with
 | none=>
  refine⟨_,c - il.toNat,⟨by omega,?_⟩,hs.sub hsub.1 (m:=c) (by omega),fun{ρ x ty w} hx hlo hhi hmx=>?_⟩
  ·have:=hc.2;omega
  ·rw[I]at hlo;have hrun:=Cc (P:=P) (w:=w) (ty:=ty) (i:=il.toNat) (j:=ih.toNat) (m:=c) (mx:=none) (hi:=hi) hx ht hut hlo (by cases hi with | none=>simp only[hiQ]at hhi ⊢;omega | some y=>simp only[hiQ]at hhi ⊢;rw[hhi,<-J]) rfl (fun h=>by cases h) (by omega) (by omega) (xN _);rw[G];exact hrun
 | some y=>
  have h6:=hsub.2 rfl;have M:im=(im.toNat:Int):=by omega
  refine⟨_,im.toNat - il.toNat,⟨by omega,?_⟩,hs.sub hsub.1 (m:=im.toNat) (by omega),fun{ρ x ty w} hx hlo hhi hmx=>?_⟩
  ·have:=hc.2;omega
  ·rw[I]at hlo;have hrun:=Cc (P:=P) (w:=w) (ty:=ty) (i:=il.toNat) (j:=ih.toNat) (m:=im.toNat) (mx:=some y) (hi:=hi) hx ht hut hlo (by cases hi with | none=>simp only[hiQ]at hhi ⊢;omega | some y=>simp only[hiQ]at hhi ⊢;rw[hhi,<-J]) (by simp only[mxQ]at hmx ⊢;rw[hmx,<-M]) hmh (by omega) (by omega) (by omega);rw[G];exact hrun
abbrev Own:=List oO
def YP(P:Program)(l:Nat)(args:List Value)(w:World)(S:Ending->World->Prop):Prop:=
 ∃ fn tmps assign body,(Instr.yield l args.toArray).run P w=.ok (.round l fn tmps assign body) w/\RoundIn (FW none) 0 P l fn tmps assign body w S
def YOk{X α σ:Type}(P:Program)(w0:World)(F0 F:Mem)(l:Nat)(enc:X->List Value)(ok:Mem->X->Prop)(px:X->α)(y:σ->α->Option (Bool×σ))(J:σ->Mem->Own->Prop):Prop:=
 ∀(s:σ)(x:X)(w':World)(F':Mem)(L Lf:Own)(r:Bool×σ),XI F F'->ok F' x->J s F' Lf->HS w0 F0 w' F' (L++Lf)->y s (px x)=some r->
  YP P l (enc x) w' (fun e w''=>∃ F'' Lf',e=.returned (.bool r.1)/\HS w0 F0 w'' F'' (L++Lf')/\XI F' F''/\J r.2 F'' Lf')
def PG{σ:Type}(J:σ->Mem->Own->Prop):Prop:=∀(s:σ)(F F':Mem)(L:Own),J s F L->XI F F'->J s F' L
def S1{X α:Type}(P:Program)(gf:FuncId)(cap:List Value)(F:Mem)(B:Own)(enc:X->List Value)(ok:Mem->X->Prop)(px:X->α)(m:∀{σ:Type},(σ->α->Option (Bool×σ))->σ->Option σ):Prop:=
 ∀{σ:Type} (w0 w:World) (F0 F':Mem) (l:Nat) (y:σ->α->Option (Bool×σ)) (J:σ->Mem->Own->Prop) (s r:σ) (Lf:Own),XI F F'->PG J->HS w0 F0 w F' (B++Lf)->J s F' Lf->
  YOk P w0 F0 F' l enc ok px y J->m y s=some r->Calls P gf ((.func (.yield l) #[] #[])::cap).toArray w (fun e w'=>∃ F'' Lf',e=.returned (.tuple #[])/\HS w0 F0 w' F'' Lf'/\XI F' F''/\J r F'' Lf')
section
variable {P:Program} {n:Nat} {R:Array Oper} {Q:Exit -> Fr -> World -> Prop} {w w0:World} {F0 F:Mem} {L:Own} {f:Fr} {i:Nat} {rest:List Nat} {dst:Option Nat} {ty:TypeId} {g:Option (Nat × Bool)} {ρ:Operand -> Value}
theorem OP{f0:Operand}{aos:Array Operand}{ats:Array TypeId}{l:Nat}{args:List Value}{x:Next}(hf:ρ f0=.func (.yield l) #[] #[])(ha:aos.toList.map ρ=args)(hy:(Instr.yield l args.toArray).run P w=.ok x w):
  (Am ρ (.call {callee:=.value f0,args:=aos,argTypes:=ats}) ty).run P w=.ok x w:=by
 subst ha;have e:Am ρ (.call {callee:=.value f0,args:=aos,argTypes:=ats}) ty=(do let d<-Deferred.ofValue (ρ f0) (aos.map ρ);invoke d.target d.args):=rfl;rw[e,hf];simp only[Deferred.ofValue,xE,xH,xC,invoke];have:(#[]++Array.map ρ aos:Array Value)=(List.map ρ aos.toList).toArray:=by apply yZ;simp
 rw[this];exact hy
theorem RWP.yield{f0:Operand}{aos:Array Operand}{ats:Array TypeId}{l:Nat}{args:List Value}{S:Ending->World->Prop}(ho:opq R i=some (dst,.call {callee:=.value f0,args:=aos,argTypes:=ats},ty,g))(hg:gd R f g=true)
  (hf:fev f f0=.func (.yield l) #[] #[]) (ha:aos.toList.map (fev f)=args) (hy:YP P l args w S)
  (k:∀ e w',S e w'->∃ v,e=.returned v/\RWP P none n R Q rest (A1 f dst v) w'):RWP P none n R Q (i::rest) f w:=by
 intro hok a haf;obtain⟨fn,tmps,assign,body,hrun,hround⟩:=hy;obtain⟨o,hR,hd,hop,hty,hgd⟩:=CK ho;rw[wpOpsIn];simp only[hR];rw[haf.wanted R o,hgd,hg];simp only[if_true];refine⟨Bp,?_⟩;have hrun':=OP (P:=P) (w:=w) (ty:=ty) (ats:=ats) hf ha hrun;rw[I5 (JS (fun _ e=>by cases e) hrun') _ _ o hop,CE,haf.evalF,hop,hty,hrun'];simp only[Oper.uponIn];refine⟨(fun h=>by cases h),hround.mono fun e w' hS=>?_⟩;obtain⟨v,rfl,h⟩:=k e w' hS;simp only;rw[hd];exact h hok _ (haf.put (by rw[<-hd];exact Ew hok hR) v)
theorem TS{x y:Operand}{ats:Array TypeId}{a b:Int}(hx:ρ x=.int .i64 a)(hy:ρ y=.int .i64 b):(Am ρ (.call {callee:=.builtin .max,args:=#[x,y],argTypes:=ats}) ty).run P w=.ok (.value (.int .i64 (max a b))) w:=by
 have G:Am ρ (.call {callee:=.builtin .max,args:=#[x,y],argTypes:=ats}) ty=(do pure (Next.value (<-Builtin.max_ ats ty (Array.map ρ #[x,y])))):=rfl;rw[G,map_toArray];simp only[yY,zD,hx,hy];simp[Builtin.max_,Builtin.max2]
 try omega
theorem TR{x y:Operand}{ats:Array TypeId}{a b:Int}(hx:ρ x=.int .i64 a)(hy:ρ y=.int .i64 b):(Am ρ (.call {callee:=.builtin .min,args:=#[x,y],argTypes:=ats}) ty).run P w=.ok (.value (.int .i64 (min a b))) w:=by
 have G:Am ρ (.call {callee:=.builtin .min,args:=#[x,y],argTypes:=ats}) ty=(do pure (Next.value (<-Builtin.min_ ats ty (Array.map ρ #[x,y])))):=rfl;rw[G,map_toArray];simp only[yY,zD,hx,hy];simp[Builtin.min_,Builtin.min2]
 try omega
theorem QV{σ:Type}{o:Option σ}{q:Bool×σ}(h:(o.map fun t=>(true,t))=some q):q.1=true/\o=some q.2:=by
 cases o with
 | none=>cases h
 | some x=>cases h;exact⟨rfl,rfl⟩
def VG:Code->Nat
 | .rangeFunc _ _ _ _=>1 | _=>0
def Vd:Code->Operand
 | .rangeFunc g _ _ _=>g | _=>.tmp 0
def rps:Code->List Nat
 | .rangeFunc _ ps _ _=>ps.toList | _=>[]
def Ve:Code->Code
 | .rangeFunc _ _ a _=>a | _=>.skip
def SB:Code->Code
 | .rangeFunc _ _ _ b=>b | _=>.skip
def setps(f:Fr):List Nat->List Value->Fr
 | p::ps,v::vs=>setps (upd f p v) ps vs
 | _,_=>f
theorem Fy.setps:∀(ps:List Nat)(vs:List Value)(f:Fr)(t:Array Value),Fy n f {tmps:=t,defers:=f.d}->ps.all (· < n)=true->
  Fy n (setps f ps vs) {tmps:=(ps.zip vs).foldl (fun t (p,v)=>t.setIfInBounds p v) t,defers:=f.d}
 | [],vs,f,t,h,_=>by simpa [Go.Proofs.YthljkpeimofbbaaGreatDoor.setps]using h
 | p::ps,[],f,t,h,_=>by simpa [Go.Proofs.YthljkpeimofbbaaGreatDoor.setps]using h
 | p::ps,v::vs,f,t,h,hn=>by
  simp only[yX,xA]at hn;have G:Fy n (upd f p v) {tmps:=t.setIfInBounds p v,defers:=(upd f p v).d}:=h.put (dst:=some p) (by simpa using hn.1) v;exact Fy.setps ps vs (upd f p v) (t.setIfInBounds p v) G hn.2
theorem Vv{A B:Own}(h:((A++B).filterMap (·.1)).Nodup):((B++A).filterMap (·.1)).Nodup:=by
 rw[List.filterMap_append]at h ⊢;rw[List.nodup_append]at h ⊢;exact⟨h.2.1,h.1,fun a ha b hb e=>h.2.2 b hb a ha e.symm⟩
theorem HS.swap{A B:Own}(h:HS w0 F0 w F (A++B)):HS w0 F0 w F (B++A):=
 ⟨h.base,h.fix,h.size,h.keep,h.f0,h.pers,fun b o hm=>h.own b o (by simpa [or_comm]using hm),Vv h.nd⟩
theorem HS.perm{A B C:Own}(h:HS w0 F0 w F (A++(B++C))):HS w0 F0 w F (B++(A++C)):=by
 refine⟨h.base,h.fix,h.size,h.keep,h.f0,h.pers,fun b o hm=>h.own b o ?_,?_⟩
 ·simp only[yF]at hm ⊢;rcases hm with h | h | h <;> simp[h]
 ·have G:=h.nd;simp only[List.filterMap_append]at G ⊢;rw[List.nodup_append]at G ⊢;obtain⟨M,I,J⟩:=G;rw[List.nodup_append]at I;obtain⟨O,U,Y⟩:=I;refine⟨O,List.nodup_append.2 ⟨M,U,fun a ha b hb=>J a ha b (List.mem_append_right _ hb)⟩,fun a ha b hb e=>?_⟩;subst e;rcases yF.1 hb with hb | hb
  ·exact J a hb a (List.mem_append_left _ ha) rfl
  ·exact Y a ha a hb rfl
theorem CWP.rangeFunc2{X α σ:Type}{enc:X->List Value}{ok:Mem->X->Prop}{px:X->α}{m:∀{σ:Type},(σ->α->Option (Bool×σ))->σ->Option σ}{c:Code}(hk:VG c=1){gf:FuncId}{cap:List Value}{B:Own}
  (hg:fev f (Vd c)=.func (.func gf) #[] cap.toArray) (hgf:Ag P gf) (hd:f.d=[]) {ps:List Nat} (h6:rps c=ps) (hps:ps.all (· < n)=true) (hlen:∀ x,(enc x).length=ps.length) (hs:HS w0 F0 w F (B++L)) (hseq:S1 P gf cap F B enc ok px m)
  (y:σ->α->Option (Bool×σ)) (go:σ->Bool) (J:σ->Mem->Own->Prop) (hJm:PG J) {s r:σ} (hJ:J s F L) (hgo:go s=true) (hm:m y s=some r) (hy:∀ s x q,y s x=some q->go s=true/\q.1=go q.2)
  (hround:∀(l:Nat)(s:σ)(x:X)(w':World)(F':Mem)(Lf Rf:Own)(q:Bool×σ),XI F F'->ok F' x->J s F' Lf->HS w0 F0 w' F' (Lf++Rf)->y s (px x)=some q->
   CWP P (some l) n (Ve c) (fun e f1 w1=>e=.normal/\ ∃ F1 Lu,HS w0 F0 w1 F1 (Lu++Rf)/\ ∀ I Rg,HS w0 F0 I F1 (Lu++Rg)->CWP P (some l) n (SB c) (fun e f2 w3=>((e=.normal/\q.1=true)\/(e=.ret/\q.1=false))/\ ∃ G M,HS w0 F0 w3 G (M++Rg)/\XI F' G/\J q.2 G M) f1 I) (setps f ps (enc x)) w')
  (hdone:∀(D:Nat)(w':World)(F':Mem)(Lf:Own),go r=true->HS w0 F0 w' F' ((some D,.deferred (some []))::Lf)->XI F F'->J r F' Lf->Q .normal ⟨f.v,[{target:=.collected D,args:=#[]}]⟩ w')
  (hstop:∀(D:Nat)(w':World)(F':Mem)(Lf:Own),go r=false->HS w0 F0 w' F' ((some D,.deferred (some []))::Lf)->XI F F'->J r F' Lf->Q .ret ⟨f.v,[{target:=.collected D,args:=#[]}]⟩ w'):CWP P none n c Q f w:=by
 cases c <;> simp[VG]at hk;rename_i g ps' assign body;simp only[Vd,rps,Ve,SB]at *
 subst h6;intro a ha;refine wpIn_rangeFunc fun fn _=>?_;obtain⟨rec,hrec⟩:∃ rec:LoopState->Option Code->Loop,rec=fun st pe=>{state:=st,pending:=pe,fn,tmps:=a.tmps,params:=ps',assign,body,defers:=w.heap.size}:=⟨_,rfl⟩;obtain⟨Y,hW1⟩:∃ Y,(w.alloc (.deferred (some []))).alloc (.loop (rec .ready none))=Y:=⟨_,rfl⟩;have h7:HS w0 F0 Y F (B++([(some (w.heap.size + 1),.loop (rec .ready none)),(some w.heap.size,.deferred (some []))]++L)):=by
  rw[<-hW1];have:=(hs.alloc (.deferred (some []))).alloc (.loop (rec .ready none));rw[show(w.alloc (.deferred (some []))).heap.size=w.heap.size + 1 by simp]at this;exact HS.perm (A:=[(some (w.heap.size + 1),.loop (rec .ready none)),(some w.heap.size,.deferred (some []))]) this
 refine⟨w.heap.size + 1,[{target:=.collected w.heap.size,args:=#[]}],Y,{target:=.fn (.func gf) cap.toArray,args:=#[.func (.yield (w.heap.size + 1)) #[] #[]]},Y,gf,
  #[.func (.yield (w.heap.size + 1)) #[] #[]]++cap.toArray,Y,?_,?_,fun _ _=>trivial,?_,(fun h=>by cases h),?_⟩
 ·rw[<-hW1,hrec];exact run_enterLoop_outer _ _ _ _ _
 ·simp only[resolve,ha.eval,hg];simp[Deferred.ofValue,Act.eval]
 ·simp only[invoke];rw[hgf]
 ·have Z:=hseq w0 Y F0 F (w.heap.size + 1) y
   (fun s F Lq=>∃ L',Lq=[(some (w.heap.size + 1),.loop (bif go s then rec .ready none else rec .done (some .ret))),(some w.heap.size,.deferred (some []))]++L'/\J s F L') s r _ (XJ F)
   (fun s F F' Lq h hl=>by obtain⟨L',h1,Z⟩:=h;exact⟨L',h1,hJm s F F' L' Z hl⟩) h7 ⟨L,by rw[hgo];rfl,hJ⟩ ?_ hm
  ·have e:(#[Value.func (.yield (w.heap.size + 1)) #[] #[]]++cap.toArray)=((Value.func (.yield (w.heap.size + 1)) #[] #[])::cap).toArray:=by apply yZ;simp
   rw[e];refine(EG Z).mono ?_;rintro e w' ⟨F',Lf',rfl,hs',hle,L',rfl,hJ'⟩;have hl:=hs'.ownAt (k:=0) rfl;cases hgr:go r with
   | true=>
    rw[hgr]at hl hs';simp only[cond_true]at hl hs';refine⟨none,_,by have:=run_endLoop (P:=P) hl (by rw[hrec];simp);rw[hrec]at this;exact this,?_⟩;have O:=(hs'.put (k:=0) rfl (.loop {rec .ready none with state:=.exhausted})).drop 0;refine⟨⟨f.v,[{target:=.collected w.heap.size,args:=#[]}]⟩,⟨ha.size,ha.at_,?_⟩,hdone w.heap.size _ F' L' hgr ?_ hle hJ'⟩
    ·simp[ha.defers,hd]
    ·rw[hrec]at O;exact O
   | false=>
    rw[hgr]at hl hs';simp only[cond_false]at hl hs';refine⟨some .ret,_,by have:=run_endLoop (P:=P) hl (by rw[hrec];simp);rw[hrec]at this;exact this,?_⟩;have O:=(hs'.put (k:=0) rfl (.loop {rec .done (some .ret)with state:=.exhausted})).drop 0;refine wpIn_ret ⟨⟨f.v,[{target:=.collected w.heap.size,args:=#[]}]⟩,⟨ha.size,ha.at_,?_⟩,hstop w.heap.size _ F' L' hgr ?_ hle hJ'⟩
    ·simp[ha.defers,hd]
    ·rw[hrec]at O;exact O
  ·rintro s x w' F' Lq Lf q hle hok ⟨L',rfl,hJ'⟩ hs' hyq;obtain⟨hgs,hq⟩:=hy _ _ _ hyq;obtain⟨q1,q2⟩:=q;simp only at hq;subst hq;rw[hgs]at hs';simp only[cond_true]at hs';have hl:=hs'.swap.ownAt (k:=0) rfl;have hyr:=run_yield (P:=P) (args:=(enc x).toArray) hl (by rw[hrec];simpa using hlen x);rw[hrec]at hyr;refine⟨fn,_,assign,body,hyr,roundIn_of_wpIn trivial ?_⟩;have hsA:HS w0 F0 w' F' (L'++([(some (w.heap.size + 1),.loop (rec .ready none)),(some w.heap.size,.deferred (some []))]++Lq)):=by
    have h3:HS w0 F0 w' F' ([(some (w.heap.size + 1),.loop (rec .ready none)),(some w.heap.size,.deferred (some []))]++(L'++Lq)):=by
     have:=hs'.swap;rwa [xY]at this
    exact h3.perm
   have hfit:Fy n (setps f ps'.toList (enc x)) {tmps:=(ps'.toList.zip (enc x)).foldl (fun t (p,v)=>t.setIfInBounds p v) a.tmps,defers:=f.d}:=
    Fy.setps ps'.toList (enc x) f a.tmps ⟨ha.size,ha.at_,rfl⟩ hps
   have e1:((ps'.zip (enc x).toArray).foldl (fun tmps (t,a)=>tmps.setIfInBounds t a) a.tmps)=(ps'.toList.zip (enc x)).foldl (fun t (p,v)=>t.setIfInBounds p v) a.tmps:=by
    rw[<-Array.foldl_toList,Array.toList_zip]
   simp only[e1];rw[hd]at hfit;refine wpIn_mono (hround (w.heap.size + 1) s x w' F' L' _ (go q2,q2) hle hok hJ' hsA hyq _ hfit) ?_;rintro e a1 w1 ⟨f1,h8,rfl,F1,Lu,hsU,hbody⟩;have hsU':=hsU.swap;have h9:=hsU'.ownAt (k:=0) rfl;refine⟨_,run_beginRound h9 (by rw[hrec]),?_⟩;have hb:=hbody _ ((some (w.heap.size + 1),.loop {rec .ready none with state:=.busy})::(some w.heap.size,.deferred (some []))::Lq) (HS.swap (A:=(some (w.heap.size + 1),.loop {rec .ready none with state:=.busy})::(some w.heap.size,.deferred (some []))::Lq) (hsU'.put (k:=0) rfl (.loop {rec .ready none with state:=.busy})));refine wpIn_mono (hb _ h8) ?_;have fin:∀(st:LoopState)(pe:Option Code)(I:World)(G:Mem)(M:Own),HS w0 F0 I G (M++((some (w.heap.size + 1),.loop {rec .ready none with state:=.busy})::(some w.heap.size,.deferred (some []))::Lq))->
     HS w0 F0 (Ct I (w.heap.size + 1) (.loop (rec st pe))) G (Lq++([(some (w.heap.size + 1),.loop (rec st pe)),(some w.heap.size,.deferred (some []))]++M)):=by
    intro st pe I G M O;have hc:=O.swap.put (k:=0) rfl (.loop (rec st pe));have h4:HS w0 F0 (Ct I (w.heap.size + 1) (.loop (rec st pe))) G ([(some (w.heap.size + 1),.loop (rec st pe)),(some w.heap.size,.deferred (some []))]++(Lq++M)):=by
     have h5:HS w0 F0 (Ct I (w.heap.size + 1) (.loop (rec st pe))) G (((some (w.heap.size + 1),.loop (rec st pe))::(some w.heap.size,.deferred (some []))::Lq)++M):=hc;exact h5
    exact h4.perm
   have endr:∀(jump:Option Code)(I:World)(G:Mem)(M:Own),HS w0 F0 I G (M++((some (w.heap.size + 1),.loop {rec .ready none with state:=.busy})::(some w.heap.size,.deferred (some []))::Lq))->
     (Instr.endRound (w.heap.size + 1) jump).run P I=.ok (.bool jump.isNone) (Ct I (w.heap.size + 1) (.loop (rec (if jump.isNone then .ready else .done) jump))):=by
    intro jump I G M O;have he:=O.swap.ownAt (k:=0) rfl;have:=run_endRound (P:=P) jump he;rw[hrec]at this ⊢;exact this
   rintro e a2 I ⟨f2,hf,(⟨rfl,U⟩ | ⟨rfl,U⟩),G,M,O,h0,hJ2⟩
   ·refine⟨_,_,endr none I G M O,G,_,?_,fin .ready none I G M O,h0,M,?_,hJ2⟩
    ·simp only at U ⊢;rw[U];rfl
    ·simp only at U ⊢;rw[U];rfl
   ·refine⟨_,_,endr (some .ret) I G M O,G,_,?_,fin .done (some .ret) I G M O,h0,M,?_,hJ2⟩
    ·simp only at U ⊢;rw[U];rfl
    ·simp only at U ⊢;rw[U];rfl
theorem CWP.rangeFunc{X α σ:Type}{enc:X->List Value}{ok:Mem->X->Prop}{px:X->α}{m:∀{σ:Type},(σ->α->Option (Bool×σ))->σ->Option σ}{c:Code}(hk:VG c=1){gf:FuncId}{cap:List Value}{B:Own}
  (hg:fev f (Vd c)=.func (.func gf) #[] cap.toArray) (hgf:Ag P gf) (hd:f.d=[]) {ps:List Nat} (Y:rps c=ps) (hps:ps.all (· < n)=true) (hlen:∀ x,(enc x).length=ps.length) (hs:HS w0 F0 w F (B++L)) (hseq:S1 P gf cap F B enc ok px m)
  (y:σ->α->Option (Bool×σ)) (J:σ->Mem->Own->Prop) (hJm:PG J) {s r:σ} (hJ:J s F L) (hm:m y s=some r) (hy:∀ s x q,y s x=some q->q.1=true)
  (hround:∀(l:Nat)(s:σ)(x:X)(w':World)(F':Mem)(Lf Rf:Own)(q:Bool×σ),XI F F'->ok F' x->J s F' Lf->HS w0 F0 w' F' (Lf++Rf)->y s (px x)=some q->
   CWP P (some l) n (Ve c) (fun e M w1=>e=.normal/\ ∃ F1 Lu,HS w0 F0 w1 F1 (Lu++Rf)/\ ∀ G Rg,HS w0 F0 G F1 (Lu++Rg)->CWP P (some l) n (SB c) (fun e Z O=>e=.normal/\ ∃ I U,HS w0 F0 O I (U++Rg)/\XI F' I/\J q.2 I U) M G) (setps f ps (enc x)) w')
  (hdone:∀(D:Nat)(w':World)(F':Mem)(Lf:Own),HS w0 F0 w' F' ((some D,.deferred (some []))::Lf)->XI F F'->J r F' Lf->Q .normal ⟨f.v,[{target:=.collected D,args:=#[]}]⟩ w'):CWP P none n c Q f w:=by
 refine CWP.rangeFunc2 hk hg hgf hd Y hps hlen hs hseq y (fun _=>true) J hJm hJ rfl hm (fun s x q h=>⟨rfl,hy s x q h⟩) ?_ (fun D w' F' Lf _=>hdone D w' F' Lf) (fun D w' F' Lf h=>by cases h);intro l s x w' F' Lf Rf q hle hok hJ hs hyq;refine(hround l s x w' F' Lf Rf q hle hok hJ hs hyq).mono ?_;rintro e M w1 ⟨rfl,F1,Lu,h0,h⟩;refine⟨rfl,F1,Lu,h0,fun G Rg h1=>(h G Rg h1).mono ?_⟩;rintro e Z O ⟨rfl,h⟩;exact⟨.inl ⟨rfl,hy _ _ _ hyq⟩,h⟩
theorem RWP.callO{ro:Option Nat}{f0:Operand}{aos:Array Operand}{ats:Array TypeId}{fid:FuncId}{first cap:Array Value}{args:List Value}{post:Mem->Value->Own->Prop}
  (ho:opq R i=some (dst,.call {callee:=.value f0,args:=aos,argTypes:=ats},ty,g)) (hg:gd R f g=true) (hf:fev f f0=.func (.func fid) first cap) (hok:Ag P fid)
  (ha:first.toList++aos.toList.map (fev f)++cap.toList=args) (hs:HS w0 F0 w F L) (hc:Calls P fid args.toArray w (MU w F post))
  (k:∀ v F1 w1 L',HS w0 F0 w1 F1 (L'++L)->XI F F1->post F1 v L'->RWP P ro n R Q rest (A1 f dst v) w1):RWP P ro n R Q (i::rest) f w:=by
 refine XG ho hg (Ek hf hok ha) hc ?_;rintro e w' ⟨r,F',L',rfl,G,I⟩;exact k r F' w' L' (hs.callO G) G.le I
theorem RWP.callS{ro:Option Nat}{f0:Operand}{aos:Array Operand}{ats:Array TypeId}{fid:FuncId}{first cap:Array Value}{args:List Value}{S:Ending->World->Prop}
  (ho:opq R i=some (dst,.call {callee:=.value f0,args:=aos,argTypes:=ats},ty,g)) (hg:gd R f g=true) (hf:fev f f0=.func (.func fid) first cap) (hok:Ag P fid)
  (ha:first.toList++aos.toList.map (fev f)++cap.toList=args) (hc:Calls P fid args.toArray w S)
  (k:∀ e w',S e w'->∃ v,e=.returned v/\RWP P ro n R Q rest (A1 f dst v) w'):RWP P ro n R Q (i::rest) f w:=by
 refine XG ho hg (Ek hf hok ha) hc fun e w' hS=>?_;obtain⟨v,rfl,h⟩:=k e w' hS;exact h
theorem Wr{α:Type}{a:X7}{n:Nat}{l l':List α}{v:Value}(h:v=.slice a l.length n)(e:l'.length=l.length):v=.slice a l'.length n:=by rw[e];exact h
def Pi(w:World)(F F1:Mem):Mem:=fun b=>if b < w.heap.size then F b else F1 b
theorem HS.lentCall{w1:World}{F1:Mem}{k:Nat}{e:oO}(h:HS w0 F0 w F L)(hk:L[k]? =some e)(hc:HS w (Ib F e) w1 F1 []):HS w0 F0 w1 (Pi w F F1) L/\XI F (Pi w F F1):=by
 have hF:∀ b o,F b=some o->b < w.heap.size:=fun b o hb=>Be (h.pers b o hb);refine⟨⟨h.base,h.fix.trans hc.fix,wJ h.size hc.size,fun b hb=>?_,fun b hb=>?_,fun b o hb=>?_,fun b o hm=>?_,h.nd⟩,fun b o hb=>?_⟩
 ·rw[hc.keep b (zC hb h.size)];exact h.keep b hb
 ·simp only[Pi,zC hb h.size,if_true];exact h.f0 b hb
 ·simp only[Pi]at hb;split at hb
  ·have:=h.pers b o hb;rw[hc.keep b (Be this)];exact this
  ·exact hc.pers b o hb
 ·obtain⟨G,I,J⟩:=h.own b o hm;have hl:=Be G;exact⟨by rw[hc.keep b hl];exact G,by simp only[Pi,hl,if_true];exact I,J⟩
 ·simp only[Pi,hF b o hb,if_true];exact hb
def WS(P:Program)(rs:Array ResultVar)(S:Ending->World->Prop):Exit->Fr->World->Prop
 | .normal,f,w | .ret,f,w=>(f.d=[]/\ ∃ v,(DN rs f).run P w=.ok v w/\S (.returned v) w)\/
   ∃ D,f.d=[{target:=.collected D,args:=#[]}]/\w.heap[D]? =some (.deferred (some []))/\ ∃ v,(DN rs f).run P (Ct w D (.deferred none))=.ok v (Ct w D (.deferred none))/\S (.returned v) (Ct w D (.deferred none))
 | _,_,_=>False
theorem PD{fid:FuncId}{fn:Func}{c:Code}{args:List Value}{S:Ending->World->Prop}
  (hf:P.funcs[fid]? =some fn) (hb:fn.body=some c) (hn:fn.ntmps=n) (hsz:decide (args.length<=n)=true)
  (h:CWP P none n c (WS P fn.results S) (f0 args) w):Calls P fid args.toArray w S:=by
 have hsz':args.length<=n:=by simpa using hsz
 refine(callsIn_wide (n:=0)).1 (callsIn_of_wp_marks hf hb trivial (wpIn_mono (h _ ⟨?_,?_,rfl⟩) ?_))
 ·simp;omega
 ·intro i;simp only[f0];rw[zF];by_cases hi:i < args.length
  ·simp[Array.getElem?_append,hi]
  ·rw[Array.getElem?_append_right (by simp;omega)];rw[wL,xG (by omega)];simp only[yO,Array.getElem?_replicate];split <;> rfl
 ·have key:∀(a:Act)(w:World)(f:Fr),Fy n f a->((f.d=[]/\ ∃ v,(DN fn.results f).run P w=.ok v w/\S (.returned v) w)\/
   ∃ D,f.d=[{target:=.collected D,args:=#[]}]/\w.heap[D]? =some (.deferred (some []))/\ ∃ v,(DN fn.results f).run P (Ct w D (.deferred none))=.ok v (Ct w D (.deferred none))/\S (.returned v) (Ct w D (.deferred none)))->
   LeavesInM (FW none) 0 P fn a.tmps S a.defers .returning w:=by
   rintro a w f hfit (⟨hd,v,hr,hS⟩ | ⟨D,hd,hD,v,hr,hS⟩)
   ·rw[hfit.defers,hd];exact⟨v,by rw[hfit.results fn];exact hr,hS⟩
   ·rw[hfit.defers,hd];exact⟨by simp,.inl ⟨D,_,rfl,run_takeDeferred hD,v,by rw[hfit.results fn];exact hr,hS⟩⟩
  rintro e a w ⟨f,hf,hQ⟩;cases e with
  | normal=>exact key a w f hf hQ
  | ret=>exact key a w f hf hQ
  | panic ch=>exact hQ.elim
  | outgrown=>exact hQ.elim
  | exit id=>exact hQ.elim
  | goto l=>exact hQ.elim
end
section
variable {ρ σ:Type} {body:σ -> Option (Ba ρ σ)}
theorem Q3(I:σ->Prop)(hn:∀ s s',I s->body s=some (.next s')->I s'):∀{N:Nat} {s:σ} {o:Ba ρ σ},I s->AJ body N s=some o->∃ G,I G/\body G=some o/\ ∀ s',o≠.next s'
 | 0,_,_,_,h=>by cases h
 | N + 1,s,o,hi,h=>by
  rw[AJ]at h;cases hb:body s with
  | none=>rw[hb]at h;cases h
  | some fl=>
   rw[hb]at h;cases fl with
   | next s'=>exact Q3 I hn (hn s s' hi hb) h
   | done s'=>cases h;exact⟨s,hi,hb,fun _ e=>by cases e⟩
   | ret r=>cases h;exact⟨s,hi,hb,fun _ e=>by cases e⟩
end
theorem PC{α:Type}{b:Bool}{x y:Option α}{r:α}(h:(bif b then x else y)=some r):(b=true/\x=some r)\/(b=false/\y=some r):=by
 cases b
 ·exact .inr ⟨rfl,h⟩
 ·exact .inl ⟨rfl,h⟩
inductive GC(α:Type) where
 | fin (l:List α)
 | raw (v:Value)
abbrev Xq:Value:=.slice none 0 0
def gc{α:Type}(k:Nat)(done:List (List α))(v:Value):List (GC α):=done.map .fin++.raw v::List.replicate (k - done.length - 1) (.raw Xq)
theorem D6{n:Int}(h1: -9223372036854775808<=n)(h2:n<=9223372036854775807):W64 n=n:=by
 unfold W64 IntKind.wrap;simp[IntKind.signed,IntKind.bits];omega
abbrev tt:Bool:=true
abbrev ff:Bool:=false
abbrev tf(a b:Nat):List Bool:=List.replicate a tt++List.replicate b ff
abbrev sv(l:List UInt8):Value:=.string ⟨l.toArray⟩
abbrev fV(n:Nat)(c:Array Value):Value:=.func (.func n) #[] c
abbrev rG(n:Nat):List Nat:=List.range n
abbrev sb(b:Nat)(C:Array Value)(t:TypeId):Option Nat×Obj:=(some b,.cells C t (0,0))
abbrev oc(C:Array Value)(t:TypeId):Obj:=.cells C t (0,0)
abbrev vi(x:Int):Value:=.int .i64 x
abbrev pt(b o:Nat):Value:=.pointer (some ⟨b,o,none⟩)
abbrev sL{α:Type}(a:X7)(l:List α)(c:Nat):Value:=.slice a l.length c
abbrev sA(b:Nat):Option Addr:=some ⟨b,0,none⟩
abbrev sS{α:Type}(b o:Nat)(l:List α)(c:Nat):Value:=.slice (some ⟨b,o,none⟩) l.length c
abbrev sN(α:Type):Value:=.slice none ([]:List α).length 0
abbrev lA(l:List Value):Array Value:=l.toArray
abbrev bT:Value:=.bool true
abbrev bF:Value:=.bool false
abbrev sE:Value:=sv ([]:X6)
theorem rT:true=true:=rfl
theorem rF:false=false:=rfl
theorem cS{α:Type _}{a b:α}(h:a=b:=by kernel_rfl):some a=some b:=congrArg some h
theorem oS{α β:Type}(a:α)(f:α->Option β):(some a).bind f=f a:=rfl
theorem cT{α:Type}(a b:α):(bif true then a else b)=a:=rfl
theorem cF{α:Type}(a b:α):(bif false then a else b)=b:=rfl
abbrev kT(a b c d e f g h i:Value)(G Y t2 I J Z t6 M O t9 h0 U:Nat)(j k:Value):Array Value:=#[a,b,c,d,e,f,g,h,i,fV 153 #[],fV 154 #[],fV 190 #[pt G 0,pt Y 0,pt t2 0,pt I 0],fV 191 #[pt G 0,pt I 0],fV 190 #[pt J 0,pt Z 0,pt t6 0,pt M 0],fV 191 #[pt J 0,pt M 0],fV 190 #[pt O 0,pt t9 0,pt h0 0,pt U 0],fV 191 #[pt O 0,pt U 0],fV 159 #[],fV 160 #[],j,k]
abbrev zA:Array Value:=#[vi 0,vi 0,vi 0,vi 0,sv ([]:X6),vi 0,vi 0,vi 0,vi 0,vi 0,vi 0]
theorem cO(n:Nat)(h:Ag Tryz.prog n:=by intro _ _;kernel_rfl):Ag Tryz.prog n:=h
section
variable {P:Program} {w:World} {ρ:Operand -> Value} {ty:TypeId}
theorem mv(a:Nat)(v:Value)(h:ρ (.tmp a)=v:=by rfl):(Am ρ (.move (.tmp a)) ty).run P w=.ok (.value v) w:=QO h
theorem ld(t:TypeId)(a b o:Nat)(g:Bool)(s:Nat)(v:Value){C:Array Value}{E:TypeId}{fz:Nat×Nat}(hb:w.heap[b]? =some (.cells C E fz))(hx:ρ (.tmp a)=.pointer (some ⟨b,o,none⟩):=by rfl)
  (ht:Ef P t=some (g,s):=by kernel_rfl) (hl:(Ap C o s).length=s:=by rfl) (hgs:(g||s==1)=true:=by rfl) (hv:mkV g (Ap C o s)=v:=by rfl):
  (Am ρ (.load t (.tmp a)) ty).run P w=.ok (.value v) w:=BM hx ht hb hl hgs hv
theorem lx(t:TypeId)(a j kk:Nat)(g:Bool)(s:Nat)(v:Value){b o:Nat}{C:Array Value}{E:TypeId}{fz:Nat×Nat}{cs:List Value}(hb:w.heap[b]? =some (.cells C E fz))(hc:Ap C o kk=cs)
  (hx:ρ (.tmp a)=.pointer (some ⟨b,o + j,none⟩):=by rfl)
  (ht:Ef P t=some (g,s):=by kernel_rfl) (hj:decide (j + s<=kk)=true:=by decide) (hl:((cs.drop j).take s).length=s/\True:=by exact⟨rfl,trivial⟩) (hgs:(g||s==1)=true:=by rfl) (hv:mkV g ((cs.drop j).take s)=v:=by rfl):
  (Am ρ (.load t (.tmp a)) ty).run P w=.ok (.value v) w:=Fq hx ht hb hc hj hl hgs hv
theorem fa(s:TypeId)(a i o k b o0 o1:Nat)(hx:ρ (.tmp a)=.pointer (some ⟨b,o0,none⟩):=by rfl)(hf:Ls P s i=some (o,k):=by kernel_rfl)(hk:decide (k=0)=false:=by rfl)(ho:o0 + o=o1:=by rfl):
  (Am ρ (.fieldAddr s (.tmp a) i) ty).run P w=.ok (.value (.pointer (some ⟨b,o1,none⟩))) w:=CO hx hf hk ho
theorem p1(c:Nat)(a b:Operand)(v:Value){t:Bool}(ht:t=true)(hc:ρ (.tmp c)=.bool t:=by rfl)(h:ρ a=v:=by rfl):(Am ρ (.pick (.tmp c) a b) ty).run P w=.ok (.value v) w:=L4 hc ht h
theorem p0(c:Nat)(a b:Operand)(v:Value){t:Bool}(ht:t=false)(hc:ρ (.tmp c)=.bool t:=by rfl)(h:ρ b=v:=by rfl):(Am ρ (.pick (.tmp c) a b) ty).run P w=.ok (.value v) w:=L5 hc ht h
theorem ix(t x y b o:Nat)(E:TypeId)(s by_:Nat){k:IntKind}{n c:Nat}{i:Int}(hi:0<=i/\i < (n:Int))(hx:ρ (.tmp x)=.slice (some ⟨b,o,none⟩) n c:=by rfl)(hy:ρ (.tmp y)=.int k i:=by rfl)
  (he:A2 P t=some (E,s,by_):=by kernel_rfl):(Am ρ (.indexAddr t (.tmp x) (.tmp y)) ty).run P w=.ok (.value (.pointer (some ⟨b,o + i.toNat * s,none⟩))) w:=BN hx hy he hi
theorem ln(x:Nat)(t:TypeId)(a:X7)(n c E s by_:Nat)(hx:ρ (.tmp x)=.slice a n c:=by rfl)(he:A2 P t=some (E,s,by_):=by kernel_rfl):
  (Am ρ (.call {callee:=.builtin .len,args:=#[.tmp x],argTypes:=#[t]}) ty).run P w=.ok (.value (.int .i64 (n:Int))) w:=I8 hx rfl he
end
def TF(f:Fr)(l:List Nat):Fr:=l.foldl (fun f d=>upd f d undef) f
section
variable {P:Program} {ro:Option Nat} {n:Nat} {R:Array Oper} {Q:Exit -> Fr -> World -> Prop} {i:Nat} {rest:List Nat} {f:Fr} {w w':World}
theorem V(d:Nat)(ty:TypeId){op:Op}{v:Value}(hy:(Am (fev f) op ty).run P w=.ok (.value v) w')(k:RWP P ro n R Q rest (A1 f (some d) v) w')(ho:opq R i=some (some d,op,ty,none):=by kernel_rfl):
  RWP P ro n R Q (i::rest) f w:=XF ho rfl hy k
theorem Vg(d:Nat)(ty:TypeId)(j:Nat)(b:Bool)(q:Nat){c:Bool}(hc:c=b){op:Op}{v:Value}(hy:(Am (fev f) op ty).run P w=.ok (.value v) w')(k:RWP P ro n R Q rest (A1 f (some d) v) w')(ho:opq R i=some (some d,op,ty,some (j,b)):=by kernel_rfl)
  (hj:FV R j=some q:=by kernel_rfl) (hf:f q=.bool c:=by rfl):RWP P ro n R Q (i::rest) f w:=XF ho (Hp hj hf hc) hy k
variable {Q':Exit -> Fr -> World -> Prop} {c:Code}
theorem Sq(h:CWP P ro n (cs1 c) (IE (CWP P ro n (cs2 c) Q) Q) f w)(hk:kin c=3:=by kernel_rfl):CWP P ro n c Q f w:=CWP.seq hk h
theorem Rg(l:List Nat)(h:RWP P ro n (Mg c) Q l f w)(hk:kin c=1:=by kernel_rfl)(hok:okR n (Mg c)=true:=by kernel_rfl)(hl:List.range (Mg c).size=l:=by kernel_rfl):CWP P ro n c Q f w:=CWP.region hk hok hl h
theorem sR(l:List Nat)(h:RWP P ro n (Mg (cs1 c)) (IE (CWP P ro n (cs2 c) Q) Q) l f w)(hk:kin c=3:=by kernel_rfl)(h1:kin (cs1 c)=1:=by kernel_rfl)(hok:okR n (Mg (cs1 c))=true:=by kernel_rfl)(hl:List.range (Mg (cs1 c)).size=l:=by kernel_rfl):CWP P ro n c Q f w:=Sq (Rg l h h1 hok hl) hk
theorem Nt{K:Fr->World->Prop}(h:K f w):RWP P ro n R (IE K Q) [] f w:=XE h
theorem Bk(h:CWP P ro n (cbd c) (ID (cid c) Q) f w)(hk:kin c=5:=by kernel_rfl):CWP P ro n c Q f w:=CWP.block hk h
theorem Sc(h:Q .normal f w)(hk:kin c=0:=by kernel_rfl):CWP P ro n c Q f w:=CWP.skip hk h
theorem Nss(h:CWP P ro n (cs1 c) (IE (CWP P ro n (cs2 c) Q) Q) f w)(hk:kin c=3:=by kernel_rfl):RWP P ro n R (IE (CWP P ro n c Q) Q') [] f w:=XE (CWP.seq hk h)
end
section
variable {P:Program} {n:Nat} {R:Array Oper} {f:Fr} {w:World}
variable {PQ:List PanicEntry -> List Deferred -> World -> Prop} {Post:Fr -> World -> Prop} {z:Nat} {Sw:Bool -> World -> Prop} {fuel:Nat} {l:List Bool} {op:Op}
theorem Dt(i d:Nat)(ty:TypeId)(v:Value)(hy:∀ w',Sw true w'->(Am (fev f) op ty).run P w'=.ok (.value v) w')(k:DWP P n R PQ Post z Sw fuel (l.set i true) (A1 f (some d) v) w)
  (ho:opq R i=some (some d,op,ty,none):=by kernel_rfl) (hh:(Region.free .any R l.toArray i&&((Region.ready .any R l.toArray).contains i&&(I2 R z i&&l.toArray.getD z true)))=true:=by kernel_rfl):
  DWP P n R PQ Post z Sw (fuel + 1) l f w:=by
 simp only[xA]at hh;exact DWP.take ho hh.1 hh.2.1 hh.2.2.1 hh.2.2.2 rfl hy rfl k
theorem Df(i d:Nat)(ty:TypeId)(v:Value)(hy:∀ w',Sw false w'->(Am (fev f) op ty).run P w'=.ok (.value v) w')(k:DWP P n R PQ Post z Sw fuel (l.set i true) (A1 f (some d) v) w)
  (ho:opq R i=some (some d,op,ty,none):=by kernel_rfl) (hh:(Region.free .any R l.toArray i&&((Region.ready .any R l.toArray).contains i&&(I2 R z i&& !l.toArray.getD z true)))=true:=by kernel_rfl):
  DWP P n R PQ Post z Sw (fuel + 1) l f w:=by
 simp only[xA,Bool.not_eq_true']at hh;exact DWP.take ho hh.1 hh.2.1 hh.2.2.1 hh.2.2.2 rfl hy rfl k
theorem Dg(i d:Nat)(ty:TypeId)(v:Value)(j:Nat)(b:Bool)(q:Nat){c:Bool}(hc:c=b)(hy:∀ w',Sw true w'->(Am (fev f) op ty).run P w'=.ok (.value v) w')(k:DWP P n R PQ Post z Sw fuel (l.set i true) (A1 f (some d) v) w)
  (ho:opq R i=some (some d,op,ty,some (j,b)):=by kernel_rfl) (hh:(Region.free .any R l.toArray i&&((Region.ready .any R l.toArray).contains i&&(I2 R z i&&l.toArray.getD z true)))=true:=by kernel_rfl)
  (hj:FV R j=some q:=by kernel_rfl) (hf:f q=.bool c:=by rfl):
  DWP P n R PQ Post z Sw (fuel + 1) l f w:=by
 simp only[xA]at hh;exact DWP.take ho hh.1 hh.2.1 hh.2.2.1 hh.2.2.2 (Hp hj hf hc) hy rfl k
def dsl(R:Array Oper)(z j:Nat)(b:Bool)(q:Nat):List (Nat×Nat)->List Bool->Bool
 | [],_=>true
 | (i,d)::ds,l=>(match opq R i with | some (some d',_,_,some (j',w'))=>Nat.beq d d'&&(Nat.beq j j'&&(b==w'&& !Nat.beq d q)) | _=>false)&&
  ((Region.free .any R l.toArray i&&((Region.ready .any R l.toArray).contains i&&I2 R z i))&&dsl R z j b q ds (l.set i true))
def S8(l:List Bool):List (Nat×Nat)->List Bool
 | []=>l
 | (i,_)::ds=>S8 (l.set i true) ds
theorem Qj(j:Nat)(b:Bool)(q:Nat):∀(ds:List (Nat×Nat)) {l:List Bool} {f:Fr} {fuel:Nat},(∀ f':Fr,f' q=f q->gd R f' (some (j,b))=false)->dsl R z j b q ds l=true->DWP P n R PQ Post z Sw fuel (S8 l ds) (TF f (ds.map (·.2))) w->
  DWP P n R PQ Post z Sw (fuel + ds.length) l f w
 | [],_,_,_,_,_,k=>k
 | (i,d)::ds,l,f,fuel,hg,h,k=>by
  simp only[dsl,xA]at h;obtain⟨G,⟨M,O,U⟩,Y⟩:=h;split at G
  ·rename_i d' op ty j' w' ho;simp only[xA,beq_iff_eq]at G;obtain⟨I,J,Z,e4⟩:=G;have I:=xK I;have J:=xK J;subst I;subst J;subst Z;have hne:(upd f d undef) q=f q:=by
    simp only[upd];cases hb:Nat.beq q d with
    | false=>rfl
    | true=>have:=xK hb;subst this;simp at e4
   exact DWP.skip ho M O U rfl (hg f rfl) rfl (Qj j b q ds (fun f' hf'=>hg f' (by rw[hf',<-hne];rfl)) Y k)
  ·cases G
theorem Dk(ds:List (Nat×Nat))(j:Nat)(b:Bool)(q:Nat){c:Bool}(hc:c= !b){fu:Nat}(k:DWP P n R PQ Post z Sw (fu - ds.length) (S8 l ds) (TF f (ds.map (·.2))) w)(h:dsl R z j b q ds l=true:=by kernel_rfl)
  (hfu:Nat.beq fu ((fu - ds.length) + ds.length)=true:=by kernel_rfl) (hj:FV R j=some q:=by kernel_rfl) (hf:f q=.bool c:=by rfl):DWP P n R PQ Post z Sw fu l f w:=by
 have:=xK hfu;rw[this];exact Qj j b q ds (fun f' hf'=>Wx hj (hf'.trans hf) hc) h k
theorem Du(ds:List (Nat×Nat))(j:Nat)(b:Bool)(q:Nat){fu:Nat}(k:DWP P n R PQ Post z Sw (fu - ds.length) (S8 l ds) (TF f (ds.map (·.2))) w)(h:dsl R z j b q ds l=true:=by kernel_rfl)
  (hfu:Nat.beq fu ((fu - ds.length) + ds.length)=true:=by kernel_rfl) (hj:FV R j=some q:=by kernel_rfl) (hf:f q=undef:=by rfl):DWP P n R PQ Post z Sw fu l f w:=by
 have:=xK hfu;rw[this];exact Qj j b q ds (fun f' hf'=>Ww hj (hf'.trans hf)) h k
theorem Dkl(ds:List (Nat×Nat))(j:Nat)(b:Bool)(q:Nat){c:Bool}(hc:c= !b)(l':List Bool){fu:Nat}(k:DWP P n R PQ Post z Sw (fu - ds.length) l' (TF f (ds.map (·.2))) w)(h:dsl R z j b q ds l=true:=by kernel_rfl)
  (hl:S8 l ds=l':=by kernel_rfl) (hfu:Nat.beq fu ((fu - ds.length) + ds.length)=true:=by kernel_rfl) (hj:FV R j=some q:=by kernel_rfl) (hf:f q=.bool c:=by rfl):DWP P n R PQ Post z Sw fu l f w:=by
 subst hl;exact Dk ds j b q hc k h hfu hj hf
theorem Dul(ds:List (Nat×Nat))(j:Nat)(b:Bool)(q:Nat)(l':List Bool){fu:Nat}(k:DWP P n R PQ Post z Sw (fu - ds.length) l' (TF f (ds.map (·.2))) w)(h:dsl R z j b q ds l=true:=by kernel_rfl)
  (hl:S8 l ds=l':=by kernel_rfl) (hfu:Nat.beq fu ((fu - ds.length) + ds.length)=true:=by kernel_rfl) (hj:FV R j=some q:=by kernel_rfl) (hf:f q=undef:=by rfl):DWP P n R PQ Post z Sw fu l f w:=by
 subst hl;exact Du ds j b q k h hfu hj hf
theorem Dtl(i d:Nat)(ty:TypeId)(v:Value)(l':List Bool)(hy:∀ w',Sw true w'->(Am (fev f) op ty).run P w'=.ok (.value v) w')(k:DWP P n R PQ Post z Sw fuel l' (A1 f (some d) v) w)
  (ho:opq R i=some (some d,op,ty,none):=by kernel_rfl) (hh:(Region.free .any R l.toArray i&&((Region.ready .any R l.toArray).contains i&&(I2 R z i&&l.toArray.getD z true)))=true:=by kernel_rfl) (hl:l.set i true=l':=by kernel_rfl):
  DWP P n R PQ Post z Sw (fuel + 1) l f w:=by subst hl;exact Dt i d ty v hy k ho hh
theorem Dgl(i d:Nat)(ty:TypeId)(v:Value)(l':List Bool)(j:Nat)(b:Bool)(q:Nat){c:Bool}(hc:c=b)(hy:∀ w',Sw true w'->(Am (fev f) op ty).run P w'=.ok (.value v) w')(k:DWP P n R PQ Post z Sw fuel l' (A1 f (some d) v) w)
  (ho:opq R i=some (some d,op,ty,some (j,b)):=by kernel_rfl) (hh:(Region.free .any R l.toArray i&&((Region.ready .any R l.toArray).contains i&&(I2 R z i&&l.toArray.getD z true)))=true:=by kernel_rfl)
  (hl:l.set i true=l':=by kernel_rfl) (hj:FV R j=some q:=by kernel_rfl) (hf:f q=.bool c:=by rfl):
  DWP P n R PQ Post z Sw (fuel + 1) l f w:=by subst hl;exact Dg i d ty v j b q hc hy k ho hh hj hf
end
theorem AN{α:Type}{l:List α}{i:Nat}(h:i < l.length):idx l (i:Int)=some l[i]:=by
 simp[idx,h]
section
variable {ρ σ:Type}
theorem D8{body:σ->Option (Ba ρ σ)}(n:Nat)(I:Nat->σ->Prop)(R:Ba ρ σ->Prop)
  (h:∀ i s,i<=n->I i s->(∃ s',body s=some (.next s')/\I (i + 1) s'/\i < n)\/(∃ o,body s=some o/\(∀ s',o≠.next s')/\R o)):
  ∀(k N:Nat)(i:Nat)(s:σ),i + k=n->I i s->k < N->∃ o,AJ body N s=some o/\R o
 | k,0,_,_,_,_,hN=>absurd hN (Nat.not_lt_zero _)
 | k,N + 1,i,s,hk,hI,hN=>by
  rw[AJ];rcases h i s (by omega) hI with⟨s',G,J,M⟩ | ⟨o,G,J,M⟩
  ·rw[G];obtain⟨k',rfl⟩:∃ k',k=k' + 1:=⟨k - 1,by omega⟩;exact D8 n I R h k' N (i + 1) s' (by omega) J (by omega)
  ·rw[G];cases o with
   | next s'=>exact absurd rfl (J s')
   | done s'=>exact⟨_,rfl,M⟩
   | ret r=>exact⟨_,rfl,M⟩
def Kc(n:Nat)(ok:Nat->Bool):Bool:=(List.range n).all ok
theorem UN{n:Nat}{ok:Nat->Bool}(h:Kc n ok=true){i:Nat}(hi:i < n):ok i=true:=by
 unfold Kc at h;rw[xQ]at h;exact h i (by simpa using hi)
theorem SZ{n:Nat}{ok:Nat->Bool}(h:∀ i,i < n->ok i=true):Kc n ok=true:=by
 unfold Kc;rw[xQ];intro i hi;exact h i (by simpa using hi)
theorem WL{n i:Nat}{ok:Nat->Bool}(hi:i < n)(h:ok i=false):Kc n ok=false:=by
 cases e:Kc n ok with
 | false=>rfl
 | true=>rw[UN e hi]at h;cases h
theorem R4{body:Int->Option (Ba ρ Int)}{n:Nat}(ok:Nat->Bool)(bad:Nat->ρ)
  (hb:∀ i,i < n->body (i:Int)=some (bif ok i then .next ((i + 1:Nat):Int)else .ret (bad i))) (he:body (n:Int)=some (.done (n:Int))) {N:Nat} (hN:n < N):
  (Kc n ok=true/\AJ body N 0=some (.done (n:Int)))\/(Kc n ok=false/\ ∃ i,i < n/\AJ body N 0=some (.ret (bad i))):=by
 obtain⟨o,ho,hR⟩:=D8 (body:=body) n (fun i s=>s=(i:Int)/\ ∀ k,k < i->ok k=true) (fun o=>(Kc n ok=true/\o=.done (n:Int))\/(Kc n ok=false/\ ∃ i,i < n/\o=.ret (bad i))) (by
  rintro i s hi ⟨rfl,hk⟩;by_cases h:i < n
  ·rw[hb i h];cases e:ok i with
   | true=>
    refine .inl ⟨_,rfl,⟨rfl,fun k hk'=>?_⟩,h⟩;by_cases hki:k=i
    ·subst hki;exact e
    ·exact hk k (by omega)
   | false=>exact .inr ⟨_,rfl,(fun _ h=>by cases h),.inr ⟨WL h e,i,h,rfl⟩⟩
  ·have:i=n:=by omega
   subst this;rw[he];exact .inr ⟨_,rfl,(fun _ h=>by cases h),.inl ⟨SZ hk,rfl⟩⟩) n N 0 0 (by omega) ⟨rfl,fun k hk=>by omega⟩ hN
 rcases hR with⟨G,rfl⟩ | ⟨G,i,hi,rfl⟩
 ·exact .inl ⟨G,ho⟩
 ·exact .inr ⟨G,i,hi,ho⟩
theorem Jj{α:Type}{body:Int->Option (Ba ρ Int)}{n:Nat}(ok:Nat->Bool)(b:ρ)
  (hb:∀ i,i < n->body (i:Int)=some (bif ok i then .next ((i + 1:Nat):Int)else .ret b)) (he:body (n:Int)=some (.done (n:Int))) {N:Nat} (hN:n < N) (fd:Int->Option α) (fr:ρ->Option α):
  ((AJ body N 0).bind fun o=>o.k fr fd)=bif Kc n ok then fd n else fr b:=by
 rcases R4 ok (fun _=>b) hb he hN with⟨G,I⟩ | ⟨G,_,_,I⟩ <;> rw[G,I] <;> rfl
def cat{α:Type}(n:Nat)(f:Nat->List α):List α:=(List.range n).flatMap f
theorem JA{α:Type}(n:Nat)(f:Nat->List α):cat (n + 1) f=cat n f++f n:=by simp[cat,List.range_succ]
theorem WK{α:Type}{n K:Nat}{f:Nat->List α}(h:∀ i,i < n->(f i).length<=K):(cat n f).length<=n * K:=by
 induction n with
 | zero=>simp[cat]
 | succ n ih=>
  rw[JA,xJ,yI];have:=ih (fun i hi=>h i (by omega));have:=h n (by omega);omega
theorem To{α:Type}{body:List α×Int->Option (Ba ρ (List α×Int))}{n:Nat}(K:Nat)(f:Nat->List α)(hf:∀ i,i < n->(f i).length<=K){s0:List α}
  (hb:∀ i s,i < n->s.length + K<=s0.length + n * K->body (s,(i:Int))=some (.next (s++f i,((i + 1:Nat):Int)))) (he:∀ s,body (s,(n:Int))=some (.done (s,(n:Int)))) {N:Nat} (hN:n < N):
  AJ body N (s0,0)=some (.done (s0++cat n f,(n:Int))):=by
 obtain⟨o,ho,rfl⟩:=D8 (body:=body) n (fun i s=>s=(s0++cat i f,(i:Int))) (fun o=>o=.done (s0++cat n f,(n:Int))) (by
  rintro i s hi rfl;by_cases h:i < n
  ·refine .inl ⟨_,hb i _ h ?_,?_,h⟩
   ·rw[xJ];have:=WK (n:=i) (K:=K) (f:=f) (fun j hj=>hf j (by omega));have h2:i * K + K<=n * K:=by rw[<-yV];exact xU _ h
    omega
   ·rw[JA,xY]
  ·have:i=n:=by omega
   subst this;exact .inr ⟨_,he _,fun _ h=>(by cases h),rfl⟩) n N 0 (s0,0) (by omega) (by simp[cat]) hN
 exact ho
end
theorem QB{α:Type}{l m:List α}(h:l.length + m.length < 4294967296):Bm l m=some (l++m):=by simp[Bm,h]
def EB(a b:X6):Option X6:=if a.length + b.length<=9223372036854775807 then some (a++b)else none
def K4(a:X6)(i:Int):Option Int:=if 0<=i then(a[i.toNat]?).map fun b=>(b.toNat:Int)else none
def K1(a:X6)(lo hi:Int):Option X6:=if 0<=lo/\lo<=hi/\hi<=(a.length:Int)then some ((a.drop lo.toNat).take (hi.toNat - lo.toNat))else none
def K3(a b:X6):Bool:=Op.bytesLess a b
def KB(a:X6)(i:Nat):Nat×Nat:=Utf8.decode ⟨a.toArray⟩ i
def AR:Ty X6:=⟨1,false,fun _ cs x=>cs=[.string ⟨x.toArray⟩],fun h=>by subst h;rfl,fun _ h=>h,rfl⟩
def tU8:Ty Int:=⟨1,false,fun _ cs x=>cs=[.int .u8 x],fun h=>by subst h;rfl,fun _ h=>h,rfl⟩
theorem Vp:AR.One:=fun h=>by subst h;rfl
theorem oU8:tU8.One:=fun h=>by subst h;rfl
section
variable {P:Program} {w:World} {ρ:Operand -> Value} {ty:TypeId} {x y:Operand} {a b:X6} {t t':TypeId}
theorem A4{v:X6}(hx:ρ x=.string ⟨a.toArray⟩)(hy:ρ y=.string ⟨b.toArray⟩)(h:EB a b=some v):
  (Am ρ (.binOp .add t x y t') ty).run P w=.ok (.value (.string ⟨v.toArray⟩)) w:=by
 unfold EB at h;split at h
 ·rename_i hl;cases h;have e:Am ρ (.binOp .add t x y t') ty=(do pure (Next.value (<-(do eqGuard .add t x y (ρ x) (ρ y);binOp .add t (ρ x) (ρ y))))):=rfl;have G:binOp .add t (.string ⟨a.toArray⟩) (.string ⟨b.toArray⟩)=Op.stringOp .add ⟨a.toArray⟩ ⟨b.toArray⟩:=rfl;have I:eqGuard .add t x y (.string ⟨a.toArray⟩) (.string ⟨b.toArray⟩)=pure ():=rfl;rw[e,hx,hy,G,I];simp only[xE,xH,xC];rw[run_string_add_sum w _ _ (by simpa [ByteArray.size]using hl),ByteArray.mk_append_mk];rfl
 ·cases h
theorem TQ{op:BinOp}{v:Bool}(hx:ρ x=.string ⟨a.toArray⟩)(hy:ρ y=.string ⟨b.toArray⟩)
  (h:(match op with | .eql=>some (a==b) | .neq=>some (a !=b) | .lss=>some (K3 a b) | .leq=>some (K3 a b||a==b) | .gtr=>some !(K3 a b||a==b) | .geq=>some !(K3 a b) | _=>none)=some v):
  (Am ρ (.binOp op t x y t') ty).run P w=.ok (.value (.bool v)) w:=by
 have e:Am ρ (.binOp op t x y t') ty=(do pure (Next.value (<-(do eqGuard op t x y (ρ x) (ρ y);binOp op t (ρ x) (ρ y))))):=rfl;have G:eqGuard op t x y (.string ⟨a.toArray⟩) (.string ⟨b.toArray⟩)=pure ():=by cases op <;> rfl
 rw[e,hx,hy,G];simp only[xE,xH,xC];cases op <;> simp only[xI,reduceCtorEq]at h <;> subst h <;> simp[binOp,Op.stringOp,K3,bne]
theorem I7{ats:Array TypeId}(hx:ρ x=.string ⟨a.toArray⟩)(ht:ats[0]? =some t)(hu:P.underlying t=some .string):
  (Am ρ (.call {callee:=.builtin .len,args:=#[x],argTypes:=ats}) ty).run P w=.ok (.value (.int .i64 (a.length:Int))) w:=by
 have G:Am ρ (.call {callee:=.builtin .len,args:=#[x],argTypes:=ats}) ty=(do pure (Next.value (<-Builtin.len_ ats ty (Array.map ρ #[x])))):=rfl;rw[G,map_toArray];simp only[yY,zD,hx];simp only[Builtin.len_,ht,xE,yO,yB,run_underlying hu,xC,xH,goInt,ByteArray.size_mk',List.size_toArray]
theorem EU{k:IntKind}{i v:Int}(hx:ρ x=.string ⟨a.toArray⟩)(hy:ρ y=.int k i)(hu:P.underlying t=some .string)(h:K4 a i=some v):
  (Am ρ (.index t x y) ty).run P w=.ok (.value (.int .u8 v)) w:=by
 unfold K4 at h;split at h
 ·rename_i G;cases hq:a[i.toNat]? with
  | none=>rw[hq]at h;cases h
  | some c=>
   rw[hq]at h;cases h;have hlt:i.toNat < a.length:=by
    rcases xM i.toNat a.length with h' | h'
    ·exact h'
    ·rw[xG h']at hq;cases hq
   have e:Am ρ (.index t x y) ty=(do pure (Next.value (<-Instr.index t (ρ x) (ρ y)))):=rfl;rw[e,hx,hy];have hi:0<=i/\i < ((⟨a.toArray⟩:ByteArray).size:Int):=⟨G,by simp only[ByteArray.size_mk',List.size_toArray];omega⟩;rw[xE,run_index_string w t _ k i hu,dif_pos hi];simp only[xC,xH];have hc:a[i.toNat]=c:=by
    rw[xB hlt]at hq;exact xW hq
   have:(⟨a.toArray⟩:ByteArray)[i.toNat]'(by simp only[ByteArray.size_mk',List.size_toArray];omega)=c:=hc;rw[this]
 ·cases h
def TL(ρ:Operand->Value):Option Operand->Value
 | some x=>ρ x
 | none=>.int .i64 0
def VZ(ρ:Operand->Value)(n:Nat):Option Operand->Value
 | some x=>ρ x
 | none=>.int .i64 (n:Int)
theorem GF{lo hi:Option Operand}{il ih:Int}{v:X6}(hx:ρ x=.string ⟨a.toArray⟩)(hu:P.underlying t=some .string)(hlo:TL ρ lo=.int .i64 il)(hhi:VZ ρ a.length hi=.int .i64 ih)
  (h:K1 a il ih=some v):(Am ρ (.slice t x lo hi none) ty).run P w=.ok (.value (.string ⟨v.toArray⟩)) w:=by
 unfold K1 at h;split at h
 ·rename_i hb;cases h;obtain⟨M,h1,O⟩:=hb;have hih:(0:Int)<=ih/\ih<=((a.length:Nat):Int):=⟨by omega,O⟩;have hil:(0:Int)<=il/\il<=((ih.toNat:Nat):Int):=⟨M,by omega⟩;have e:Am ρ (.slice t x lo hi none) ty=(do pure (Next.value (<-Instr.sliceAt t (ρ x) (lo.map ρ) (hi.map ρ) none))):=rfl;have eb:(Instr.sliceBounds false a.length a.length (lo.map ρ) (hi.map ρ) none).run P w=.ok (il.toNat,ih.toNat,a.length) w:=by
   unfold Instr.sliceBounds;cases hi with
   | none=>
    have I:((a.length:Nat):Int)=ih:=by simpa [VZ]using hhi
    have J:ih.toNat=a.length:=by omega
    cases lo with
    | none=>
     have G:(0:Int)=il:=by simpa [TL]using hlo
     subst G;simp[Result.andThen,J]
    | some z=>
     have G:ρ z=.int .i64 il:=hlo;rw[J]at hil ⊢;simp[Result.andThen,Instr.sliceBound,asIntOf,G,hil]
   | some q=>
    have I:ρ q=.int .i64 ih:=hhi;cases lo with
    | none=>
     have G:(0:Int)=il:=by simpa [TL]using hlo
     subst G;simp[Result.andThen,Instr.sliceBound,asIntOf,I,hih]
    | some z=>
     have G:ρ z=.int .i64 il:=hlo;have hm:il<=max ih 0:=by omega
     simp[Result.andThen,Instr.sliceBound,asIntOf,I,G,hih,hil,hm]
  have hsz:(⟨a.toArray⟩:ByteArray).size=a.length:=by simp[ByteArray.size_mk']
  rw[e,hx];simp only[Instr.sliceAt,Instr.slice,xE,run_underlying hu,xC,hsz,Option.isSome_none,xR,if_false,eb,xH];congr 3;apply ByteArray.ext;apply yZ;simp[ByteArray.data_extract,wV]
 ·cases h
theorem RJ(hx:ρ x=.string ⟨a.toArray⟩)(hu:P.underlying t=some .string):
  (Am ρ (.range t x) ty).run P w=.ok (.value (.pointer (some ⟨w.heap.size,0,none⟩))) (w.alloc (.stringIter ⟨a.toArray⟩ 0)):=by
 have e:Am ρ (.range t x) ty=(do pure (Next.value (<-Instr.range t (ρ x)))):=rfl;rw[e,hx];simp[Instr.range,run_underlying hu,Result.andThen]
theorem MD{b p:Nat}{s:ByteArray}(h:w.heap[b]? =some (.stringIter s p)):(getObj b).run P w=.ok (.stringIter s p) w:=by
 simp only[getObj,Sem.run,h]
theorem QN{b p:Nat}{s:ByteArray}{o':Obj}(h:w.heap[b]? =some (.stringIter s p)):(setObj b o').run P w=.ok () (Ct w b o'):=by
 simp only[setObj,Sem.run,h];rfl
theorem RK{b pos:Nat}(hx:ρ x=.pointer (some ⟨b,0,none⟩))(hb:w.heap[b]? =some (.stringIter ⟨a.toArray⟩ pos))(hp:decide (pos < a.length)=true):
  (Am ρ (.next x true) ty).run P w=.ok (.value (.tuple #[.bool true,.int .i64 (pos:Int),.int .i32 ((KB a pos).1:Int)])) (Ct w b (.stringIter ⟨a.toArray⟩ (pos + (KB a pos).2))):=by
 have hp':pos < a.length:=by simpa using hp
 have e:Am ρ (.next x true) ty=(do pure (Next.value (<-Instr.next (ρ x) true ty))):=rfl;rw[e,hx];simp[Instr.next,MD hb,QN hb,hp',Result.andThen,goInt,KB,ByteArray.size_mk']
theorem RL{b pos:Nat}(hx:ρ x=.pointer (some ⟨b,0,none⟩))(hb:w.heap[b]? =some (.stringIter ⟨a.toArray⟩ pos))(hp:decide (pos < a.length)=false):
  (Am ρ (.next x true) ty).run P w=.ok (.value (.tuple #[.bool false])) w:=by
 have hp':¬ pos < a.length:=by simpa using hp
 have e:Am ρ (.next x true) ty=(do pure (Next.value (<-Instr.next (ρ x) true ty))):=rfl;rw[e,hx];simp[Instr.next,MD hb,hp',Result.andThen,ByteArray.size_mk']
end
section
variable {P:Program} {ro:Option Nat} {n:Nat} {R:Array Oper} {Q:Exit -> Fr -> World -> Prop} {f:Fr} {i:Nat} {rest:List Nat} {dst:Option Nat} {ty:TypeId} {g:Option (Nat × Bool)}
variable {w0 w:World} {F0 F:Mem} {L:List (Option Nat × Obj)} {x:Operand} {a:X6} {t:TypeId}
theorem RWP.srange(ho:opq R i=some (dst,.range t x,ty,g))(hg:gd R f g=true)(hx:fev f x=.string ⟨a.toArray⟩)(hu:P.underlying t=some .string)
  (hs:HS w0 F0 w F L) (k:∀ b w',HS w0 F0 w' F ((some b,.stringIter ⟨a.toArray⟩ 0)::L)->RWP P ro n R Q rest (A1 f dst (.pointer (some ⟨b,0,none⟩))) w'):RWP P ro n R Q (i::rest) f w:=
 XF ho hg (RJ hx hu) (k _ _ (hs.alloc _))
theorem RWP.snext1{b pos k:Nat}(ho:opq R i=some (dst,.next x true,ty,g))(hg:gd R f g=true)(hx:fev f x=.pointer (some ⟨b,0,none⟩))(hs:HS w0 F0 w F L)
  (hk:L[k]? =some (some b,.stringIter ⟨a.toArray⟩ pos)) (hp:decide (pos < a.length)=true)
  (kk:∀ w',HS w0 F0 w' F (L.set k (some b,.stringIter ⟨a.toArray⟩ (pos + (KB a pos).2)))->RWP P ro n R Q rest (A1 f dst (.tuple #[.bool true,.int .i64 (pos:Int),.int .i32 ((KB a pos).1:Int)])) w'):RWP P ro n R Q (i::rest) f w:=
 XF ho hg (RK hx (hs.ownAt hk) hp) (kk _ (hs.put hk _))
theorem RWP.snext0{b pos k:Nat}(ho:opq R i=some (dst,.next x true,ty,g))(hg:gd R f g=true)(hx:fev f x=.pointer (some ⟨b,0,none⟩))(hs:HS w0 F0 w F L)
  (hk:L[k]? =some (some b,.stringIter ⟨a.toArray⟩ pos)) (hp:decide (pos < a.length)=false)
  (kk:RWP P ro n R Q rest (A1 f dst (.tuple #[.bool false])) w):RWP P ro n R Q (i::rest) f w:=
 XF ho hg (RL hx (hs.ownAt hk) hp) kk
end
section
open Go.ChangeShapes Go.WideShapes Go.ChangeAt Go.RowKit
def MG(W:World):Mem:=fun b=>W.heap[b]?
def SzW{H:Type}(P:Program)(t:TypeId)(d:DataW H):Prop:=(d.weights P t).all (· <=reachBytes)=true
theorem SzW.each{H:Type}{P:Program}{ts:List TypeId}{ds:List (DataW H)}(h:(DataW.weightsEach P ts ds).all (· <=reachBytes)=true){j:Nat}{t:TypeId}{d:DataW H}(ht:ts[j]? =some t)(hd:ds[j]? =some d):SzW P t d:=
 xQ.2 fun n hn=>xQ.1 h n (DataW.weights_mem_each ht hd n hn)
structure AY(P:Program)(t:TypeId){α:Type}(T:Ty α)(Q:α->Prop):Prop where
 op:∀{H:Type} {enc:TypeId×Value->H} {W:World} {fuel:Nat} {cs:List Value} {x:DataW H×List MemPlace},DataW.trod enc P W 0 (fun _=>true) true fuel t cs=some x->SzW P t x.1->∃ a,T.R (MG W) cs a/\Q a
 sz:P.cellsOf t=T.sz
def rI(x:Int):Prop:=-9223372036854775808<=x/\x<=9223372036854775807
theorem Cm{P:Program}{t:TypeId}(hu:P.underlying t=some (.int .i64))(hs:P.cellsOf t=1):AY P t AK rI:=
 ⟨fun h _=>by
  obtain⟨n,I,_,G⟩:=DataW.trod_int hu h;refine⟨n,I,?_⟩;simp only[Lit.wf,xA,decide_eq_true_eq]at G;have J:IntKind.min .i64= -9223372036854775808:=by decide
  have M:IntKind.max .i64=9223372036854775807:=by decide
  rw[J,M]at G;exact G,hs⟩
theorem KF{P:Program}{t:TypeId}(hu:P.underlying t=some .bool)(hs:P.cellsOf t=1):AY P t So (fun _=>True):=
 ⟨fun h _=>by
  obtain⟨n,G,_⟩:=DataW.trod_bool hu h;exact⟨n,G,trivial⟩,hs⟩
theorem MB{H:Type}{P:Program}{e:TypeId}:∀{ds:List (DataW H)} {d:DataW H},d∈ds->∀ n,n∈d.weights P e->n∈DataW.weightsAll P e ds
 | x::ds,d,hd,n,hn=>by
  simp only[DataW.weightsAll,yF];rcases xL.1 hd with rfl | hd
  ·exact .inl hn
  ·exact .inr (MB hd n hn)
def rS(l:X6):Prop:=l.length<=140737488351232
theorem Po{P:Program}{t:TypeId}(hu:P.underlying t=some .string)(hs:P.cellsOf t=1):AY P t AR rS:=
 ⟨fun h hw=>by
  obtain⟨s,G,I,_⟩:=DataW.trod_string hu h;refine⟨s.data.toList,by rw[G];show[Value.string s]=[Value.string ⟨s.data.toList.toArray⟩];simp,?_⟩;rw[I]at hw;have J:(s.data.toList.length<=reachBytes):=by
   unfold SzW at hw;simp only[DataW.weights,yX,List.all_nil,Bool.and_true,decide_eq_true_eq]at hw;exact hw
  exact J,hs⟩
theorem N1{α:Type}{f:Nat->Option α}{n:Nat}{l:List α}(h:(List.range n).mapM f=some l):l.length=n/\ ∀ i,i < n->f i=l[i]?:=by
 refine⟨by simpa using mapM_some_length h,fun i hi=>?_⟩;exact mapM_some_get h i i (by simp[hi])
theorem My(a:Addr)(n:Nat):(a.add n).block=a.block:=by unfold Addr.add;split <;> rfl
theorem S0(a:Addr)(n:Nat):(a.add n).off=a.off + n:=by unfold Addr.add;split <;> simp[*]
theorem UO{a:Addr}(h:a.spot=none)(n:Nat):(a.add n).spot=none:=by unfold Addr.add;split <;> first | exact h | rfl
theorem Rm{w:World}{a:Addr}{n:Nat}{cs:List Value}(h:w.cells? 0 a n=some cs)(hn:0 < n):
  ∃ C E fz,a.spot=none/\w.heap[a.block]? =some (.cells C E fz)/\Ap C a.off n=cs:=by
 unfold World.cells? at h;simp only[xV,if_true]at h;obtain⟨hl,hg⟩:=N1 h;have G:=hg 0 hn;have hlt:0 < cs.length:=by omega
 rw[xB hlt]at G;unfold World.cell? at G;split at G
 ·rename_i C E fz hb;split at G
  ·cases G
  ·rename_i hsp;have I:a.add 0=a:=by unfold Addr.add;simp
   rw[I]at hsp hb;have hsp':a.spot=none:=by
    cases hs:a.spot with
    | none=>rfl
    | some x=>simp[hs]at hsp
   have hb':w.heap[a.block]? =some (.cells C E fz):=hb;refine⟨C,E,fz,hsp',hb',?_⟩;unfold Ap;apply zU;intro i;by_cases hi:i < n
   ·have:=hg i hi;unfold World.cell? at this;rw[My,hb']at this;simp only[S0,UO hsp',Option.isSome_none,xR,if_false]at this;rw[<-this];simp[wF,hi,yR]
   ·rw[wF,if_neg hi,xG (by omega)]
 ·cases G
theorem ML{α:Type}{R:Nat->α->Prop}:∀{n:Nat},(∀ i,i < n->∃ x,R i x)->∃ l:List α,l.length=n/\ ∀ i x,l[i]? =some x->R i x
 | 0,_=>⟨[],rfl,fun i x h=>by simp at h⟩
 | n + 1,h=>by
  obtain⟨l,G,I⟩:=ML (n:=n) (fun i hi=>h i (by omega));obtain⟨x,hx⟩:=h n (by omega);refine⟨l++[x],by simp[G],fun i y hy=>?_⟩;rcases xM i l.length with hlt | hge
  ·rw[yT hlt]at hy;exact I i y hy
  ·rw[yQ hge]at hy;have:i - l.length=0:=by
    rcases wD (i - l.length)with h | h
    ·exact h
    ·rw[xG (by simp;omega)]at hy;cases hy
   rw[this]at hy;simp at hy;subst hy;have:i=n:=by omega
   rw[this];exact hx
theorem Jc{P:Program}{t e:TypeId}{α:Type}{T:Ty α}{Q:α->Prop}(he:AY P e T Q)(hpos:0 < T.sz)(hu:P.underlying t=some (.slice e))(hs:P.cellsOf t=1):
  AY P t (tSl T) (fun l=>l.length < 9223372036854775808/\ ∀ x,x∈l->Q x):=by
 refine⟨fun{H enc W fuel cs x} h hw=>?_,hs⟩;rcases DataW.trod_slice hu h with⟨G,_⟩ | ⟨a,len,cap,elems,rest,n,_,G,hx,_,h2,J,h4,M,_,_⟩
 ·exact⟨[],⟨none,0,G,XM (α:=α),.inl rfl⟩,by simp,fun x hx=>by cases hx⟩
 have h3':cap<=9223372036854775807:=J;have hcell:∀ i,i < len->∃ csi y,W.cells? 0 (a.add (i * T.sz)) T.sz=some csi/\DataW.trod enc P W 0 (fun _=>true) true n e csi=some y/\SzW P e y.1:=by
  intro i hi;have hsz:∀ y,elems[i]? =some y->SzW P e y.1:=fun y hy=>by
   rw[hx]at hw;unfold SzW at hw ⊢;simp only[DataW.weights,hu,yX,xA,zI]at hw;exact xQ.2 fun m hm=>xQ.1 hw.2.1 m (MB (List.mem_map.2 ⟨y,yH hy,rfl⟩) m hm)
  have:=M i hi;rw[he.sz]at this;have hlt:i < elems.length:=by omega
  rw[xB hlt]at this;cases hc:W.cells? 0 (a.add (i * T.sz)) T.sz with
  | none=>rw[hc]at this;cases this
  | some csi=>rw[hc]at this;exact⟨csi,_,rfl,this,hsz _ (xB hlt)⟩
 obtain⟨l,hl,hR⟩:=ML (R:=fun i (x:α)=>∃ csi,W.cells? 0 (a.add (i * T.sz)) T.sz=some csi/\T.R (MG W) csi x/\Q x) (n:=len) (fun i hi=>by
  obtain⟨csi,y,hc,ht,hsy⟩:=hcell i hi;obtain⟨z,hz,hq⟩:=he.op ht hsy;exact⟨z,csi,hc,hz,hq⟩)
 refine⟨l,⟨some a,cap,by rw[hl];exact G,⟨by omega,by omega⟩,?_⟩,by omega,fun x hx=>?_⟩
 ·rcases wD len with h0 | hp
  ·exact .inl (List.length_eq_zero_iff.1 (by omega))
  ·right
   obtain⟨csi,y,hc,_,_⟩:=hcell 0 hp;obtain⟨C,E,fz,hsp,hb,_⟩:=Rm hc hpos;have hb':W.heap[a.block]? =some (.cells C E fz):=by rw[My]at hb;exact hb
   have hsp':a.spot=none:=by rw[Nat.zero_mul]at hsp;have O:a.add 0=a:=by {unfold Addr.add;simp};rw[O]at hsp;exact hsp
   refine⟨a.block,a.off,C,E,fz,by obtain⟨_,_,_⟩:=a;simp only at hsp';subst hsp';rfl,hb',fun i x hx=>?_⟩;obtain⟨csi,hc,hz,_⟩:=hR i x hx;obtain⟨C',E',fz',_,I,hcs⟩:=Rm hc hpos;have hb2':W.heap[a.block]? =some (.cells C' E' fz'):=by rw[My]at I;exact I
   rw[hb']at hb2';cases hb2';rw[S0]at hcs;rw[hcs];exact hz
 ·obtain⟨i,hi,rfl⟩:=List.getElem_of_mem hx;obtain⟨_,_,_,hq⟩:=hR i _ (xB hi);exact hq
theorem NJ{H:Type}{enc:TypeId×Value->H}{P:Program}{W:World}{fuel:Nat}{t:TypeId}{cs:List Value}{x:DataW H×List MemPlace}{fs:Array Field}(hu:P.underlying t=some (.struct fs))
  (h:DataW.trod enc P W 0 (fun _=>true) true fuel t cs=some x):cs.length=P.cellsOf t/\ ∀(i:Nat)(f:Field),fs[i]? =some f->∃ n y,DataW.trod enc P W 0 (fun _=>true) true n f.type ((cs.drop f.offset).take (P.cellsOf f.type))=some y/\(SzW P t x.1->SzW P f.type y.1):=by
 obtain⟨xs,n,rfl,rfl,hlen,hxl,hf⟩:=DataW.trod_struct hu h;refine⟨hlen,fun i f hi=>?_⟩;have hlt:i < xs.length:=by
  rw[hxl];rcases xM i fs.size with h' | h'
  ·exact h'
  ·rw[wH h']at hi;cases hi
 have:=hf i f hi;rw[xB hlt]at this;refine⟨n,_,this,fun hw=>?_⟩;unfold SzW at hw;simp only[DataW.weights,hu]at hw;refine SzW.each hw (j:=i) ?_ ?_
 ·rw[zV,yP,hi];rfl
 ·rw[zV,xB hlt];rfl
def fieldAt(P:Program)(t:TypeId)(i:Nat):Option (TypeId×Nat):=match P.underlying t with
 | some (.struct fs)=>(fs[i]?).map fun f=>(f.type,f.offset)
 | _=>none
theorem AY.field{P:Program}{t e:TypeId}{α:Type}{T:Ty α}{Q:α->Prop}(o:AY P e T Q){i off:Nat}(hf:fieldAt P t i=some (e,off))
  {H:Type} {enc:TypeId×Value->H} {W:World} {fuel:Nat} {cs:List Value} {x:DataW H×List MemPlace}
  (h:DataW.trod enc P W 0 (fun _=>true) true fuel t cs=some x) (hw:SzW P t x.1):∃ a,T.R (MG W) ((cs.drop off).take T.sz) a/\Q a:=by
 unfold fieldAt at hf;cases hu:P.underlying t with
 | none=>rw[hu]at hf;cases hf
 | some k=>
  rw[hu]at hf;cases k <;> simp only at hf <;> first | cases hf | skip
  rename_i fs;cases hi:fs[i]? with
  | none=>rw[hi]at hf;cases hf
  | some f=>
   rw[hi]at hf;simp only[wM,xI,Prod.mk.injEq]at hf;obtain⟨rfl,rfl⟩:=hf;obtain⟨n,y,hy,hz⟩:=(NJ hu h).2 i f hi;rw[o.sz]at hy;exact o.op hy (hz hw)
theorem Fp{P:Program}{t:TypeId}{k:Nat}(hs:(match P.underlying t with | some (.struct _)=>P.cellsOf t | _=>0)=k)(hk:0 < k)
  {H:Type} {enc:TypeId×Value->H} {W:World} {fuel:Nat} {cs:List Value} {x:DataW H×List MemPlace}
  (h:DataW.trod enc P W 0 (fun _=>true) true fuel t cs=some x):cs.length=k:=by
 cases hu:P.underlying t with
 | none=>simp only[hu]at hs;omega
 | some q=>
  simp only[hu]at hs;cases q <;> simp only at hs <;> first | omega | skip
  rw[<-hs];exact(NJ hu h).1
theorem AY.agg{P:Program}{t:TypeId}{α:Type}{T:Ty α}{Q:α->Prop}(o:AY P t T Q)(hs:(match P.underlying t with | some (.struct _)=>true | _=>false)=true)
  {H:Type} {enc:TypeId×Value->H} {W:World} {r:Reach} {G:Nat} {v:Value} {d:DataW H} {ps:List MemPlace} (hv:Value.okWide P W r G t v) (h:DataW.Trod enc P W 0 (fun _=>true) true t v d ps) (hw:SzW P t d):
  ∃ cs a,v=.agg cs/\T.R (MG W) cs.toList a/\Q a:=by
 cases hu:P.underlying t with
 | none=>simp[hu]at hs
 | some q=>
  cases q <;> simp[hu]at hs;obtain⟨cs,rfl,_⟩:=okWide_struct hu hv;obtain⟨n,hn⟩:=h;obtain⟨a,I,J⟩:=o.op hn hw;exact⟨cs,a,rfl,I,J⟩
theorem Kg{P:Program}(hl:laidOutB P=true){H:Type}{enc:TypeId×Value->H}{W W':World}{sp:Nat->Bool}:∀{ts:List TypeId} {vs:List Value} {ds:List (DataW H)} {ps:List MemPlace},
  (∀ t,t∈ts->P.readableRec t=true/\t < P.types.size)->DataW.TrodAll enc P W 0 (fun _=>true) true ts vs ds ps->(∀ p,p∈ps->W.sameAt W' p)->(∀ p,p∈ps->sp p.block=true)->DataW.TrodAll enc P W' 0 sp true ts vs ds ps
 | [],[],[],_,_,h,_,_=>h
 | t::ts,v::vs,d::ds,_,hT,⟨p,q,J,M,e⟩,G,I=>by
  subst e;obtain⟨O,U⟩:=hT t (yD ..);exact⟨p,q,Go.WideElems.Trod_stays hl O U J (fun x hx=>G x (List.mem_append_left _ hx)) (fun x hx=>I x (List.mem_append_left _ hx)),
   Kg hl (fun x hx=>hT x (xD _ hx)) M (fun x hx=>G x (List.mem_append_right _ hx)) (fun x hx=>I x (List.mem_append_right _ hx)),rfl⟩
theorem RV{P:Program}(hl:laidOutB P=true){f:Func}{s:ChangeSpec}{H:Type}{enc:TypeId×Value->H}{W W':World}{F:Mem}{args:Array Value}{ds gs:List (DataW H)}{before:List MemPlace}{tb:TypeId}
  (hT:∀ t,t∈f.params.toList->P.readableRec t=true/\t < P.types.size) (hv:s.vars=[]) (hW:DataW.Whole enc P f.params.toList s.vars false W args.toList ds gs before) (hr:f.resultTypes=#[tb]) (htb:P.underlying tb=some .bool)
  (hfn:gs=[]->s.fn H ds={results:=[.lit (.bool true)],args:=ds}) (hs:HS W (MG W) W' F []):
  s.post enc P f false true false false W args (.bool true) W':=by
 obtain⟨p,q,hA,hV,rfl,hz,hnd⟩:=hW;have hW:DataW.Whole enc P f.params.toList s.vars false W args.toList ds gs (p++q):=⟨p,q,hA,hV,rfl,hz,hnd⟩;have hlt:=hA.lt;rw[hv]at hV;obtain⟨rfl,rfl⟩:=trodVars_none hV;have he:=hfn rfl;have hsame:∀ b,b < W.heap.size->W'.heap[b]? =W.heap[b]?:=hs.keep;refine⟨ds,[],p++[],[],p,[],hW,?_,?_,?_,?_,fun h=>by cases h⟩
 ·rw[hr,wG,he];exact trodAll_mk1 (shut_bool htb _)
 ·rw[wG,he];refine Kg hl hT hA (fun x hx=>?_) (fun x hx=>by simpa using hlt x hx);have hb:=hlt x hx;cases x with
  | cell b off=>simp only[World.sameAt,World.cell?];rw[hsame b hb]
  | map b=>exact hsame b hb
 ·rw[hv,wG,he];rfl
 ·refine⟨hs.fix.1,hs.fix.2.1,fun i hi=>?_⟩;rw[hsame i hi];cases hc:W.heap[i]? with
  | none=>simp
  | some o=>cases o <;> simp
end
theorem Ra{a:X6}{i:Nat}{b:UInt8}(h:a[i]? =some b):(⟨a.toArray⟩:ByteArray).get! i=b:=by
 have hl:i < a.length:=by
  rcases xM i a.length with h' | h'
  ·exact h'
  ·rw[xG h']at h;cases h
 rw[xB hl]at h;have:=xW h;simp[ByteArray.get!,hl,this]
theorem NN{a:X6}{i:Nat}{b:UInt8}(h:a[i]? =some b)(hb:b.toNat < 128):KB a i=(b.toNat,1):=by
 have G:(⟨a.toArray⟩:ByteArray).get! (i + 0)=b:=Ra h;unfold KB Utf8.decode;simp only[G,hb,if_true]
theorem RI{a:X6}{i:Nat}{b:UInt8}(h:a[i]? =some b)(hb:128<=b.toNat):128<=(KB a i).1/\1<=(KB a i).2:=by
 have G:(⟨a.toArray⟩:ByteArray).get! (i + 0)=b:=Ra h;unfold KB Utf8.decode;have hn:¬ b.toNat < 128:=by omega
 simp only[G,hn,if_false,Utf8.runeError]
 repeat' split
 all_goals first
  | exact⟨by decide,by decide⟩
  | (rename_i hq;simp only[ge_iff_le,xA,decide_eq_true_eq]at hq;exact⟨by show 128<=_;omega,by show 1<=_;omega⟩)
theorem I4{a:X6}{lo hi:Nat}(h1:lo<=hi)(h2:hi<=a.length):K1 a (lo:Int) (hi:Int)=some ((a.drop lo).take (hi - lo)):=by
 unfold K1;rw[if_pos ⟨by omega,by omega,by omega⟩];simp
theorem GE{a:X6}{i:Nat}(h:i < a.length):K4 a (i:Int)=some ((a[i]).toNat:Int):=by
 unfold K4;rw[if_pos (by omega)];simp[h]
theorem JO{a b:X6}(h:a.length + b.length<=9223372036854775807):EB a b=some (a++b):=if_pos h
section
open Go.RowKit
theorem HS.below{w w':World}{F:Mem}(hF:∀ b o,F b=some o->w.heap[b]? =some o)(h:Below w.heap.size w w'):HS w F w' F []:=
 ⟨hF,⟨h.os,h.output,h.tape⟩,h.size,h.block,fun _ _=>rfl,(fun b o hb=>by rw[h.block b (Be (hF b o hb))];exact hF b o hb),(fun _ _ h=>by cases h),wI⟩
theorem AD.below{P:Program}{fid:FuncId}{args:Array Value}{w:World}{F:Mem}{v:Value}{post:Mem->Value->Prop}(hF:∀ b o,F b=some o->w.heap[b]? =some o)
  (h:Calls P fid args w fun e w'=>e=.returned v/\Below w.heap.size w w') (hp:post F v):Calls P fid args w (AD w F post):=
 h.mono fun _ w' ⟨he,hb⟩=>⟨v,F,he,HS.below hF hb,hp⟩
abbrev X3:=@AD.below
theorem Ru(w:World)(n:Nat):Below w.heap.size w (w.drewN n):=⟨rfl,rfl,rfl,xN _,fun _ _=>rfl⟩
theorem Below.pers{w w':World}{F:Mem}(hF:∀ b o,F b=some o->w.heap[b]? =some o)(h:Below w.heap.size w w'):∀ b o,F b=some o->w'.heap[b]? =some o:=(HS.below hF h).pers
theorem AD.strs{P:Program}{fid:FuncId}{args:Array Value}{w:World}{F:Mem}{t:TypeId}{n:Nat}{l:List ByteArray}(hF:∀ b o,F b=some o->w.heap[b]? =some o)
  (h:Calls P fid args w fun e w'=>e=.returned (.slice (some ⟨w.heap.size,0,none⟩) n n)/\w'=w.alloc (.cells (l.map Value.string).toArray t)) (hn:l.length=n) (hlt:n < 9223372036854775808):
  Calls P fid args w (AD w F fun F' v=>∃(a:X7)(c:Nat),v=.slice a (l.map (·.data.toList)).length c/\LC (l.map (·.data.toList)).length c/\SlA AR F' a (l.map (·.data.toList))):=by
 refine h.mono ?_;rintro e w' ⟨rfl,rfl⟩;have hs:=(XK hF).alloc (.cells (l.map Value.string).toArray t);obtain⟨G,h2⟩:=hs.freeze (k:=0) rfl;refine⟨_,_,rfl,G,some ⟨w.heap.size,0,none⟩,n,?_,?_,.inr ⟨w.heap.size,0,(l.map Value.string).toArray,t,(0,0),rfl,Mz _ _ _,fun i x hx=>?_⟩⟩
 ·simp[hn]
 ·exact⟨by simp[hn],by simp[hn];exact hlt⟩
 ·show Ap _ (0 + i * 1) 1=[.string ⟨x.toArray⟩];rw[zV]at hx;cases hl:l[i]? with
  | none=>rw[hl]at hx;cases hx
  | some s=>
   rw[hl]at hx;cases hx;unfold Ap;have hi:i < l.length:=by
    rcases xM i l.length with h' | h'
    ·exact h'
    ·rw[xG h']at hl;cases hl
   simp only[wA,Nat.mul_one,List.toList_toArray];rw[xS (by simpa using hi),List.take_succ_cons,List.take_zero];rw[xB hi]at hl;have:=xW hl;simp[this]
def Xh(b:Bool)(v:Value):Prop:=match b with
 | true=>∃ t x,v=.iface t x
 | false=>v=.nilIface
theorem CJ{P:Program}{w:World}{ρ:Operand->Value}{ty:TypeId}{x:Operand}{a:Addr}(hx:ρ x=.pointer (some a)):(Am ρ (.nilCheck x) ty).run P w=.ok (.value (.pointer (some a))) w:=by
 unfold Am execOp;simp only[hx];rfl
theorem Wc{s:Sem Next}{P:Program}{w w':World}{v v1:Value}(e:v=v1)(h:s.run P w=.ok (.value v) w'):s.run P w=.ok (.value v1) w':=e ▸ h
section
variable {P:Program} {ro:Option Nat} {n:Nat} {Q:Exit -> Fr -> World -> Prop}
def URL(P:Program)(ro:Option Nat)(n:Nat)(c:Code)(Q:Exit->Fr->World->Prop):Nat->Fr->World->Prop
 | 0,_,_=>False
 | m + 1,f,w=>CWP P ro n (cbd c) (IE (URL P ro n c Q m) Q) f w
theorem URL.step{c:Code}{m:Nat}{f:Fr}{w:World}(h:CWP P ro n (cbd c) (IE (URL P ro n c Q m) Q) f w):URL P ro n c Q (m + 1) f w:=h
theorem CWP.unroll{c:Code}(hk:kin c=6)(m:Nat){f:Fr}{w:World}(h:URL P ro n c Q m f w):CWP P ro n c Q f w:=by
 refine XH hk (fun m f w=>URL P ro n c Q m f w) m h ?_;intro m f w h;cases m with
 | zero=>exact h.elim
 | succ m=>
  refine CWP.mono (show CWP P ro n (cbd c) (IE (URL P ro n c Q m) Q) f w from h) ?_;intro e f' w' hq;cases e <;> first | exact hq | exact⟨m,xF _,hq⟩
end
end
section
open Go.RowKit Go.Sort
section
variable {wb w w':World} {Fb F:Mem} {L Lf:List (Option Nat × Obj)} {α:Type} {T:Ty α} {E:TypeId} {a:X7} {cap:Nat} {l:List α} {e:Option Nat × Obj} {enc:α -> Value}
theorem HS.later(h:HS wb Fb w F L)(hb:Below w.heap.size w w'):HS wb Fb w' F L:=
 h.call (HS.below h.pers hb)
theorem Jz{C:Array Value}{i:Nat}{v:Value}:Ap C i 1=[v] ↔ C[i]? =some v:=by
 unfold Ap;rcases xM i C.size with h | h
 ·rw[xS (by simpa using h)];simp[h]
 ·rw[yA (by simpa using h)];simp[h]
end
end
section
variable {P:Program} {n:Nat} {R:Array Oper} {Q:Exit -> Fr -> World -> Prop} {w w0:World} {F0 F:Mem} {L:Own} {f:Fr} {i:Nat} {rest:List Nat} {dst:Option Nat} {ty:TypeId} {g:Option (Nat × Bool)} {ρ:Operand -> Value}
def UI{σ α:Type}(lp:σ->α->Option (σ×Bool)):σ×Bool->α->Option (Bool×(σ×Bool)):=fun s x=>bif s.2 then(lp s.1 x).map fun t=>(t.2,t)else none
theorem Mw{σ α:Type}{lp:σ->α->Option (σ×Bool)}{s:σ×Bool}{x:α}{q:Bool×(σ×Bool)}(h:UI lp s x=some q):s.2=true/\q.1=q.2.2/\lp s.1 x=some q.2:=by
 unfold UI at h;cases hs:s.2 with
 | false=>rw[hs]at h;cases h
 | true=>
  rw[hs]at h;simp only[cT]at h;cases hl:lp s.1 x with
  | none=>rw[hl]at h;cases h
  | some t=>rw[hl]at h;cases h;exact⟨rfl,rfl,rfl⟩
end
def Xo:Ty Value:=⟨1,false,fun _ cs x=>cs=[x],fun h=>by subst h;rfl,fun _ h=>h,rfl⟩
section
variable {κ α:Type} [DecidableEq κ] {K:Ty κ} {T:Ty α} {E:TypeId} {wb w:World} {Fb F:Mem}
def Grp(T:Ty α)(E:TypeId)(F:Mem):List (κ×List α)->List (κ×Value)->Own->Prop
 | [],[],Rs=>∀ p,p∈Rs->p.1=none
 | p::g,q::l,Rs=>p.1=q.1/\ ∃ a c e R',q.2=.slice a p.2.length c/\Ak T E F a c p.2 e/\Rs=e::R'/\Grp T E F g l R'
 | _,_,_=>False
theorem Grp.mono{F':Mem}(hl:XI F F'):∀{g:List (κ×List α)} {l:List (κ×Value)} {Rs:Own},Grp T E F g l Rs->Grp T E F' g l Rs
 | [],[],_,h=>h
 | _::_,_::_,_,⟨G,a,c,e,R',I,J,M,O⟩=>⟨G,a,c,e,R',I,J.mono hl,M,Grp.mono hl O⟩
 | [],_::_,_,h=>h.elim
 | _::_,[],_,h=>h.elim
def Xg(K:Ty κ)(T:Ty α)(E:TypeId)(b:Nat)(g:List (κ×List α))(F:Mem)(Lf:Own):Prop:=∃ l e Rs,Lf=e::Rs/\Bg K Xo F b l e/\Grp T E F g l Rs
theorem Xg.mono{b:Nat}:PG (Xg K T E b):=fun g F F' L ⟨l,e,Rs,G,I,J⟩ hl=>⟨l,e,Rs,G,I.mono hl,Grp.mono hl J⟩
end
def Fh(wb:World)(Fb F0:Mem)(post:Mem->Value->Own->Prop):Ending->World->Prop:=
 fun e w'=>∃ F' v L',e=.returned v/\HS wb Fb w' F' L'/\XI F0 F'/\post F' v L'
section
variable {P:Program} {n:Nat} {R:Array Oper} {Q:Exit -> Fr -> World -> Prop} {w wb:World} {Fb F:Mem} {f:Fr} {i:Nat} {rest:List Nat} {dst:Option Nat} {ty:TypeId} {g:Option (Nat × Bool)}
variable {ro:Option Nat} {f0:Operand} {aos:Array Operand} {ats:Array TypeId} {fid:FuncId} {first cap:Array Value} {args:List Value}
section
variable {PQ:List PanicEntry -> List Deferred -> World -> Prop} {Post:Fr -> World -> Prop} {z fuel:Nat} {l l':List Bool} {zd:Bool} {Fs:Mem} {Lc Lz:Own}
theorem Ax.callB{post:Mem->Value->Own->Prop}(hl:l.set i true=l')(hzd:l'.toArray.getD z true=zd)
  (ho:opq R i=some (dst,.call {callee:=.value f0,args:=aos,argTypes:=ats},ty,g)) (hg:gd R f g=true) (hf:fev f f0=.func (.func fid) first cap) (hok:Ag P fid)
  (ha:first.toList++aos.toList.map (fev f)++cap.toList=args) (hc:Calls P fid args.toArray w (Fh wb Fb F post))
  (k:∀ v F1 w1 L',HS wb Fb w1 F1 L'->XI F F1->post F1 v L'->DZ Fs Lc Lz zd w1/\DWP P n R PQ Post z (DZ Fs Lc Lz) fuel l' (A1 f dst v) w1):Ax P n R PQ Post z (DZ Fs Lc Lz) fuel l i f w:=by
 intro hokR hns hS a haf;obtain⟨o,hR,hd,hop,hty,hgd⟩:=CK ho;unfold GZ wpOpIn;simp only[hR];rw[haf.wanted R o,hgd,hg];simp only[if_true];refine⟨Bp,?_⟩;show o.uponIn (FW none) 0 P a _ _ ((execOp a.eval o).run P w);rw[CE,haf.evalF,hop,hty,Ek hf hok ha];simp only[Oper.uponIn];refine⟨(fun h=>by cases h),(EG hc).mono ?_⟩;rintro e w' ⟨F',r,L',rfl,G,I,J⟩;simp only;rw[hl,hd,hzd];obtain⟨hS',hk⟩:=k r F' w' L' G I J;exact⟨hS',hk hokR hns (by rw[hzd];exact hS') _ (haf.put (by rw[<-hd];exact Ew hokR hR) r)⟩
end
end
section
variable {P:Program} {w:World} {ρ:Operand -> Value} {ty:TypeId} {t t':TypeId} {x:Operand} {c:Value} {b:Bool} {v:Value}
theorem RQ(he:Xh b v)(hx:ρ x=v)(hc:ρ (.const c)=.nilIface)(ht:P.underlying t=some (.interface (P.methodsAt t))):(Am ρ (.binOp .eql t x (.const c) t') ty).run P w=.ok (.value (.bool (!b))) w:=by
 have e:Am ρ (.binOp .eql t x (.const c) t') ty=(do pure (Next.value (<-(do eqGuard .eql t x (.const c) (ρ x) (ρ (.const c));binOp .eql t (ρ x) (ρ (.const c)))))):=rfl;rw[e,hx,hc];cases b with
 | false=>
  have:v=.nilIface:=he;subst this;simp only[eqGuard_nil_constR,xE,xH,xC,run_eql_nil_nil w t ht];rfl
 | true=>
  obtain⟨d,z,rfl⟩:=he;have hg:eqGuard .eql t x (.const c) (.iface d z) .nilIface=pure ():=rfl;simp only[hg,xE,xH,xC,run_eql_held_nil w t d z ht];rfl
end
section
variable {P:Program} {w:World} {k:TypeId} {d:TypeDesc}
theorem Lr(hs:∀(x y:Value)(b:Bool),Instr.sameNow d x y=some b->(Op.equal k x y).run P w=.ok b w)(kv:Value):∀(es:List MapEntry)(i:Nat)(r:Option (Nat×Value)),Instr.findNow d kv es i=some r->(Instr.findAsking k kv es i).run P w=.ok r w
 | [],i,r,h=>by simp only[Instr.findNow,xI]at h;subst h;simp[Instr.findAsking]
 | e::es,i,r,h=>by
  unfold Instr.findNow at h;cases hn:Instr.sameNow d kv e.key with
  | none=>rw[hn]at h;cases h
  | some b=>
   rw[hn]at h;have he:=hs _ _ _ hn;cases b with
   | true=>simp only[xI]at h;subst h;simp[Instr.findAsking,he]
   | false=>simp only at h;have:=Lr hs kv es (i + 1) r h;simp[Instr.findAsking,he,this]
theorem Qh(hu:P.underlying k=some d)(hs:∀(x y:Value)(b:Bool),Instr.sameNow d x y=some b->(Op.equal k x y).run P w=.ok b w)(kv:Value)(es:List MapEntry):(Instr.findKey k kv es).run P w=(Instr.findAsking k kv es).run P w:=by
 unfold Instr.findKey;rw[xE,run_underlying hu];simp only[xC];cases h:Instr.findNow d kv es 0 with
 | none=>rfl
 | some r=>simp only[xH];exact(Lr hs kv es 0 r h).symm
theorem KL.ofString(hu:P.underlying k=some .string):KL P k AR where
 check:=fun w em F v x h=>by obtain⟨_,rfl,rfl⟩:=h;exact MapKept.run_checkKey hu (k:=.string _) trivial em _
 equal:=fun w F v u x y h1 h2=>by
  obtain⟨_,rfl,rfl⟩:=h1;obtain⟨_,rfl,rfl⟩:=h2;have h:=run_equalIn_string (P:=P) w 9999 k ⟨x.toArray⟩ ⟨y.toArray⟩ hu;rw[ByteArray.toList_eq,ByteArray.toList_eq]at h;have e:decide (x=y)=((⟨x.toArray⟩:ByteArray).data.toList==(⟨y.toArray⟩:ByteArray).data.toList):=by
   rw[yS,decide_eq_true_eq];simp
  rw[e];exact h
 same:=fun h1 h2=>by obtain⟨_,rfl,rfl⟩:=h1;obtain⟨_,rfl,rfl⟩:=h2;rfl
 stays:=fun w F v x h=>by obtain⟨_,rfl,rfl⟩:=h;exact MapKept.run_keyThatStays (d:=.string) (k:=.string _) trivial
 asks:=fun w F v x es h=>Qh hu (fun x y b hb=>by
  cases x <;> cases y <;> simp only[Instr.sameNow,xI,reduceCtorEq]at hb;rename_i s1 s2;subst hb;rw[beq_toListBytes];exact run_equalIn_string (P:=P) w 9999 k s1 s2 hu) _ _
end
section
variable {α:Type} {T:Ty α} {E:TypeId} {P:Program} {w w0:World} {F0 F:Mem} {L:Own} {f:Fr} {ty:TypeId}
theorem OR{ρ:Operand->Value}{x:Operand}{ats:Array TypeId}{t E:TypeId}{s by_:Nat}{a:X7}{n c:Nat}(hx:ρ x=.slice a n c)(ht:ats[0]? =some t)(he:A2 P t=some (E,s,by_)):
  (Am ρ (.call {callee:=.builtin .cap,args:=#[x],argTypes:=ats}) ty).run P w=.ok (.value (.int .i64 (c:Int))) w:=by
 unfold A2 at he;split at he
 ·rename_i e hu;have G:Am ρ (.call {callee:=.builtin .cap,args:=#[x],argTypes:=ats}) ty=(do pure (Next.value (<-Builtin.cap_ ats ty (Array.map ρ #[x])))):=rfl;rw[G,map_toArray];simp only[yY,zD,hx];simp only[Builtin.cap_,ht,xE,yO,yB,run_underlying hu,xC,xH,goInt]
 ·cases he
def SP(P:Program)(t:TypeId):Bool:=match P.underlying t with | some (.int _)=>true | _=>false
theorem R5{t:TypeId}(h:SP P t=true):∃ k,P.underlying t=some (.int k):=by
 unfold SP at h;split at h
 ·rename_i k hk;exact⟨k,hk⟩
 ·cases h
end
def Bw(F:Mem):Prop:=∀ w:World,(∀ b o,F b=some o->w.heap[b]? =some o)->
 Go.Lib.TabIs Tryz.prog w "internal/strconv.uint64pow10" .u64 Go.Lib.pow10Tab/\Go.Lib.Utf8Tabs 4 5 w/\(∃ m,w.cell? ⟨0,0,none⟩=some (.int .i64 m))/\(∃ tp p,w.var? Tryz.prog "strconv.ErrRange" =some #[.iface tp p])/\ ∃ tp p,w.var? Tryz.prog "strconv.ErrSyntax" =some #[.iface tp p]
theorem Bw.mono{F F':Mem}(h:Bw F)(hl:XI F F'):Bw F':=fun w hF=>h w fun b o hb=>hF b o (hl b o hb)
end Go.Proofs.YthljkpeimofbbaaGreatDoor
namespace Go.Proofs
open Go.Shelf
theorem cS{α:Type _}{a b:α}(h:a=b:=by kernel_rfl):some a=some b:=congrArg some h
def Tryz.lays169_ren:Go.Shelf.Ren:=⟨fun | 169=>91 | n=>n,fun | 70=>102 | 9=>9 | 0=>0 | 72=>105 | 37=>103 | 127=>196 | 3=>3 | 5=>5 | n=>n,fun | n=>n⟩
theorem Tryz.lays169:Go.Proofs.Lays.n169 Tryz.prog Tryz.lays169_ren:={
 mixed:=by kernel_rfl
 f169:=Tryz.func91.trans cS
 t0:=Tryz.underlying0
 a0:=Tryz.isAgg0
 z0:=Tryz.sizeOf0
 v0:=Tryz.zeroValue0
 t3:=Tryz.underlying3
 a3:=Tryz.isAgg3
 z3:=Tryz.sizeOf3
 v3:=Tryz.zeroValue3
 t9:=Tryz.underlying9
 a9:=Tryz.isAgg9
 z9:=Tryz.sizeOf9
 v9:=Tryz.zeroValue9
 t37:=Tryz.underlying103
 a37:=Tryz.isAgg103
 z37:=Tryz.sizeOf103
 v37:=Tryz.zeroValue103
 t70:=Tryz.underlying102
 a70:=Tryz.isAgg102
 z70:=Tryz.sizeOf102
 v70:=Tryz.zeroValue102
 t72:=Tryz.underlying105
 a72:=Tryz.isAgg105
 z72:=Tryz.sizeOf105
 v72:=Tryz.zeroValue105
 t127:=Tryz.underlying196
 a127:=Tryz.isAgg196
 z127:=Tryz.sizeOf196
 v127:=Tryz.zeroValue196}
theorem Tryz.Builder_Extra_169:Builder.Extra Tryz.prog Tryz.lays169_ren:={
 sizeBuilder:=by kernel_rfl
 liesBuilder:=by kernel_rfl
 t5:=Tryz.underlying5
 a5:=Tryz.isAgg5
 z5:=Tryz.sizeOf5
 v5:=Tryz.zeroValue5
 infoByte:=by kernel_rfl
 cellsByte:=by kernel_rfl
 sizeByte:=by kernel_rfl
 neB5:=by decide}
open Go.RowKit in
theorem Tryz.Builder_String_any(B b:Nat)(l:List UInt8)(w:World)(h:Lib.IsBuilder 105 5 B b (Lib.byteCells l) w)(hBw:B<=w.heap.size):
  Calls Tryz.prog 91 #[.pointer (some ⟨b,0,none⟩)] w fun e w'=>e=.returned (.string ⟨l.toArray⟩)/\Below B w w':=Any.Builder_String_any Tryz.lays169 Tryz.Builder_Extra_169 B b l w h hBw
def Tryz.lays156_ren:Go.Shelf.Ren:=⟨fun | 156=>84 | 165=>148 | 166=>90 | 169=>91 | 240=>161 | 241=>187 | 276=>192 | 277=>236 | n=>n,fun | 31=>55 | 9=>9 | 3=>3 | 4=>4 | 0=>0 | 20=>20 | 72=>105 | 76=>114 | 70=>102 | 37=>103 | 75=>113 | 127=>196 | 164=>235 | 5=>5 | 80=>116 | n=>n,fun | n=>n⟩
theorem Tryz.lays156:Go.Proofs.Lays.n156 Tryz.prog Tryz.lays156_ren:={
 mixed:=by kernel_rfl
 f156:=Tryz.func84.trans cS
 f165:=Tryz.func148.trans cS
 f166:=Tryz.func90.trans cS
 f169:=Tryz.func91.trans cS
 f240:=Tryz.func161.trans cS
 f241:=Tryz.func187.trans cS
 f276:=Tryz.func192.trans cS
 f277:=Tryz.func236.trans cS
 t0:=Tryz.underlying0
 a0:=Tryz.isAgg0
 z0:=Tryz.sizeOf0
 v0:=Tryz.zeroValue0
 t3:=Tryz.underlying3
 a3:=Tryz.isAgg3
 z3:=Tryz.sizeOf3
 v3:=Tryz.zeroValue3
 t4:=Tryz.underlying4
 a4:=Tryz.isAgg4
 z4:=Tryz.sizeOf4
 v4:=Tryz.zeroValue4
 t9:=Tryz.underlying9
 a9:=Tryz.isAgg9
 z9:=Tryz.sizeOf9
 v9:=Tryz.zeroValue9
 t20:=Tryz.underlying20
 a20:=Tryz.isAgg20
 z20:=Tryz.sizeOf20
 v20:=Tryz.zeroValue20
 t31:=Tryz.underlying55
 a31:=Tryz.isAgg55
 z31:=Tryz.sizeOf55
 v31:=Tryz.zeroValue55
 t37:=Tryz.underlying103
 a37:=Tryz.isAgg103
 z37:=Tryz.sizeOf103
 v37:=Tryz.zeroValue103
 t70:=Tryz.underlying102
 a70:=Tryz.isAgg102
 z70:=Tryz.sizeOf102
 v70:=Tryz.zeroValue102
 t72:=Tryz.underlying105
 a72:=Tryz.isAgg105
 z72:=Tryz.sizeOf105
 v72:=Tryz.zeroValue105
 t75:=Tryz.underlying113
 a75:=Tryz.isAgg113
 z75:=Tryz.sizeOf113
 v75:=Tryz.zeroValue113
 t76:=Tryz.underlying114
 a76:=Tryz.isAgg114
 z76:=Tryz.sizeOf114
 v76:=Tryz.zeroValue114
 t127:=Tryz.underlying196
 a127:=Tryz.isAgg196
 z127:=Tryz.sizeOf196
 v127:=Tryz.zeroValue196
 t164:=Tryz.underlying235
 a164:=Tryz.isAgg235
 z164:=Tryz.sizeOf235
 v164:=Tryz.zeroValue235}
theorem Tryz.Builder_Extra_156:Builder.Extra Tryz.prog Tryz.lays156_ren:={
 sizeBuilder:=by kernel_rfl
 liesBuilder:=by kernel_rfl
 t5:=Tryz.underlying5
 a5:=Tryz.isAgg5
 z5:=Tryz.sizeOf5
 v5:=Tryz.zeroValue5
 infoByte:=by kernel_rfl
 cellsByte:=by kernel_rfl
 sizeByte:=by kernel_rfl
 neB5:=by decide}
open Go.RowKit in
theorem Tryz.strings_Join_none(a:Option Addr)(c:Nat)(sep:ByteArray)(w:World):
  Calls Tryz.prog 84 #[.slice a 0 c,.string sep] w fun e w'=>e=.returned (.string ⟨#[]⟩)/\w'=w:=Any.strings_Join_none Tryz.lays156 Tryz.Builder_Extra_156 a c sep w
open Go.RowKit in
theorem Tryz.strings_Join(bk o c:Nat)(xs:List ByteArray)(sep:ByteArray)(w:World)(hcells:∀(j:Nat) x,xs[j]? =some x->w.cell? ⟨bk,o + j,none⟩=some (.string x))(hbk:bk < w.heap.size)(hN:xs.length<=140737488355328)(hcap:xs.length<=c)(hlen:(Lib.join (xs.map (·.data.toList)) sep.data.toList).length<=140737488355328):
  Calls Tryz.prog 84 #[.slice (some ⟨bk,o,none⟩) xs.length c,.string sep] w fun e w'=>e=.returned (.string ⟨(Lib.join (xs.map (·.data.toList)) sep.data.toList).toArray⟩)/\Below w.heap.size w w':=Any.strings_Join Tryz.lays156 Tryz.Builder_Extra_156 bk o c xs sep w hcells hbk hN hcap hlen
def Tryz.lays103_ren:Go.Shelf.Ren:=⟨fun | 103=>189 | 210=>241 | 206=>272 | n=>n,fun | 9=>9 | 4=>4 | 24=>233 | 3=>3 | n=>n,fun | n=>n⟩
theorem Tryz.lays103:Go.Proofs.Lays.n103 Tryz.prog Tryz.lays103_ren:={
 mixed:=by kernel_rfl
 f103:=Tryz.func189.trans cS
 f206:=Tryz.func272.trans cS
 f210:=Tryz.func241.trans cS
 t3:=Tryz.underlying3
 a3:=Tryz.isAgg3
 z3:=Tryz.sizeOf3
 v3:=Tryz.zeroValue3
 t4:=Tryz.underlying4
 a4:=Tryz.isAgg4
 z4:=Tryz.sizeOf4
 v4:=Tryz.zeroValue4
 t9:=Tryz.underlying9
 a9:=Tryz.isAgg9
 z9:=Tryz.sizeOf9
 v9:=Tryz.zeroValue9
 t24:=Tryz.underlying233
 a24:=Tryz.isAgg233
 z24:=Tryz.sizeOf233
 v24:=Tryz.zeroValue233}
open Go.RowKit in
theorem Tryz.strings_CutPrefix(s p:ByteArray)(w:World):
  Calls Tryz.prog 189 #[.string s,.string p] w fun e w'=>e=.returned (.tuple #[.string ⟨(Lib.trimPrefix s.data.toList p.data.toList).toArray⟩,.bool (Lib.hasPrefix s.data.toList p.data.toList)])/\w'=w:=Any.strings_CutPrefix Tryz.lays103 s p w
def Tryz.laysM171_ren:Go.Shelf.Ren:=⟨fun | 171=>85 | 243=>149 | 246=>188 | 283=>237 | 284=>238 | 285=>239 | 286=>240 | 129=>220 | 317=>273 | 318=>274 | 319=>275 | 320=>276 | 337=>287 | 338=>288 | n=>n,fun | 3=>3 | 9=>9 | 2=>2 | 4=>4 | 171=>265 | 0=>0 | 53=>259 | 37=>103 | 5=>5 | 173=>267 | 212=>293 | 51=>257 | 20=>20 | 213=>294 | 46=>222 | 232=>314 | 233=>315 | n=>n,fun | 17=>1 | 18=>6 | 19=>7 | n=>n⟩
theorem Tryz.laysM171:Go.Proofs.LaysM.n171 Tryz.prog Tryz.laysM171_ren:={
 mixed:=by kernel_rfl
 f129:=Tryz.func220.trans cS
 f171:=Tryz.func85.trans cS
 f243:=Tryz.func149.trans cS
 f246:=Tryz.func188.trans cS
 f283:=Tryz.func237.trans cS
 f284:=Tryz.func238.trans cS
 f285:=Tryz.func239.trans cS
 f286:=Tryz.func240.trans cS
 f317:=Tryz.func273.trans cS
 f318:=Tryz.func274.trans cS
 f319:=Tryz.func275.trans cS
 f320:=Tryz.func276.trans cS
 f337:=Tryz.func287.trans cS
 f338:=Tryz.func288.trans cS
 t0:=Tryz.underlying0
 a0:=Tryz.isAgg0
 z0:=Tryz.sizeOf0
 v0:=Tryz.zeroValue0
 t2:=Tryz.underlying2
 a2:=Tryz.isAgg2
 z2:=Tryz.sizeOf2
 v2:=Tryz.zeroValue2
 t3:=Tryz.underlying3
 a3:=Tryz.isAgg3
 z3:=Tryz.sizeOf3
 v3:=Tryz.zeroValue3
 t4:=Tryz.underlying4
 a4:=Tryz.isAgg4
 z4:=Tryz.sizeOf4
 v4:=Tryz.zeroValue4
 t5:=Tryz.underlying5
 a5:=Tryz.isAgg5
 z5:=Tryz.sizeOf5
 v5:=Tryz.zeroValue5
 t9:=Tryz.underlying9
 a9:=Tryz.isAgg9
 z9:=Tryz.sizeOf9
 v9:=Tryz.zeroValue9
 t20:=Tryz.underlying20
 a20:=Tryz.isAgg20
 z20:=Tryz.sizeOf20
 v20:=Tryz.zeroValue20
 t37:=Tryz.underlying103
 a37:=Tryz.isAgg103
 z37:=Tryz.sizeOf103
 v37:=Tryz.zeroValue103
 t46:=Tryz.underlying222
 a46:=Tryz.isAgg222
 z46:=Tryz.sizeOf222
 v46:=Tryz.zeroValue222
 t51:=Tryz.underlying257
 a51:=Tryz.isAgg257
 z51:=Tryz.sizeOf257
 v51:=Tryz.zeroValue257
 t53:=Tryz.underlying259
 a53:=Tryz.isAgg259
 z53:=Tryz.sizeOf259
 v53:=Tryz.zeroValue259
 t171:=Tryz.underlying265
 a171:=Tryz.isAgg265
 z171:=Tryz.sizeOf265
 v171:=Tryz.zeroValue265
 t173:=Tryz.underlying267
 a173:=Tryz.isAgg267
 z173:=Tryz.sizeOf267
 v173:=Tryz.zeroValue267
 t212:=Tryz.underlying293
 a212:=Tryz.isAgg293
 z212:=Tryz.sizeOf293
 v212:=Tryz.zeroValue293
 t213:=Tryz.underlying294
 a213:=Tryz.isAgg294
 z213:=Tryz.sizeOf294
 t232:=Tryz.underlying314
 a232:=Tryz.isAgg314
 z232:=Tryz.sizeOf314
 v232:=Tryz.zeroValue314
 t233:=Tryz.underlying315
 a233:=Tryz.isAgg315
 z233:=Tryz.sizeOf315
 v233:=Tryz.zeroValue315
 g17:=by kernel_rfl
 g18:=by kernel_rfl
 g19:=by kernel_rfl
 i0:=by kernel_rfl
 i2:=by kernel_rfl
 i3:=by kernel_rfl
 i4:=by kernel_rfl
 i5:=by kernel_rfl
 i9:=by kernel_rfl
 i20:=by kernel_rfl
 i37:=by kernel_rfl
 i46:=by kernel_rfl
 i51:=by kernel_rfl
 i53:=by kernel_rfl
 i171:=by kernel_rfl
 i173:=by kernel_rfl
 i212:=by kernel_rfl
 i232:=by kernel_rfl
 i233:=by kernel_rfl
 m17:=by kernel_rfl
 m18:=by kernel_rfl
 m19:=by kernel_rfl}
open Go.RowKit Go.Sort Go.Lib in
theorem Tryz.strconv_Itoa(n:Int)(G: -9223372036854775808<=n)(I:n<=9223372036854775807)(w:World)(htab:Lib.TabIs Tryz.prog w "internal/strconv.uint64pow10" .u64 Lib.pow10Tab):
  Calls Tryz.prog 85 #[.int .i64 n] w fun e w'=>e=.returned (.string ⟨(Lib.itoa n).toArray⟩)/\ ∃ k os,w'=grow (w.drewN k) os:=Any.strconv_Itoa Tryz.laysM171 n G I w htab
def Tryz.laysC172_ren:Go.Shelf.Ren:=⟨fun | 172=>163 | 244=>195 | 245=>196 | 247=>245 | 279=>246 | 280=>247 | 281=>248 | 282=>249 | 287=>278 | 316=>279 | 171=>85 | 205=>280 | 321=>289 | 322=>290 | 243=>149 | 246=>188 | 283=>237 | 284=>238 | 285=>239 | 286=>240 | 129=>220 | 317=>273 | 318=>274 | 319=>275 | 320=>276 | 337=>287 | 338=>288 | n=>n,fun | 9=>9 | 3=>3 | 75=>113 | 76=>114 | 4=>4 | 5=>5 | 167=>271 | 37=>103 | 0=>0 | 85=>272 | 2=>2 | 168=>274 | 53=>259 | 175=>296 | 46=>222 | 210=>299 | 127=>196 | 145=>312 | 143=>310 | 21=>21 | 171=>265 | 173=>267 | 212=>293 | 51=>257 | 20=>20 | 213=>294 | 232=>314 | 233=>315 | 80=>116 | n=>n,fun | 15=>2 | 16=>3 | 17=>1 | 18=>6 | 19=>7 | n=>n⟩
theorem Tryz.laysC172:Go.Proofs.LaysC.n172 Tryz.prog Tryz.laysC172_ren:={
 mixed:=by kernel_rfl
 f129:=Tryz.func220.trans cS
 f171:=Tryz.func85.trans cS
 f172:=Tryz.func163.trans cS
 f205:=Tryz.func280.trans cS
 f243:=Tryz.func149.trans cS
 f244:=Tryz.func195.trans cS
 f245:=Tryz.func196.trans cS
 f246:=Tryz.func188.trans cS
 f247:=Tryz.func245.trans cS
 f279:=Tryz.func246.trans cS
 f280:=Tryz.func247.trans cS
 f281:=Tryz.func248.trans cS
 f282:=Tryz.func249.trans cS
 f283:=Tryz.func237.trans cS
 f284:=Tryz.func238.trans cS
 f285:=Tryz.func239.trans cS
 f286:=Tryz.func240.trans cS
 f287:=Tryz.func278.trans cS
 f316:=Tryz.func279.trans cS
 f317:=Tryz.func273.trans cS
 f318:=Tryz.func274.trans cS
 f319:=Tryz.func275.trans cS
 f320:=Tryz.func276.trans cS
 f321:=Tryz.func289.trans cS
 f322:=Tryz.func290.trans cS
 f337:=Tryz.func287.trans cS
 f338:=Tryz.func288.trans cS
 t0:=Tryz.underlying0
 a0:=Tryz.isAgg0
 z0:=Tryz.sizeOf0
 v0:=Tryz.zeroValue0
 t2:=Tryz.underlying2
 a2:=Tryz.isAgg2
 z2:=Tryz.sizeOf2
 v2:=Tryz.zeroValue2
 t3:=Tryz.underlying3
 a3:=Tryz.isAgg3
 z3:=Tryz.sizeOf3
 v3:=Tryz.zeroValue3
 t4:=Tryz.underlying4
 a4:=Tryz.isAgg4
 z4:=Tryz.sizeOf4
 v4:=Tryz.zeroValue4
 t5:=Tryz.underlying5
 a5:=Tryz.isAgg5
 z5:=Tryz.sizeOf5
 v5:=Tryz.zeroValue5
 t9:=Tryz.underlying9
 a9:=Tryz.isAgg9
 z9:=Tryz.sizeOf9
 v9:=Tryz.zeroValue9
 t20:=Tryz.underlying20
 a20:=Tryz.isAgg20
 z20:=Tryz.sizeOf20
 v20:=Tryz.zeroValue20
 t21:=Tryz.underlying21
 a21:=Tryz.isAgg21
 z21:=Tryz.sizeOf21
 v21:=Tryz.zeroValue21
 t37:=Tryz.underlying103
 a37:=Tryz.isAgg103
 z37:=Tryz.sizeOf103
 v37:=Tryz.zeroValue103
 t46:=Tryz.underlying222
 a46:=Tryz.isAgg222
 z46:=Tryz.sizeOf222
 v46:=Tryz.zeroValue222
 t51:=Tryz.underlying257
 a51:=Tryz.isAgg257
 z51:=Tryz.sizeOf257
 v51:=Tryz.zeroValue257
 t53:=Tryz.underlying259
 a53:=Tryz.isAgg259
 z53:=Tryz.sizeOf259
 v53:=Tryz.zeroValue259
 t75:=Tryz.underlying113
 a75:=Tryz.isAgg113
 z75:=Tryz.sizeOf113
 v75:=Tryz.zeroValue113
 t76:=Tryz.underlying114
 a76:=Tryz.isAgg114
 z76:=Tryz.sizeOf114
 v76:=Tryz.zeroValue114
 t85:=Tryz.underlying272
 a85:=Tryz.isAgg272
 z85:=Tryz.sizeOf272
 v85:=Tryz.zeroValue272
 t127:=Tryz.underlying196
 a127:=Tryz.isAgg196
 z127:=Tryz.sizeOf196
 v127:=Tryz.zeroValue196
 t143:=Tryz.underlying310
 a143:=Tryz.isAgg310
 z143:=Tryz.sizeOf310
 v143:=Tryz.zeroValue310
 t145:=Tryz.underlying312
 a145:=Tryz.isAgg312
 z145:=Tryz.sizeOf312
 v145:=Tryz.zeroValue312
 t167:=Tryz.underlying271
 a167:=Tryz.isAgg271
 z167:=Tryz.sizeOf271
 v167:=Tryz.zeroValue271
 t168:=Tryz.underlying274
 a168:=Tryz.isAgg274
 z168:=Tryz.sizeOf274
 v168:=Tryz.zeroValue274
 t171:=Tryz.underlying265
 a171:=Tryz.isAgg265
 z171:=Tryz.sizeOf265
 v171:=Tryz.zeroValue265
 t173:=Tryz.underlying267
 a173:=Tryz.isAgg267
 z173:=Tryz.sizeOf267
 v173:=Tryz.zeroValue267
 t175:=Tryz.underlying296
 a175:=Tryz.isAgg296
 z175:=Tryz.sizeOf296
 v175:=Tryz.zeroValue296
 t210:=Tryz.underlying299
 a210:=Tryz.isAgg299
 z210:=Tryz.sizeOf299
 v210:=Tryz.zeroValue299
 t212:=Tryz.underlying293
 a212:=Tryz.isAgg293
 z212:=Tryz.sizeOf293
 v212:=Tryz.zeroValue293
 t213:=Tryz.underlying294
 a213:=Tryz.isAgg294
 z213:=Tryz.sizeOf294
 t232:=Tryz.underlying314
 a232:=Tryz.isAgg314
 z232:=Tryz.sizeOf314
 v232:=Tryz.zeroValue314
 t233:=Tryz.underlying315
 a233:=Tryz.isAgg315
 z233:=Tryz.sizeOf315
 v233:=Tryz.zeroValue315
 g15:=by kernel_rfl
 g16:=by kernel_rfl
 g17:=by kernel_rfl
 g18:=by kernel_rfl
 g19:=by kernel_rfl
 t80:=Tryz.underlying116
 a80:=Tryz.isAgg116
 z80:=Tryz.sizeOf116
 v80:=Tryz.zeroValue116
 i0:=by kernel_rfl
 i2:=by kernel_rfl
 i3:=by kernel_rfl
 i4:=by kernel_rfl
 i5:=by kernel_rfl
 i9:=by kernel_rfl
 i20:=by kernel_rfl
 i21:=by kernel_rfl
 i37:=by kernel_rfl
 i46:=by kernel_rfl
 i51:=by kernel_rfl
 i53:=by kernel_rfl
 i75:=by kernel_rfl
 i76:=by kernel_rfl
 i80:=by kernel_rfl
 i85:=by kernel_rfl
 i127:=by kernel_rfl
 i143:=by kernel_rfl
 i145:=by kernel_rfl
 i167:=by kernel_rfl
 i168:=by kernel_rfl
 i171:=by kernel_rfl
 i173:=by kernel_rfl
 i175:=by kernel_rfl
 i210:=by kernel_rfl
 i212:=by kernel_rfl
 i232:=by kernel_rfl
 i233:=by kernel_rfl
 m15:=by kernel_rfl
 m16:=by kernel_rfl
 m17:=by kernel_rfl
 m18:=by kernel_rfl
 m19:=by kernel_rfl
 c0:=by kernel_rfl
 c2:=by kernel_rfl
 c3:=by kernel_rfl
 c4:=by kernel_rfl
 c5:=by kernel_rfl
 c9:=by kernel_rfl
 c20:=by kernel_rfl
 c21:=by kernel_rfl
 c37:=by kernel_rfl
 c46:=by kernel_rfl
 c51:=by kernel_rfl
 c53:=by kernel_rfl
 c75:=by kernel_rfl
 c76:=by kernel_rfl
 c80:=by kernel_rfl
 c85:=by kernel_rfl
 c127:=by kernel_rfl
 c143:=by kernel_rfl
 c145:=by kernel_rfl
 c167:=by kernel_rfl
 c168:=by kernel_rfl
 c171:=by kernel_rfl
 c173:=by kernel_rfl
 c175:=by kernel_rfl
 c210:=by kernel_rfl
 c212:=by kernel_rfl
 c213:=by kernel_rfl
 c232:=by kernel_rfl
 c233:=by kernel_rfl}
open Go.RowKit in
theorem Tryz.strconv_Atoi_ok(s:ByteArray)(hmax:s.size<=9223372036854775806)(v:Int)(h:Lib.atoiAll s.data.toList=.ok v)(w:World):
  Calls Tryz.prog 163 #[.string s] w fun e w'=>e=.returned (.tuple #[.int .i64 v,.nilIface])/\(w'=w\/ ∃ t,w'=Lib.bytesWorld w 5 t):=Any.strconv_Atoi_ok Tryz.laysC172 s hmax v h w
open Go.RowKit in
theorem Tryz.strconv_Atoi_syntax_var(s:ByteArray)(hlim:s.size<=281474976710656)(h:Lib.atoiAll s.data.toList=.«syntax»)(tp:TypeId)(p:Value)(w:World)(hvar:w.var? Tryz.prog "strconv.ErrSyntax" =some #[.iface tp p]):
  Calls Tryz.prog 163 #[.string s] w fun e w'=>∃ N,e=.returned (.tuple #[.int .i64 0,.iface 274 (.pointer (some ⟨N,0,none⟩))])/\w.heap.size<=N/\w'.heap[N]? =some (.cells #[.string ⟨#[65,116,111,105]⟩,.string s,.iface tp p] 299 (0,0))/\Below w.heap.size w w':=Any.strconv_Atoi_syntax_var Tryz.laysC172 s hlim h tp p w hvar
open Go.RowKit in
theorem Tryz.strconv_Atoi_range_var(s:ByteArray)(hlim:s.size<=281474976710656)(h:Lib.atoiAll s.data.toList=.range)(tp:TypeId)(p:Value)(w:World)(hvar:w.var? Tryz.prog "strconv.ErrRange" =some #[.iface tp p]):
  Calls Tryz.prog 163 #[.string s] w fun e w'=>∃ N,e=.returned (.tuple #[.int .i64 (Lib.atoiSat s.data.toList),.iface 274 (.pointer (some ⟨N,0,none⟩))])/\w.heap.size<=N/\w'.heap[N]? =some (.cells #[.string ⟨#[65,116,111,105]⟩,.string s,.iface tp p] 299 (0,0))/\Below w.heap.size w w':=Any.strconv_Atoi_range_var Tryz.laysC172 s hlim h tp p w hvar
def Tryz.lays143_ren:Go.Shelf.Ren:=⟨fun | 143=>98 | 219=>166 | 217=>200 | 225=>201 | 224=>202 | 267=>203 | 266=>250 | 314=>251 | n=>n,fun | 9=>9 | 3=>3 | 4=>4 | 5=>5 | 46=>222 | 146=>277 | 51=>257 | n=>n,fun | 1=>0 | n=>n⟩
theorem Tryz.lays143:Go.Proofs.Lays.n143 Tryz.prog Tryz.lays143_ren:={
 mixed:=by kernel_rfl
 f143:=Tryz.func98.trans cS
 f217:=Tryz.func200.trans cS
 f219:=Tryz.func166.trans cS
 f224:=Tryz.func202.trans cS
 f225:=Tryz.func201.trans cS
 f266:=Tryz.func250.trans cS
 f267:=Tryz.func203.trans cS
 f314:=Tryz.func251.trans cS
 t3:=Tryz.underlying3
 a3:=Tryz.isAgg3
 z3:=Tryz.sizeOf3
 v3:=Tryz.zeroValue3
 t4:=Tryz.underlying4
 a4:=Tryz.isAgg4
 z4:=Tryz.sizeOf4
 v4:=Tryz.zeroValue4
 t5:=Tryz.underlying5
 a5:=Tryz.isAgg5
 z5:=Tryz.sizeOf5
 v5:=Tryz.zeroValue5
 t9:=Tryz.underlying9
 a9:=Tryz.isAgg9
 z9:=Tryz.sizeOf9
 v9:=Tryz.zeroValue9
 t46:=Tryz.underlying222
 a46:=Tryz.isAgg222
 z46:=Tryz.sizeOf222
 v46:=Tryz.zeroValue222
 t51:=Tryz.underlying257
 a51:=Tryz.isAgg257
 z51:=Tryz.sizeOf257
 v51:=Tryz.zeroValue257
 t146:=Tryz.underlying277
 a146:=Tryz.isAgg277
 z146:=Tryz.sizeOf277
 v146:=Tryz.zeroValue277
 g1:=by kernel_rfl}
open Go.RowKit Go.Lib in
theorem Tryz.strings_Index(s sub:ByteArray)(m:Int)(w:World)(hs:s.size < 4294967281)(hm:w.cell? ⟨0,0,none⟩=some (.int .i64 m)):
  Calls Tryz.prog 98 #[.string s,.string sub] w fun e w'=>e=.returned (.int .i64 (Lib.index s.data.toList sub.data.toList))/\w'=w:=Any.strings_Index Tryz.lays143 s sub m w hs hm
def Tryz.lays145_ren:Go.Shelf.Ren:=⟨fun | 145=>164 | 220=>197 | 219=>166 | 217=>200 | 225=>201 | 224=>202 | 267=>203 | 266=>250 | 314=>251 | n=>n,fun | 9=>9 | 4=>4 | 59=>198 | 3=>3 | 5=>5 | 46=>222 | 146=>277 | 51=>257 | n=>n,fun | 1=>0 | n=>n⟩
theorem Tryz.lays145:Go.Proofs.Lays.n145 Tryz.prog Tryz.lays145_ren:={
 mixed:=by kernel_rfl
 f145:=Tryz.func164.trans cS
 f217:=Tryz.func200.trans cS
 f219:=Tryz.func166.trans cS
 f220:=Tryz.func197.trans cS
 f224:=Tryz.func202.trans cS
 f225:=Tryz.func201.trans cS
 f266:=Tryz.func250.trans cS
 f267:=Tryz.func203.trans cS
 f314:=Tryz.func251.trans cS
 t3:=Tryz.underlying3
 a3:=Tryz.isAgg3
 z3:=Tryz.sizeOf3
 v3:=Tryz.zeroValue3
 t4:=Tryz.underlying4
 a4:=Tryz.isAgg4
 z4:=Tryz.sizeOf4
 v4:=Tryz.zeroValue4
 t5:=Tryz.underlying5
 a5:=Tryz.isAgg5
 z5:=Tryz.sizeOf5
 v5:=Tryz.zeroValue5
 t9:=Tryz.underlying9
 a9:=Tryz.isAgg9
 z9:=Tryz.sizeOf9
 v9:=Tryz.zeroValue9
 t46:=Tryz.underlying222
 a46:=Tryz.isAgg222
 z46:=Tryz.sizeOf222
 v46:=Tryz.zeroValue222
 t51:=Tryz.underlying257
 a51:=Tryz.isAgg257
 z51:=Tryz.sizeOf257
 v51:=Tryz.zeroValue257
 t59:=Tryz.underlying198
 a59:=Tryz.isAgg198
 z59:=Tryz.sizeOf198
 v59:=Tryz.zeroValue198
 t146:=Tryz.underlying277
 a146:=Tryz.isAgg277
 z146:=Tryz.sizeOf277
 v146:=Tryz.zeroValue277
 g1:=by kernel_rfl}
open Go.RowKit Go.Lib in
theorem Tryz.strings_Cut(s sep:ByteArray)(m:Int)(w:World)(hs:s.size < 4294967281)(hm:w.cell? ⟨0,0,none⟩=some (.int .i64 m)):
  Calls Tryz.prog 164 #[.string s,.string sep] w fun e w'=>e=.returned (.tuple #[.string ⟨(Lib.cut s.data.toList sep.data.toList).1.toArray⟩,.string ⟨(Lib.cut s.data.toList sep.data.toList).2.1.toArray⟩,.bool (Lib.cut s.data.toList sep.data.toList).2.2])/\ ∃ n,w'=w.drewN n:=Any.strings_Cut Tryz.lays145 s sep m w hs hm
def Tryz.lays273_ren:Go.Shelf.Ren:=⟨fun | 273=>284 | 271=>292 | 120=>293 | 197=>243 | 260=>277 | n=>n,fun | 9=>9 | 40=>240 | 4=>4 | 3=>3 | 105=>269 | 21=>21 | 5=>5 | 119=>305 | 0=>0 | 46=>222 | 139=>308 | 138=>307 | n=>n,fun | 3=>4 | 4=>5 | n=>n⟩
theorem Tryz.lays273:Go.Proofs.Lays.n273 Tryz.prog Tryz.lays273_ren:={
 mixed:=by kernel_rfl
 f120:=Tryz.func293.trans cS
 f197:=Tryz.func243.trans cS
 f260:=Tryz.func277.trans cS
 f271:=Tryz.func292.trans cS
 f273:=Tryz.func284.trans cS
 t0:=Tryz.underlying0
 a0:=Tryz.isAgg0
 z0:=Tryz.sizeOf0
 v0:=Tryz.zeroValue0
 t3:=Tryz.underlying3
 a3:=Tryz.isAgg3
 z3:=Tryz.sizeOf3
 v3:=Tryz.zeroValue3
 t4:=Tryz.underlying4
 a4:=Tryz.isAgg4
 z4:=Tryz.sizeOf4
 v4:=Tryz.zeroValue4
 t5:=Tryz.underlying5
 a5:=Tryz.isAgg5
 z5:=Tryz.sizeOf5
 v5:=Tryz.zeroValue5
 t9:=Tryz.underlying9
 a9:=Tryz.isAgg9
 z9:=Tryz.sizeOf9
 v9:=Tryz.zeroValue9
 t21:=Tryz.underlying21
 a21:=Tryz.isAgg21
 z21:=Tryz.sizeOf21
 v21:=Tryz.zeroValue21
 t40:=Tryz.underlying240
 a40:=Tryz.isAgg240
 z40:=Tryz.sizeOf240
 v40:=Tryz.zeroValue240
 t46:=Tryz.underlying222
 a46:=Tryz.isAgg222
 z46:=Tryz.sizeOf222
 v46:=Tryz.zeroValue222
 t105:=Tryz.underlying269
 a105:=Tryz.isAgg269
 z105:=Tryz.sizeOf269
 v105:=Tryz.zeroValue269
 t119:=Tryz.underlying305
 a119:=Tryz.isAgg305
 z119:=Tryz.sizeOf305
 t138:=Tryz.underlying307
 a138:=Tryz.isAgg307
 z138:=Tryz.sizeOf307
 v138:=Tryz.zeroValue307
 t139:=Tryz.underlying308
 a139:=Tryz.isAgg308
 z139:=Tryz.sizeOf308
 v139:=Tryz.zeroValue308
 g3:=by kernel_rfl
 g4:=by kernel_rfl}
def Tryz.laysGw15_ren:Go.Shelf.Ren:=⟨fun | 15=>266 | 20=>285 | n=>n,fun | 9=>9 | 23=>240 | 3=>3 | 4=>4 | 0=>0 | 21=>21 | n=>n,fun | n=>n⟩
theorem Tryz.laysGw15:Go.Proofs.LaysGw.n15 Tryz.prog Tryz.laysGw15_ren:={
 mixed:=by kernel_rfl
 f15:=Tryz.func266.trans cS
 f20:=Tryz.func285.trans cS
 t0:=Tryz.underlying0
 a0:=Tryz.isAgg0
 z0:=Tryz.sizeOf0
 v0:=Tryz.zeroValue0
 i0:=by kernel_rfl
 t3:=Tryz.underlying3
 a3:=Tryz.isAgg3
 z3:=Tryz.sizeOf3
 v3:=Tryz.zeroValue3
 i3:=by kernel_rfl
 t4:=Tryz.underlying4
 a4:=Tryz.isAgg4
 z4:=Tryz.sizeOf4
 v4:=Tryz.zeroValue4
 i4:=by kernel_rfl
 t9:=Tryz.underlying9
 a9:=Tryz.isAgg9
 z9:=Tryz.sizeOf9
 v9:=Tryz.zeroValue9
 i9:=by kernel_rfl
 t21:=Tryz.underlying21
 a21:=Tryz.isAgg21
 z21:=Tryz.sizeOf21
 v21:=Tryz.zeroValue21
 i21:=by kernel_rfl
 t23:=Tryz.underlying240
 a23:=Tryz.isAgg240
 z23:=Tryz.sizeOf240
 v23:=Tryz.zeroValue240
 i23:=by kernel_rfl}
def Tryz.lays102_ren:Go.Shelf.Ren:=⟨fun | 102=>117 | 209=>175 | 207=>206 | n=>n,fun | 9=>9 | 4=>4 | 3=>3 | n=>n,fun | n=>n⟩
theorem Tryz.lays102:Go.Proofs.Lays.n102 Tryz.prog Tryz.lays102_ren:={
 mixed:=by kernel_rfl
 f102:=Tryz.func117.trans cS
 f207:=Tryz.func206.trans cS
 f209:=Tryz.func175.trans cS
 t3:=Tryz.underlying3
 a3:=Tryz.isAgg3
 z3:=Tryz.sizeOf3
 v3:=Tryz.zeroValue3
 t4:=Tryz.underlying4
 a4:=Tryz.isAgg4
 z4:=Tryz.sizeOf4
 v4:=Tryz.zeroValue4
 t9:=Tryz.underlying9
 a9:=Tryz.isAgg9
 z9:=Tryz.sizeOf9
 v9:=Tryz.zeroValue9}
open Go.RowKit Go.Lib in
theorem Tryz.strings_TrimSuffix(s p:ByteArray)(w:World)(hs:s.size<=9223372036854775807):
  Calls Tryz.prog 117 #[.string s,.string p] w fun e w'=>e=.returned (.string ⟨(Lib.trimSuffix s.data.toList p.data.toList).toArray⟩)/\w'=w:=Any.strings_TrimSuffix Tryz.lays102 s p w hs
def Tryz.lays146_ren:Go.Shelf.Ren:=⟨fun | 146=>93 | 221=>162 | 268=>193 | 138=>194 | 143=>98 | 195=>242 | 197=>243 | 218=>244 | 219=>166 | 260=>277 | 217=>200 | 225=>201 | 224=>202 | 267=>203 | 266=>250 | 314=>251 | n=>n,fun | 9=>9 | 31=>55 | 3=>3 | 4=>4 | 0=>0 | 105=>269 | 21=>21 | 5=>5 | 46=>222 | 119=>305 | 139=>308 | 138=>307 | 146=>277 | 51=>257 | n=>n,fun | 1=>0 | 3=>4 | 4=>5 | n=>n⟩
theorem Tryz.lays146:Go.Proofs.Lays.n146 Tryz.prog Tryz.lays146_ren:={
 mixed:=by kernel_rfl
 f138:=Tryz.func194.trans cS
 f143:=Tryz.func98.trans cS
 f146:=Tryz.func93.trans cS
 f195:=Tryz.func242.trans cS
 f197:=Tryz.func243.trans cS
 f217:=Tryz.func200.trans cS
 f218:=Tryz.func244.trans cS
 f219:=Tryz.func166.trans cS
 f221:=Tryz.func162.trans cS
 f224:=Tryz.func202.trans cS
 f225:=Tryz.func201.trans cS
 f260:=Tryz.func277.trans cS
 f266:=Tryz.func250.trans cS
 f267:=Tryz.func203.trans cS
 f268:=Tryz.func193.trans cS
 f314:=Tryz.func251.trans cS
 t0:=Tryz.underlying0
 a0:=Tryz.isAgg0
 z0:=Tryz.sizeOf0
 v0:=Tryz.zeroValue0
 t3:=Tryz.underlying3
 a3:=Tryz.isAgg3
 z3:=Tryz.sizeOf3
 v3:=Tryz.zeroValue3
 t4:=Tryz.underlying4
 a4:=Tryz.isAgg4
 z4:=Tryz.sizeOf4
 v4:=Tryz.zeroValue4
 t5:=Tryz.underlying5
 a5:=Tryz.isAgg5
 z5:=Tryz.sizeOf5
 v5:=Tryz.zeroValue5
 t9:=Tryz.underlying9
 a9:=Tryz.isAgg9
 z9:=Tryz.sizeOf9
 v9:=Tryz.zeroValue9
 t21:=Tryz.underlying21
 a21:=Tryz.isAgg21
 z21:=Tryz.sizeOf21
 v21:=Tryz.zeroValue21
 t31:=Tryz.underlying55
 a31:=Tryz.isAgg55
 z31:=Tryz.sizeOf55
 v31:=Tryz.zeroValue55
 t46:=Tryz.underlying222
 a46:=Tryz.isAgg222
 z46:=Tryz.sizeOf222
 v46:=Tryz.zeroValue222
 t51:=Tryz.underlying257
 a51:=Tryz.isAgg257
 z51:=Tryz.sizeOf257
 v51:=Tryz.zeroValue257
 t105:=Tryz.underlying269
 a105:=Tryz.isAgg269
 z105:=Tryz.sizeOf269
 v105:=Tryz.zeroValue269
 t119:=Tryz.underlying305
 a119:=Tryz.isAgg305
 z119:=Tryz.sizeOf305
 t138:=Tryz.underlying307
 a138:=Tryz.isAgg307
 z138:=Tryz.sizeOf307
 v138:=Tryz.zeroValue307
 t139:=Tryz.underlying308
 a139:=Tryz.isAgg308
 z139:=Tryz.sizeOf308
 v139:=Tryz.zeroValue308
 t146:=Tryz.underlying277
 a146:=Tryz.isAgg277
 z146:=Tryz.sizeOf277
 v146:=Tryz.zeroValue277
 g1:=by kernel_rfl
 g3:=by kernel_rfl
 g4:=by kernel_rfl}
open Go.RowKit Go.Lib in
theorem Tryz.strings_Split(s sep:ByteArray)(m:Int)(w:World)(hs:s.size < 4294967281)(hm:w.cell? ⟨0,0,none⟩=some (.int .i64 m))(G:1<=sep.size):
  Calls Tryz.prog 93 #[.string s,.string sep] w fun e w'=>
   e=.returned (.slice (some ⟨w.heap.size,0,none⟩) (Lib.countB s sep + 1) (Lib.countB s sep + 1))/\w'=w.alloc (.cells ((Lib.splitB sep 0 (Lib.countB s sep) s).map Value.string).toArray 9):=Any.strings_Split Tryz.lays146 (by kernel_rfl) s sep m w hs hm G
def Tryz.lays105_ren:Go.Shelf.Ren:=⟨fun | 105=>186 | 212=>233 | 99=>234 | 165=>148 | 166=>90 | 170=>235 | 169=>91 | 263=>270 | 264=>271 | 206=>272 | 240=>161 | 241=>187 | 276=>192 | 277=>236 | n=>n,fun | 9=>9 | 3=>3 | 4=>4 | 20=>20 | 0=>0 | 46=>222 | 109=>261 | 5=>5 | 72=>105 | 76=>114 | 51=>257 | 146=>277 | 53=>259 | 148=>290 | 70=>102 | 37=>103 | 75=>113 | 127=>196 | 164=>235 | 80=>116 | n=>n,fun | n=>n⟩
theorem Tryz.lays105:Go.Proofs.Lays.n105 Tryz.prog Tryz.lays105_ren:={
 mixed:=by kernel_rfl
 f99:=Tryz.func234.trans cS
 f105:=Tryz.func186.trans cS
 f165:=Tryz.func148.trans cS
 f166:=Tryz.func90.trans cS
 f169:=Tryz.func91.trans cS
 f170:=Tryz.func235.trans cS
 f206:=Tryz.func272.trans cS
 f212:=Tryz.func233.trans cS
 f240:=Tryz.func161.trans cS
 f241:=Tryz.func187.trans cS
 f263:=Tryz.func270.trans cS
 f264:=Tryz.func271.trans cS
 f276:=Tryz.func192.trans cS
 f277:=Tryz.func236.trans cS
 t0:=Tryz.underlying0
 a0:=Tryz.isAgg0
 z0:=Tryz.sizeOf0
 v0:=Tryz.zeroValue0
 t3:=Tryz.underlying3
 a3:=Tryz.isAgg3
 z3:=Tryz.sizeOf3
 v3:=Tryz.zeroValue3
 t4:=Tryz.underlying4
 a4:=Tryz.isAgg4
 z4:=Tryz.sizeOf4
 v4:=Tryz.zeroValue4
 t5:=Tryz.underlying5
 a5:=Tryz.isAgg5
 z5:=Tryz.sizeOf5
 v5:=Tryz.zeroValue5
 t9:=Tryz.underlying9
 a9:=Tryz.isAgg9
 z9:=Tryz.sizeOf9
 v9:=Tryz.zeroValue9
 t20:=Tryz.underlying20
 a20:=Tryz.isAgg20
 z20:=Tryz.sizeOf20
 v20:=Tryz.zeroValue20
 t37:=Tryz.underlying103
 a37:=Tryz.isAgg103
 z37:=Tryz.sizeOf103
 v37:=Tryz.zeroValue103
 t46:=Tryz.underlying222
 a46:=Tryz.isAgg222
 z46:=Tryz.sizeOf222
 v46:=Tryz.zeroValue222
 t51:=Tryz.underlying257
 a51:=Tryz.isAgg257
 z51:=Tryz.sizeOf257
 v51:=Tryz.zeroValue257
 t53:=Tryz.underlying259
 a53:=Tryz.isAgg259
 z53:=Tryz.sizeOf259
 v53:=Tryz.zeroValue259
 t70:=Tryz.underlying102
 a70:=Tryz.isAgg102
 z70:=Tryz.sizeOf102
 v70:=Tryz.zeroValue102
 t72:=Tryz.underlying105
 a72:=Tryz.isAgg105
 z72:=Tryz.sizeOf105
 v72:=Tryz.zeroValue105
 t75:=Tryz.underlying113
 a75:=Tryz.isAgg113
 z75:=Tryz.sizeOf113
 v75:=Tryz.zeroValue113
 t76:=Tryz.underlying114
 a76:=Tryz.isAgg114
 z76:=Tryz.sizeOf114
 v76:=Tryz.zeroValue114
 t109:=Tryz.underlying261
 a109:=Tryz.isAgg261
 z109:=Tryz.sizeOf261
 v109:=Tryz.zeroValue261
 t127:=Tryz.underlying196
 a127:=Tryz.isAgg196
 z127:=Tryz.sizeOf196
 v127:=Tryz.zeroValue196
 t146:=Tryz.underlying277
 a146:=Tryz.isAgg277
 z146:=Tryz.sizeOf277
 v146:=Tryz.zeroValue277
 t148:=Tryz.underlying290
 a148:=Tryz.isAgg290
 z148:=Tryz.sizeOf290
 v148:=Tryz.zeroValue290
 t164:=Tryz.underlying235
 a164:=Tryz.isAgg235
 z164:=Tryz.sizeOf235
 v164:=Tryz.zeroValue235}
theorem Tryz.Builder_Extra_105:Builder.Extra Tryz.prog Tryz.lays105_ren:={
 sizeBuilder:=by kernel_rfl
 liesBuilder:=by kernel_rfl
 t5:=Tryz.underlying5
 a5:=Tryz.isAgg5
 z5:=Tryz.sizeOf5
 v5:=Tryz.zeroValue5
 infoByte:=by kernel_rfl
 cellsByte:=by kernel_rfl
 sizeByte:=by kernel_rfl
 neB5:=by decide}
open Go.RowKit Go.Lib in
theorem Tryz.strings_Repeat(s:ByteArray)(c:Nat)(w:World)(hc:c<=9223372036854775807)(hlen:s.size * c<=140737488355328):
  Calls Tryz.prog 186 #[.string s,.int .i64 c] w fun e w'=>e=.returned (.string ⟨(Lib.repeatL s.data.toList c).toArray⟩)/\Below w.heap.size w w':=Any.strings_Repeat Tryz.lays105 Tryz.Builder_Extra_105 s c w hc hlen
def Tryz.lays260_ren:Go.Shelf.Ren:=⟨fun | 260=>277 | n=>n,fun | 9=>9 | 21=>21 | 3=>3 | 4=>4 | 5=>5 | 119=>305 | 0=>0 | 46=>222 | 139=>308 | 138=>307 | n=>n,fun | 3=>4 | 4=>5 | n=>n⟩
theorem Tryz.lays260:Go.Proofs.Lays.n260 Tryz.prog Tryz.lays260_ren:={
 mixed:=by kernel_rfl
 f260:=Tryz.func277.trans cS
 t0:=Tryz.underlying0
 a0:=Tryz.isAgg0
 z0:=Tryz.sizeOf0
 v0:=Tryz.zeroValue0
 t3:=Tryz.underlying3
 a3:=Tryz.isAgg3
 z3:=Tryz.sizeOf3
 v3:=Tryz.zeroValue3
 t4:=Tryz.underlying4
 a4:=Tryz.isAgg4
 z4:=Tryz.sizeOf4
 v4:=Tryz.zeroValue4
 t5:=Tryz.underlying5
 a5:=Tryz.isAgg5
 z5:=Tryz.sizeOf5
 v5:=Tryz.zeroValue5
 t9:=Tryz.underlying9
 a9:=Tryz.isAgg9
 z9:=Tryz.sizeOf9
 v9:=Tryz.zeroValue9
 t21:=Tryz.underlying21
 a21:=Tryz.isAgg21
 z21:=Tryz.sizeOf21
 v21:=Tryz.zeroValue21
 t46:=Tryz.underlying222
 a46:=Tryz.isAgg222
 z46:=Tryz.sizeOf222
 v46:=Tryz.zeroValue222
 t119:=Tryz.underlying305
 a119:=Tryz.isAgg305
 z119:=Tryz.sizeOf305
 t138:=Tryz.underlying307
 a138:=Tryz.isAgg307
 z138:=Tryz.sizeOf307
 v138:=Tryz.zeroValue307
 t139:=Tryz.underlying308
 a139:=Tryz.isAgg308
 z139:=Tryz.sizeOf308
 v139:=Tryz.zeroValue308
 g3:=by kernel_rfl
 g4:=by kernel_rfl}
open Go.RowKit Go.Lib in
theorem Tryz.strings_lastIndexFunc_grows(g:Nat)(lb:Array Value)(eg:∀ args w,(callFunc g args).run Tryz.prog w=.ok (.enter g args) w)(p:Nat->Bool)(truth:Bool)(s:ByteArray)(w:World)(hs:s.size<=9223372036854775807)(hT:Lib.Utf8Tabs 4 5 w)(hp:PredGrows Tryz.prog g lb p w):
  Calls Tryz.prog 284 #[.string s,.func (.func g) #[] lb,.bool truth] w fun e w'=>e=.returned (.int .i64 (Lib.lastIdxFunc p truth s))/\Below w.heap.size w w':=Any.strings_lastIndexFunc_grows Tryz.lays273 g lb eg p truth s w hs hT hp
open Go.RowKit Go.Lib in
theorem Tryz.strings_IndexFunc_grows(g:Nat)(lb:Array Value)(eg:∀ args w,(callFunc g args).run Tryz.prog w=.ok (.enter g args) w)(p:Nat->Bool)(s:ByteArray)(w:World)(hp:PredGrows Tryz.prog g lb p w):
  Calls Tryz.prog 266 #[.string s,.func (.func g) #[] lb] w fun e w'=>e=.returned (.int .i64 (Lib.idxFunc p true s))/\Below w.heap.size w w':=Any.strings_IndexFunc_grows Tryz.laysGw15 g lb eg p s w hp
end Go.Proofs
namespace Go.Proofs.YthljkpeimofbbaaGreatDoor
section
open Go.ChangeShapes Go.WideShapes Go.ChangeAt Go.RowKit Go.Lib
theorem Q9{H:Type}{enc:TypeId×Value->H}{a:Assume}{C:Checked}{os:Os}{f:FuncId}{fn:Func}{s:ChangeSpec}{conds:List PathCond}{apart fresh handsOn again:Bool}{X:World->Array Value->Prop}
  (hX:∀(w w':World)(args:Array Value),w.heap=w'.heap->X w args->X w' args)
  (own:ownKnob C.prog.godebug=none) (started:os.Started) (noInit:C.prog.inits.idxOf? f=none) (hfn:C.prog.funcs[f]? =some fn)
  (witness:∃(w:World)(tape:Tape)(i:Input),w.os=os/\(w.forCall tape i).Shaped C.prog/\i.vars=[]/\Input.okWide C.prog (w.forCall tape i) .any w.heap.size f i/\
   ((s.pre enc C.prog fn conds apart (w.forCall tape i).memory i.args/\X (w.forCall tape i).memory i.args)/\sizedMet enc C.prog fn (OpenSpec.ofChange s) apart (w.forCall tape i).memory i.args)/\a.holds C.prog (lone (Frame.enter C.prog f i.args .normal) [] (w.forCall tape i)))
  (contract:∀(W:World)(base:Nat)(args:Array Value)(ds gs:List (DataW H))(before:List MemPlace),
   (∀(j:Nat) t v,fn.params[j]? =some t->args[j]? =some v->Value.okWide C.prog W .any base t v)->
   DataW.Whole enc C.prog fn.params.toList s.vars apart W args.toList ds gs before->
   (DataW.weightsEach C.prog (fn.params.toList++s.plain.varTypes C.prog) (ds++gs)).all (· <=reachBytes)=true->X W args->W.ShapedOpen C.prog->
   Calls C.prog f args W fun e W'=>∃ v,e=.returned v/\s.post enc C.prog fn apart fresh handsOn again W args v W'):
  ReturnsInHanded a C os f .any (fun w args=>(s.pre enc C.prog fn conds apart w args/\X w args)/\sizedMet enc C.prog fn (OpenSpec.ofChange s) apart w args) (s.post enc C.prog fn apart fresh handsOn again):=by
 refine returnsInHanded_of_calls own started noInit witness ?_;intro w tape i _ hsh _ hok hpre hholds;obtain⟨_,_,_,fn',hfn',_,_,_,_,hval⟩:=hok;have e:fn'=fn:=xW (hfn'.symm.trans hfn);subst e;obtain⟨⟨⟨ds,gs,before,hw,hc⟩,hx⟩,hz⟩:=hpre;have hw':=DataW.Whole.of_heap (w':=w.forCall tape i) (by rfl) hw;refine(contract (w.forCall tape i) w.heap.size i.args ds gs before hval hw' (hz.weights hw) (hX _ _ _ (by rfl) hx) hsh).mono fun e W' ⟨v,he,hp⟩=>?_;subst he;exact ChangeSpec.post_blind hp
abbrev N9:List (String×DataW Unit):=Rows.logsFoldsRow.laid
theorem T4:ownKnob Tryz.prog.godebug=none:=by kernel_rfl
theorem T2:(N9.all fun x=>x.2.handleName?.isNone)=true:=by kernel_rfl
theorem PJ{W:World}{name:String}{k:IntKind}{zs:List Int}{g:Nat}{t e:TypeId}{n:Nat}(h:VarReads Tryz.prog W name (tabData k zs))
  (hg:Tryz.prog.globalNamed name=some g) (hty:(Tryz.prog.globals[g]?).map (·.type)=some t) (ht:Tryz.prog.underlying t=some (.array n e)) (he:Tryz.prog.underlying e=some (.int k)) (hce:Tryz.prog.cellsOf e=1) (hct:Tryz.prog.cellsOf t=n):TabIs Tryz.prog W name k zs:=by
 obtain⟨g',t',cs,fuel,p,hg',ht',hvar,hd⟩:=h;obtain rfl:=xW (hg.symm.trans hg');obtain rfl:=xW (hty.symm.trans ht');unfold TabIs;rw[hvar,<-cells_of_tab ht he hce hct hd]
theorem u8x:U8Extra Tryz.prog Tryz.lays260_ren:=⟨by kernel_rfl,by kernel_rfl,by kernel_rfl,by kernel_rfl,by kernel_rfl,by kernel_rfl,by kernel_rfl⟩
theorem NC{W w:World}(h:∀ b o,MG W b=some o->w.heap[b]? =some o){b o:Nat}{v:Value}(hc:W.cell? ⟨b,o,none⟩=some v):w.cell? ⟨b,o,none⟩=some v:=by
 unfold World.cell? at hc ⊢;cases hb:W.heap[b]? with
 | none=>simp[hb]at hc
 | some x=>rw[h b x hb];simpa [hb]using hc
theorem Km{H:Type}{enc:TypeId×Value->H}{P:Program}{w:World}{base:Nat}{sp:Nat->Bool}{held:Bool}{fuel:Nat}{t:TypeId}{cs:List Value}{n:String}{d:DataW H}{p:List MemPlace}
  (hu:(match P.underlying t with | some (.interface _)=>true | _=>false)=true) (h:DataW.trod enc P w base sp held fuel t cs=some (.iface n d,p)):∃ u v,cs=[.iface u v]:=by
 obtain⟨m,hu⟩:∃ m,P.underlying t=some (.interface m):=by
  cases hk:P.underlying t with
  | none=>rw[hk]at hu;cases hu
  | some k=>
   rw[hk]at hu;cases k <;> first | exact⟨_,rfl⟩ | cases hu
 cases fuel with
 | zero=>cases h
 | succ f=>
  unfold DataW.trod at h;rw[hu]at h;split at h <;> first | (exact⟨_,_,rfl⟩) | (simp_all;done) | skip
  all_goals simp_all
theorem VM{W:World}(hL:laidMetH Tryz.prog N9 W)(hs:W.ShapedOpen Tryz.prog):Bw (MG W):=by
 rw[MakeChecks.laidMetH_plain _ _ _ T2]at hL;intro w hw;refine⟨?_,⟨fun c hc=>?_,fun i hi=>?_⟩,?_,?_,?_⟩
 ·have G:TabIs Tryz.prog W _ .u64 pow10Tab:=PJ (g:=1) (laidMet.reads hL (n:="internal/strconv.uint64pow10") (d:=tabData .u64 pow10Tab) (by
   show _∈([_,_,_,_,_,_,_]:List (String×DataW Unit));refine xD _ (xD _ (xL.2 (.inl ?_)));rfl)) (t:=293) (e:=259) (n:=20) (by kernel_rfl) (by kernel_rfl) (by kernel_rfl) (by kernel_rfl) (by kernel_rfl) (by kernel_rfl)
  unfold TabIs World.var? at G ⊢;cases hg:Tryz.prog.globalNamed "internal/strconv.uint64pow10" with
  | none=>rw[hg]at G;cases G
  | some g=>
   rw[hg]at G;simp only[oS]at G ⊢;cases hb:W.heap[g]? with
   | none=>rw[hb]at G;cases G
   | some x=>rw[hw g x hb];rw[hb]at G;exact G
 ·have I:VarReads Tryz.prog W "unicode/utf8.first" firstData:=laidMet.reads hL (by
   rw[<-Pinned.utf8First_eq];show _∈([_,_,_,_,_,_,_]:List (String×DataW Unit));refine xD _ (xD _ (xD _ (xD _ (xD _ (xD _ (xL.2 (.inl ?_)))))));rfl)
  have J:VarReads Tryz.prog W "unicode/utf8.acceptRanges" acceptData:=laidMet.reads hL (by
   show _∈([_,_,_,_,_,_,_]:List (String×DataW Unit));refine xD _ (xD _ (xD _ (xL.2 (.inl ?_))));rfl)
  exact NC hw ((utf8Tabs_of_reads Tryz.lays260 u8x I J).1 c hc)
 ·have I:VarReads Tryz.prog W "unicode/utf8.first" firstData:=laidMet.reads hL (by
   rw[<-Pinned.utf8First_eq];show _∈([_,_,_,_,_,_,_]:List (String×DataW Unit));refine xD _ (xD _ (xD _ (xD _ (xD _ (xD _ (xL.2 (.inl ?_)))))));rfl)
  have J:VarReads Tryz.prog W "unicode/utf8.acceptRanges" acceptData:=laidMet.reads hL (by
   show _∈([_,_,_,_,_,_,_]:List (String×DataW Unit));refine xD _ (xD _ (xD _ (xL.2 (.inl ?_))));rfl)
  have:=(utf8Tabs_of_reads Tryz.lays260 u8x I J).2 i hi;exact⟨NC hw this.1,NC hw this.2⟩
 ·obtain⟨m,hm⟩:∃ m,W.cell? ⟨0,0,none⟩=some (.int .i64 m):=cell_of_shapedOpen_int (zero:=#[.int .i64 0]) (t:=3) hs (of_decide_eq_true (by kernel_rfl)) (by kernel_rfl) rfl (by kernel_rfl) (by kernel_rfl) Tryz.underlying3;exact⟨m,NC hw hm⟩
 ·obtain ⟨g,t,cs,fuel,p,hg,ht,hvar,hd⟩:VarReads Tryz.prog W "strconv.ErrRange" Rows.laid_strconv_ErrRange:=laidMet.reads hL (by
   show _∈([_,_,_,_,_,_,_]:List (String×DataW Unit));refine xD _ (xD _ (xD _ (xD _ (xL.2 (.inl ?_)))));rfl)
  have hg':Tryz.prog.globalNamed "strconv.ErrRange" =some 3:=by kernel_rfl
  obtain rfl:=xW (hg'.symm.trans hg);have ht':(Tryz.prog.globals[3]?).map (·.type)=some 113:=by kernel_rfl
  obtain rfl:=xW (ht'.symm.trans ht);obtain ⟨u,v,e⟩:=Km (by kernel_rfl) hd;refine ⟨u,v,?_⟩;have on:w.var? Tryz.prog "strconv.ErrRange" =some cs:=by
   unfold World.var? at hvar ⊢;rw[hg']at hvar ⊢;simp only[oS]at hvar ⊢;cases hb:W.heap[3]? with
   | none=>rw[hb]at hvar;cases hvar
   | some x=>rw[hw 3 x hb];rw[hb]at hvar;exact hvar
  rw[on];congr 1;exact yZ e
 ·obtain ⟨g,t,cs,fuel,p,hg,ht,hvar,hd⟩:VarReads Tryz.prog W "strconv.ErrSyntax" Rows.laid_strconv_ErrSyntax:=laidMet.reads hL (by
   show _∈([_,_,_,_,_,_,_]:List (String×DataW Unit));refine xD _ (xD _ (xD _ (xD _ (xD _ (xL.2 (.inl ?_))))));rfl)
  have hg':Tryz.prog.globalNamed "strconv.ErrSyntax" =some 2:=by kernel_rfl
  obtain rfl:=xW (hg'.symm.trans hg);have ht':(Tryz.prog.globals[2]?).map (·.type)=some 113:=by kernel_rfl
  obtain rfl:=xW (ht'.symm.trans ht);obtain ⟨u,v,e⟩:=Km (by kernel_rfl) hd;refine ⟨u,v,?_⟩;have on:w.var? Tryz.prog "strconv.ErrSyntax" =some cs:=by
   unfold World.var? at hvar ⊢;rw[hg']at hvar ⊢;simp only[oS]at hvar ⊢;cases hb:W.heap[2]? with
   | none=>rw[hb]at hvar;cases hvar
   | some x=>rw[hw 2 x hb];rw[hb]at hvar;exact hvar
  rw[on];congr 1;exact yZ e
theorem Tt(os:Os)(args:Array Value):laidMetH Tryz.prog N9 (((World.laidAll Tryz.prog os N9).forCall (fun _ _=>0) ⟨#[],args,[]⟩).memory):=by
 rw[MakeChecks.laidMetH_plain _ _ _ T2];exact laidMet_laidAll _ (by kernel_rfl) (by kernel_rfl)
end
structure Ac where
 Report:Bool
 Serial:Bool
 Zone:Bool
 deriving DecidableEq
structure Ae where
 Report:Int
 Serial:Int
 Zone:Int
 deriving DecidableEq
structure Line where
 Num:Int
 Khz:Int
 Mode:Int
 Minute:Int
 Call:X6
 Sent:Ae
 Got:Ae
 deriving DecidableEq
structure Log where
 Call:X6
 Category:Int
 Power:Int
 Claimed:Int
 Jumps:(List Int)
 Lines:(List Line)
 deriving DecidableEq
structure Fix where
 Kind:Int
 Num:Int
 Line:Line
 deriving DecidableEq
structure A7 where
 List:(List Fix)
 Other:Log
 deriving DecidableEq
structure Fg where
 Kind:Int
 At:Int
 Text:X6
 deriving DecidableEq
structure SH where
 List:(List Fg)
 Cost:Int
 deriving DecidableEq
structure Span where
 Lo:Int
 Hi:Int
 deriving DecidableEq
structure Tj where
 Num:Int
 Call:X6
 Span:Span
 deriving DecidableEq
structure As where
 at_:Int
 stage_:Int
 num_:Int
 minute_:Int
 deriving DecidableEq
structure AA where
 x_:Line
 ok_:Bool
 deriving DecidableEq
structure Ar where
 o_:Ac
 lines_:(List X6)
 known_:(List (As×Int))
 read_:(List (X6×AA))
 deriving DecidableEq
structure AV where
 has_:Bool
 n_:Int
 most_:Int
 digits_:Int
 deriving DecidableEq
structure Bl where
 Area:X6
 Prefix:X6
 Suffix:X6
 Stroke:X6
 deriving DecidableEq
structure TE where
 Kind:Int
 Cost:Int
 Num:Int
 Minute:Int
 deriving DecidableEq
structure Aw where
 o_:Ac
 l_:Log
 deriving DecidableEq
structure BK where
 words_:Int
 split_:((List X6)->Option (Bl×Bool))
def UY:Ty Ac:=⟨3,true,fun _ cs x=>cs=[.bool x.Report,.bool x.Serial,.bool x.Zone],
 fun h=>by subst h;rfl,
 fun _ h=>h,rfl⟩
def S6:Ty Ae:=⟨3,true,fun _ cs x=>cs=[.int .i64 x.Report,.int .i64 x.Serial,.int .i64 x.Zone],
 fun h=>by subst h;rfl,
 fun _ h=>h,rfl⟩
def Av:Ty Line:=⟨11,true,fun _ cs x=>cs=[.int .i64 x.Num,.int .i64 x.Khz,.int .i64 x.Mode,.int .i64 x.Minute,.string ⟨(x.Call).toArray⟩,.int .i64 x.Sent.Report,.int .i64 x.Sent.Serial,.int .i64 x.Sent.Zone,.int .i64 x.Got.Report,.int .i64 x.Got.Serial,.int .i64 x.Got.Zone],
 fun h=>by subst h;rfl,
 fun _ h=>h,rfl⟩
theorem G5:Av.One:=fun h=>by first | (subst h;rfl) | (obtain rfl:=h;rfl)
def WQ:Ty Log:=⟨6,true,fun F cs x=>∃(a_4:X7)(n_4:Nat)(a_5:X7)(n_5:Nat),cs=[.string ⟨(x.Call).toArray⟩,.int .i64 x.Category,.int .i64 x.Power,.int .i64 x.Claimed,.slice a_4 x.Jumps.length n_4,.slice a_5 x.Lines.length n_5]/\LC x.Jumps.length n_4/\SlA AK F a_4 x.Jumps/\LC x.Lines.length n_5/\SlA Av F a_5 x.Lines,
 fun h=>by obtain⟨a_4,n_4,a_5,n_5,rfl,_,_,_,_⟩:=h;rfl,
 fun hl h=>by obtain⟨a_4,n_4,a_5,n_5,hc,hb_4,hs_4,hb_5,hs_5⟩:=h;exact⟨a_4,n_4,a_5,n_5,hc,hb_4,hs_4.mono hl,hb_5,hs_5.mono hl⟩,rfl⟩
def Bx:Ty Fix:=⟨13,true,fun _ cs x=>cs=[.int .i64 x.Kind,.int .i64 x.Num,.int .i64 x.Line.Num,.int .i64 x.Line.Khz,.int .i64 x.Line.Mode,.int .i64 x.Line.Minute,.string ⟨(x.Line.Call).toArray⟩,.int .i64 x.Line.Sent.Report,.int .i64 x.Line.Sent.Serial,.int .i64 x.Line.Sent.Zone,.int .i64 x.Line.Got.Report,.int .i64 x.Line.Got.Serial,.int .i64 x.Line.Got.Zone],
 fun h=>by subst h;rfl,
 fun _ h=>h,rfl⟩
theorem OS:Bx.One:=fun h=>by first | (subst h;rfl) | (obtain rfl:=h;rfl)
def Ky:Ty A7:=⟨7,true,fun F cs x=>∃(a_0:X7)(n_0:Nat)(a_5:X7)(n_5:Nat)(a_6:X7)(n_6:Nat),cs=[.slice a_0 x.List.length n_0,.string ⟨(x.Other.Call).toArray⟩,.int .i64 x.Other.Category,.int .i64 x.Other.Power,.int .i64 x.Other.Claimed,.slice a_5 x.Other.Jumps.length n_5,.slice a_6 x.Other.Lines.length n_6]/\LC x.List.length n_0/\SlA Bx F a_0 x.List/\LC x.Other.Jumps.length n_5/\SlA AK F a_5 x.Other.Jumps/\LC x.Other.Lines.length n_6/\SlA Av F a_6 x.Other.Lines,
 fun h=>by obtain⟨a_0,n_0,a_5,n_5,a_6,n_6,rfl,_,_,_,_,_,_⟩:=h;rfl,
 fun hl h=>by obtain⟨a_0,n_0,a_5,n_5,a_6,n_6,hc,hb_0,hs_0,hb_5,hs_5,hb_6,hs_6⟩:=h;exact⟨a_0,n_0,a_5,n_5,a_6,n_6,hc,hb_0,hs_0.mono hl,hb_5,hs_5.mono hl,hb_6,hs_6.mono hl⟩,rfl⟩
def KZ:Ty Fg:=⟨3,true,fun _ cs x=>cs=[.int .i64 x.Kind,.int .i64 x.At,.string ⟨(x.Text).toArray⟩],
 fun h=>by subst h;rfl,
 fun _ h=>h,rfl⟩
theorem WZ:KZ.One:=fun h=>by first | (subst h;rfl) | (obtain rfl:=h;rfl)
def AG:Ty As:=⟨4,true,fun _ cs x=>cs=[.int .i64 x.at_,.int .i64 x.stage_,.int .i64 x.num_,.int .i64 x.minute_],
 fun h=>by subst h;rfl,
 fun _ h=>h,rfl⟩
def AB:Ty AA:=⟨12,true,fun _ cs x=>cs=[.int .i64 x.x_.Num,.int .i64 x.x_.Khz,.int .i64 x.x_.Mode,.int .i64 x.x_.Minute,.string ⟨(x.x_.Call).toArray⟩,.int .i64 x.x_.Sent.Report,.int .i64 x.x_.Sent.Serial,.int .i64 x.x_.Sent.Zone,.int .i64 x.x_.Got.Report,.int .i64 x.x_.Got.Serial,.int .i64 x.x_.Got.Zone,.bool x.ok_],
 fun h=>by subst h;rfl,
 fun _ h=>h,rfl⟩
def JN:Ty AV:=⟨4,true,fun _ cs x=>cs=[.bool x.has_,.int .i64 x.n_,.int .i64 x.most_,.int .i64 x.digits_],
 fun h=>by subst h;rfl,
 fun _ h=>h,rfl⟩
def S3(F:Mem)(gq:FuncId)(fq kq:List Value)(q:(List X6)->Option (Bl×Bool)):Prop:=∀(w':World)(F':Mem)(G:(List X6))(I:X7)(J:Nat)(h0:LC G.length J)(h1:SlA AR F' I G)(r:(Bl×Bool)),XI F F'->(∀ b o,F' b=some o->w'.heap[b]? =some o)->q G=some r->Calls Tryz.prog gq ((fq:List Value)++(([.slice I G.length J]:List Value)++kq)).toArray w' (AD w' F' fun F'' v=>v=(.tuple #[.agg #[.string ⟨(r.1.Area).toArray⟩,.string ⟨(r.1.Prefix).toArray⟩,.string ⟨(r.1.Suffix).toArray⟩,.string ⟨(r.1.Stroke).toArray⟩],.bool r.2]))
theorem S3.mono{F F1:Mem}{gq:FuncId}{fq kq:List Value}{q:(List X6)->Option (Bl×Bool)}(h:S3 F gq fq kq q)(hl:XI F F1):S3 F1 gq fq kq q:=fun w1 G I J M O U r Y Z h0=>h w1 G I J M O U r (hl.trans Y) Z h0
def Pe:Ty BK:=⟨2,true,fun F cs x=>∃(g_1:FuncId)(f_1 k_1:List Value),cs=[.int .i64 x.words_,.func (.func g_1) f_1.toArray k_1.toArray]/\Ag Tryz.prog g_1/\S3 F g_1 f_1 k_1 x.split_,
 fun h=>by obtain⟨g_1,f_1,k_1,rfl,_,_⟩:=h;rfl,
 fun hl h=>by obtain⟨g_1,f_1,k_1,hc,ho_1,hp_1⟩:=h;exact⟨g_1,f_1,k_1,hc,ho_1,hp_1.mono hl⟩,rfl⟩
def MT(F:Mem)(gq:FuncId)(fq kq:List Value)(q:Int->Option Bool):Prop:=∀(w':World)(F':Mem)(G:Int)(r:Bool),XI F F'->(∀ b o,F' b=some o->w'.heap[b]? =some o)->q G=some r->Calls Tryz.prog gq ((fq:List Value)++(([.int .i32 G]:List Value)++kq)).toArray w' (AD w' F' fun F'' v=>v=(.bool r))
theorem MT.mono{F F1:Mem}{gq:FuncId}{fq kq:List Value}{q:Int->Option Bool}(h:MT F gq fq kq q)(hl:XI F F1):MT F1 gq fq kq q:=fun w1 G I r J M O=>h w1 G I r (hl.trans J) M O
def UT(F:Mem)(gq:FuncId)(fq kq:List Value)(q:Line->Option Bool):Prop:=∀(w':World)(F':Mem)(G:Line)(r:Bool),XI F F'->(∀ b o,F' b=some o->w'.heap[b]? =some o)->q G=some r->Calls Tryz.prog gq ((fq:List Value)++(([.agg #[.int .i64 G.Num,.int .i64 G.Khz,.int .i64 G.Mode,.int .i64 G.Minute,.string ⟨(G.Call).toArray⟩,.int .i64 G.Sent.Report,.int .i64 G.Sent.Serial,.int .i64 G.Sent.Zone,.int .i64 G.Got.Report,.int .i64 G.Got.Serial,.int .i64 G.Got.Zone]]:List Value)++kq)).toArray w' (AD w' F' fun F'' v=>v=(.bool r))
theorem UT.mono{F F1:Mem}{gq:FuncId}{fq kq:List Value}{q:Line->Option Bool}(h:UT F gq fq kq q)(hl:XI F F1):UT F1 gq fq kq q:=fun w1 G I r J M O=>h w1 G I r (hl.trans J) M O
def US(F:Mem)(gq:FuncId)(fq kq:List Value)(q:Line->Option Int):Prop:=∀(w':World)(F':Mem)(G:Line)(r:Int),XI F F'->(∀ b o,F' b=some o->w'.heap[b]? =some o)->q G=some r->Calls Tryz.prog gq ((fq:List Value)++(([.agg #[.int .i64 G.Num,.int .i64 G.Khz,.int .i64 G.Mode,.int .i64 G.Minute,.string ⟨(G.Call).toArray⟩,.int .i64 G.Sent.Report,.int .i64 G.Sent.Serial,.int .i64 G.Sent.Zone,.int .i64 G.Got.Report,.int .i64 G.Got.Serial,.int .i64 G.Got.Zone]]:List Value)++kq)).toArray w' (AD w' F' fun F'' v=>v=(.int .i64 r))
theorem US.mono{F F1:Mem}{gq:FuncId}{fq kq:List Value}{q:Line->Option Int}(h:US F gq fq kq q)(hl:XI F F1):US F1 gq fq kq q:=fun w1 G I r J M O=>h w1 G I r (hl.trans J) M O
def RB(F:Mem)(gq:FuncId)(fq kq:List Value)(q:AV->Option Bool):Prop:=∀(w':World)(F':Mem)(G:AV)(r:Bool),XI F F'->(∀ b o,F' b=some o->w'.heap[b]? =some o)->q G=some r->Calls Tryz.prog gq ((fq:List Value)++(([.agg #[.bool G.has_,.int .i64 G.n_,.int .i64 G.most_,.int .i64 G.digits_]]:List Value)++kq)).toArray w' (AD w' F' fun F'' v=>v=(.bool r))
theorem RB.mono{F F1:Mem}{gq:FuncId}{fq kq:List Value}{q:AV->Option Bool}(h:RB F gq fq kq q)(hl:XI F F1):RB F1 gq fq kq q:=fun w1 G I r J M O=>h w1 G I r (hl.trans J) M O
def UR(F:Mem)(gq:FuncId)(fq kq:List Value)(q:X6->Bool->Option Bool):Prop:=∀(w':World)(F':Mem)(G:X6)(I:Bool)(r:Bool),XI F F'->(∀ b o,F' b=some o->w'.heap[b]? =some o)->q G I=some r->Calls Tryz.prog gq ((fq:List Value)++(([.string ⟨(G).toArray⟩,.bool I]:List Value)++kq)).toArray w' (AD w' F' fun F'' v=>v=(.bool r))
theorem UR.mono{F F1:Mem}{gq:FuncId}{fq kq:List Value}{q:X6->Bool->Option Bool}(h:UR F gq fq kq q)(hl:XI F F1):UR F1 gq fq kq q:=fun w1 G I J r M O U=>h w1 G I J r (hl.trans M) O U
def JM(F:Mem)(gq:FuncId)(fq kq:List Value)(q:X6->Option (Bl×Bool)):Prop:=∀(w':World)(F':Mem)(G:X6)(r:(Bl×Bool)),XI F F'->(∀ b o,F' b=some o->w'.heap[b]? =some o)->q G=some r->Calls Tryz.prog gq ((fq:List Value)++(([.string ⟨(G).toArray⟩]:List Value)++kq)).toArray w' (AD w' F' fun F'' v=>v=(.tuple #[.agg #[.string ⟨(r.1.Area).toArray⟩,.string ⟨(r.1.Prefix).toArray⟩,.string ⟨(r.1.Suffix).toArray⟩,.string ⟨(r.1.Stroke).toArray⟩],.bool r.2]))
theorem JM.mono{F F1:Mem}{gq:FuncId}{fq kq:List Value}{q:X6->Option (Bl×Bool)}(h:JM F gq fq kq q)(hl:XI F F1):JM F1 gq fq kq q:=fun w1 G I r J M O=>h w1 G I r (hl.trans J) M O
def S2(F:Mem)(gq:FuncId)(fq kq:List Value)(q:Line->Int->Option Int):Prop:=∀(w':World)(F':Mem)(G:Line)(I:Int)(r:Int),XI F F'->(∀ b o,F' b=some o->w'.heap[b]? =some o)->q G I=some r->Calls Tryz.prog gq ((fq:List Value)++(([.agg #[.int .i64 G.Num,.int .i64 G.Khz,.int .i64 G.Mode,.int .i64 G.Minute,.string ⟨(G.Call).toArray⟩,.int .i64 G.Sent.Report,.int .i64 G.Sent.Serial,.int .i64 G.Sent.Zone,.int .i64 G.Got.Report,.int .i64 G.Got.Serial,.int .i64 G.Got.Zone],.int .i64 I]:List Value)++kq)).toArray w' (AD w' F' fun F'' v=>v=(.int .i64 r))
theorem S2.mono{F F1:Mem}{gq:FuncId}{fq kq:List Value}{q:Line->Int->Option Int}(h:S2 F gq fq kq q)(hl:XI F F1):S2 F1 gq fq kq q:=fun w1 G I J r M O U=>h w1 G I J r (hl.trans M) O U
abbrev Ah(x:Ac):Array Value:=#[.bool x.Report,.bool x.Serial,.bool x.Zone]
abbrev B0(x:Ae):Array Value:=#[.int .i64 x.Report,.int .i64 x.Serial,.int .i64 x.Zone]
abbrev Bo(x:Line):Array Value:=#[.int .i64 x.Num,.int .i64 x.Khz,.int .i64 x.Mode,.int .i64 x.Minute,.string ⟨(x.Call).toArray⟩,.int .i64 x.Sent.Report,.int .i64 x.Sent.Serial,.int .i64 x.Sent.Zone,.int .i64 x.Got.Report,.int .i64 x.Got.Serial,.int .i64 x.Got.Zone]
abbrev Au(x:Log)(G:X7)(I:Nat)(J:X7)(M:Nat):Array Value:=#[.string ⟨(x.Call).toArray⟩,.int .i64 x.Category,.int .i64 x.Power,.int .i64 x.Claimed,.slice G x.Jumps.length I,.slice J x.Lines.length M]
abbrev Ci(x:Fix):Array Value:=#[.int .i64 x.Kind,.int .i64 x.Num,.int .i64 x.Line.Num,.int .i64 x.Line.Khz,.int .i64 x.Line.Mode,.int .i64 x.Line.Minute,.string ⟨(x.Line.Call).toArray⟩,.int .i64 x.Line.Sent.Report,.int .i64 x.Line.Sent.Serial,.int .i64 x.Line.Sent.Zone,.int .i64 x.Line.Got.Report,.int .i64 x.Line.Got.Serial,.int .i64 x.Line.Got.Zone]
abbrev Cv(x:A7)(G:X7)(I:Nat)(J:X7)(M:Nat)(O:X7)(U:Nat):Array Value:=#[.slice G x.List.length I,.string ⟨(x.Other.Call).toArray⟩,.int .i64 x.Other.Category,.int .i64 x.Other.Power,.int .i64 x.Other.Claimed,.slice J x.Other.Jumps.length M,.slice O x.Other.Lines.length U]
abbrev Hc(x:Fg):Array Value:=#[.int .i64 x.Kind,.int .i64 x.At,.string ⟨(x.Text).toArray⟩]
abbrev Al(x:As):Array Value:=#[.int .i64 x.at_,.int .i64 x.stage_,.int .i64 x.num_,.int .i64 x.minute_]
abbrev FC(x:AA):Array Value:=#[.int .i64 x.x_.Num,.int .i64 x.x_.Khz,.int .i64 x.x_.Mode,.int .i64 x.x_.Minute,.string ⟨(x.x_.Call).toArray⟩,.int .i64 x.x_.Sent.Report,.int .i64 x.x_.Sent.Serial,.int .i64 x.x_.Sent.Zone,.int .i64 x.x_.Got.Report,.int .i64 x.x_.Got.Serial,.int .i64 x.x_.Got.Zone,.bool x.ok_]
abbrev JU(x:AV):Array Value:=#[.bool x.has_,.int .i64 x.n_,.int .i64 x.most_,.int .i64 x.digits_]
abbrev Dh(x:Bl):Array Value:=#[.string ⟨(x.Area).toArray⟩,.string ⟨(x.Prefix).toArray⟩,.string ⟨(x.Suffix).toArray⟩,.string ⟨(x.Stroke).toArray⟩]
abbrev AH(x:Aw)(G:X7)(I:Nat)(J:X7)(M:Nat):Array Value:=#[.bool x.o_.Report,.bool x.o_.Serial,.bool x.o_.Zone,.string ⟨(x.l_.Call).toArray⟩,.int .i64 x.l_.Category,.int .i64 x.l_.Power,.int .i64 x.l_.Claimed,.slice G x.l_.Jumps.length I,.slice J x.l_.Lines.length M]
abbrev zG:Array Value:=#[sv ([]:X6),vi 0,vi 0,vi 0,sN Int,sN Line]
abbrev zE:Ae:={Report:=0,Serial:=0,Zone:=0}
abbrev zL:Line:=({Num:=0,Khz:=0,Mode:=0,Minute:=0,Call:=([]:X6),Sent:=zE,Got:=zE}:Line)
abbrev zO:Log:=({Call:=([]:X6),Category:=0,Power:=0,Claimed:=0,Jumps:=([]:List Int),Lines:=([]:List Line)}:Log)
abbrev zX:AA:={x_:=zL,ok_:=false}
abbrev lY(l:Ac):Ac:={Report:=l.Report,Serial:=l.Serial,Zone:=l.Zone}
abbrev kU(o:Ac)(l:Log)(a:X7)(c:Nat)(b:X7)(d:Nat):=kT (.bool o.Report) (.bool o.Serial) (.bool o.Zone) (sv l.Call) (vi l.Category) (vi l.Power) (vi l.Claimed) (sL a l.Jumps c) (sL b l.Lines d)
abbrev kW{β:Type}(s:Bool×Bool×Bool×X6×Int×Int×Int×List Int×List Line×β)(a:X7)(c:Nat)(b:X7)(d:Nat):=kT (.bool s.1) (.bool s.2.1) (.bool s.2.2.1) (sv s.2.2.2.1) (vi s.2.2.2.2.1) (vi s.2.2.2.2.2.1) (vi s.2.2.2.2.2.2.1) (sL a s.2.2.2.2.2.2.2.1 c) (sL b s.2.2.2.2.2.2.2.2.1 d)
abbrev tB(t0 t1 t2 t3 t4 t5 t6 t7 t8 t9 t10 t11:Nat):List Value:=[fV 153 #[],fV 154 #[],fV 190 #[pt t0 0,pt t1 0,pt t2 0,pt t3 0],fV 191 #[pt t0 0,pt t3 0],fV 190 #[pt t4 0,pt t5 0,pt t6 0,pt t7 0],fV 191 #[pt t4 0,pt t7 0],fV 190 #[pt t8 0,pt t9 0,pt t10 0,pt t11 0],fV 191 #[pt t8 0,pt t11 0],fV 159 #[],fV 160 #[]]
abbrev rD(o:Ac)(a:X7)(l:List X6)(c y z:Nat):Array Value:=#[.bool o.Report,.bool o.Serial,.bool o.Zone,sL a l c,.map (some y),.map (some z)]
def Vj(x:Ac):Prop:=(fun _=>True) x.Report/\(fun _=>True) x.Serial/\(fun _=>True) x.Zone
theorem MV:AY Tryz.prog 23 UY Vj:=by
 refine⟨fun{H enc W fuel cs x} h hw=>?_,by kernel_rfl⟩;obtain⟨G,J,M⟩:=AY.field (KF (t:=4) (by kernel_rfl) (by kernel_rfl):AY Tryz.prog 4 So _) (t:=23) (i:=0) (off:=0) (by kernel_rfl) h hw;obtain⟨I,O,U⟩:=AY.field (KF (t:=4) (by kernel_rfl) (by kernel_rfl):AY Tryz.prog 4 So _) (t:=23) (i:=1) (off:=1) (by kernel_rfl) h hw;obtain⟨a2,Y,Z⟩:=AY.field (KF (t:=4) (by kernel_rfl) (by kernel_rfl):AY Tryz.prog 4 So _) (t:=23) (i:=2) (off:=2) (by kernel_rfl) h hw;have hl:=Fp (k:=3) (by kernel_rfl) (by decide) h;clear h
 match cs,hl with
 | [c0,c1,c2],_=>
  have e0:[c0]=[.bool G]:=J;cases e0;have e1:[c1]=[.bool I]:=O;cases e1;have e2:[c2]=[.bool a2]:=Y;cases e2;exact⟨{Report:=G,Serial:=I,Zone:=a2},rfl,⟨M,U,Z⟩⟩
def L8(x:Ae):Prop:=rI x.Report/\rI x.Serial/\rI x.Zone
theorem G4:AY Tryz.prog 32 S6 L8:=by
 refine⟨fun{H enc W fuel cs x} h hw=>?_,by kernel_rfl⟩;obtain⟨G,J,M⟩:=AY.field (Cm (t:=3) (by kernel_rfl) (by kernel_rfl):AY Tryz.prog 3 AK rI) (t:=32) (i:=0) (off:=0) (by kernel_rfl) h hw;obtain⟨I,O,U⟩:=AY.field (Cm (t:=3) (by kernel_rfl) (by kernel_rfl):AY Tryz.prog 3 AK rI) (t:=32) (i:=1) (off:=1) (by kernel_rfl) h hw;obtain⟨a2,Y,Z⟩:=AY.field (Cm (t:=3) (by kernel_rfl) (by kernel_rfl):AY Tryz.prog 3 AK rI) (t:=32) (i:=2) (off:=2) (by kernel_rfl) h hw;have hl:=Fp (k:=3) (by kernel_rfl) (by decide) h;clear h
 match cs,hl with
 | [c0,c1,c2],_=>
  have e0:[c0]=[.int .i64 G]:=J;cases e0;have e1:[c1]=[.int .i64 I]:=O;cases e1;have e2:[c2]=[.int .i64 a2]:=Y;cases e2;exact⟨{Report:=G,Serial:=I,Zone:=a2},rfl,⟨M,U,Z⟩⟩
def TX(x:Line):Prop:=rI x.Num/\rI x.Khz/\rI x.Mode/\rI x.Minute/\rS x.Call/\L8 x.Sent/\L8 x.Got
theorem Kh:AY Tryz.prog 34 Av TX:=by
 refine⟨fun{H enc W fuel cs x} h hw=>?_,by kernel_rfl⟩;obtain⟨J,Y,Z⟩:=AY.field (Cm (t:=3) (by kernel_rfl) (by kernel_rfl):AY Tryz.prog 3 AK rI) (t:=34) (i:=0) (off:=0) (by kernel_rfl) h hw;obtain⟨M,r1,q1⟩:=AY.field (Cm (t:=3) (by kernel_rfl) (by kernel_rfl):AY Tryz.prog 3 AK rI) (t:=34) (i:=1) (off:=1) (by kernel_rfl) h hw;obtain⟨a2,r2,q2⟩:=AY.field (Cm (t:=3) (by kernel_rfl) (by kernel_rfl):AY Tryz.prog 3 AK rI) (t:=34) (i:=2) (off:=2) (by kernel_rfl) h hw;obtain⟨O,r3,q3⟩:=AY.field (Cm (t:=3) (by kernel_rfl) (by kernel_rfl):AY Tryz.prog 3 AK rI) (t:=34) (i:=3) (off:=3) (by kernel_rfl) h hw;obtain⟨U,r4,q4⟩:=AY.field (Po (t:=9) (by kernel_rfl) (by kernel_rfl):AY Tryz.prog 9 AR rS) (t:=34) (i:=4) (off:=4) (by kernel_rfl) h hw;obtain⟨G,r5,q5⟩:=AY.field G4 (t:=34) (i:=5) (off:=5) (by kernel_rfl) h hw;obtain⟨I,r6,q6⟩:=AY.field G4 (t:=34) (i:=6) (off:=8) (by kernel_rfl) h hw;have hl:=Fp (k:=11) (by kernel_rfl) (by decide) h;clear h
 match cs,hl with
 | [c0,c1,c2,c3,c4,c5,c6,c7,c8,c9,h0],_=>
  have e0:[c0]=[.int .i64 J]:=Y;cases e0;have e1:[c1]=[.int .i64 M]:=r1;cases e1;have e2:[c2]=[.int .i64 a2]:=r2;cases e2;have e3:[c3]=[.int .i64 O]:=r3;cases e3;have e4:[c4]=[.string ⟨U.toArray⟩]:=r4;cases e4;have e5:[c5,c6,c7]=[.int .i64 G.Report,.int .i64 G.Serial,.int .i64 G.Zone]:=r5;cases e5;have e6:[c8,c9,h0]=[.int .i64 I.Report,.int .i64 I.Serial,.int .i64 I.Zone]:=r6;cases e6;exact⟨{Num:=J,Khz:=M,Mode:=a2,Minute:=O,Call:=U,Sent:=G,Got:=I},rfl,⟨Z,q1,q2,q3,q4,q5,q6⟩⟩
def WV(x:Log):Prop:=rS x.Call/\rI x.Category/\rI x.Power/\rI x.Claimed/\(fun l=>l.length < 9223372036854775808/\ ∀ x,x∈l->rI x) x.Jumps/\(fun l=>l.length < 9223372036854775808/\ ∀ x,x∈l->TX x) x.Lines
theorem Le:AY Tryz.prog 27 WQ WV:=by
 refine⟨fun{H enc W fuel cs x} h hw=>?_,by kernel_rfl⟩;obtain⟨I,O,U⟩:=AY.field (Po (t:=9) (by kernel_rfl) (by kernel_rfl):AY Tryz.prog 9 AR rS) (t:=27) (i:=0) (off:=0) (by kernel_rfl) h hw;obtain⟨J,Y,Z⟩:=AY.field (Cm (t:=3) (by kernel_rfl) (by kernel_rfl):AY Tryz.prog 3 AK rI) (t:=27) (i:=1) (off:=1) (by kernel_rfl) h hw;obtain⟨a2,r2,q2⟩:=AY.field (Cm (t:=3) (by kernel_rfl) (by kernel_rfl):AY Tryz.prog 3 AK rI) (t:=27) (i:=2) (off:=2) (by kernel_rfl) h hw;obtain⟨M,r3,q3⟩:=AY.field (Cm (t:=3) (by kernel_rfl) (by kernel_rfl):AY Tryz.prog 3 AK rI) (t:=27) (i:=3) (off:=3) (by kernel_rfl) h hw;obtain⟨a4,r4,q4⟩:=AY.field (Jc (t:=24) (Cm (t:=3) (by kernel_rfl) (by kernel_rfl):AY Tryz.prog 3 AK rI) (by decide) (by kernel_rfl) (by kernel_rfl):AY Tryz.prog 24 (tSl AK) _) (t:=27) (i:=4) (off:=4) (by kernel_rfl) h hw;obtain⟨a5,r5,q5⟩:=AY.field (Jc (t:=25) Kh (by decide) (by kernel_rfl) (by kernel_rfl):AY Tryz.prog 25 (tSl Av) _) (t:=27) (i:=5) (off:=5) (by kernel_rfl) h hw;have hl:=Fp (k:=6) (by kernel_rfl) (by decide) h;clear h
 match cs,hl with
 | [c0,c1,c2,c3,c4,c5],_=>
  have e0:[c0]=[.string ⟨I.toArray⟩]:=O;cases e0;have e1:[c1]=[.int .i64 J]:=Y;cases e1;have e2:[c2]=[.int .i64 a2]:=r2;cases e2;have e3:[c3]=[.int .i64 M]:=r3;cases e3;obtain⟨p4,n4,G,b4,s4⟩:=r4;have G:[c4]=_:=G;cases G;obtain⟨p5,n5,e5,b5,s5⟩:=r5;have e5:[c5]=_:=e5;cases e5;exact⟨{Call:=I,Category:=J,Power:=a2,Claimed:=M,Jumps:=a4,Lines:=a5},⟨p4,n4,p5,n5,rfl,b4,s4,b5,s5⟩,⟨U,Z,q2,q3,q4,q5⟩⟩
def WW(x:Fix):Prop:=rI x.Kind/\rI x.Num/\TX x.Line
theorem P1:AY Tryz.prog 64 Bx WW:=by
 refine⟨fun{H enc W fuel cs x} h hw=>?_,by kernel_rfl⟩;obtain⟨G,J,M⟩:=AY.field (Cm (t:=3) (by kernel_rfl) (by kernel_rfl):AY Tryz.prog 3 AK rI) (t:=64) (i:=0) (off:=0) (by kernel_rfl) h hw;obtain⟨I,O,U⟩:=AY.field (Cm (t:=3) (by kernel_rfl) (by kernel_rfl):AY Tryz.prog 3 AK rI) (t:=64) (i:=1) (off:=1) (by kernel_rfl) h hw;obtain⟨a2,Y,Z⟩:=AY.field Kh (t:=64) (i:=2) (off:=2) (by kernel_rfl) h hw;have hl:=Fp (k:=13) (by kernel_rfl) (by decide) h;clear h
 match cs,hl with
 | [c0,c1,c2,c3,c4,c5,c6,c7,c8,c9,h0,h1,h2],_=>
  have e0:[c0]=[.int .i64 G]:=J;cases e0;have e1:[c1]=[.int .i64 I]:=O;cases e1;have e2:[c2,c3,c4,c5,c6,c7,c8,c9,h0,h1,h2]=[.int .i64 a2.Num,.int .i64 a2.Khz,.int .i64 a2.Mode,.int .i64 a2.Minute,.string ⟨a2.Call.toArray⟩,.int .i64 a2.Sent.Report,.int .i64 a2.Sent.Serial,.int .i64 a2.Sent.Zone,.int .i64 a2.Got.Report,.int .i64 a2.Got.Serial,.int .i64 a2.Got.Zone]:=Y;cases e2;exact⟨{Kind:=G,Num:=I,Line:=a2},rfl,⟨M,U,Z⟩⟩
def ED(x:A7):Prop:=(fun l=>l.length < 9223372036854775808/\ ∀ x,x∈l->WW x) x.List/\WV x.Other
theorem GH:AY Tryz.prog 62 Ky ED:=by
 refine⟨fun{H enc W fuel cs x} h hw=>?_,by kernel_rfl⟩;obtain⟨J,M,O⟩:=AY.field (Jc (t:=60) P1 (by decide) (by kernel_rfl) (by kernel_rfl):AY Tryz.prog 60 (tSl Bx) _) (t:=62) (i:=0) (off:=0) (by kernel_rfl) h hw;obtain⟨U,Y,Z⟩:=AY.field Le (t:=62) (i:=1) (off:=1) (by kernel_rfl) h hw;have hl:=Fp (k:=7) (by kernel_rfl) (by decide) h;clear h
 match cs,hl with
 | [c0,c1,c2,c3,c4,c5,c6],_=>
  obtain⟨p0,n0,G,b0,s0⟩:=M;have G:[c0]=_:=G;cases G;obtain⟨h0,h1,h2,h3,I,h4,h5,h6,h7⟩:=Y;have I:[c1,c2,c3,c4,c5,c6]=_:=I;cases I;exact⟨{List:=J,Other:=U},⟨p0,n0,h0,h1,h2,h3,rfl,b0,s0,h4,h5,h6,h7⟩,⟨O,Z⟩⟩
theorem BA{a b:Bool}(ha:a=true)(hb:b=true):(a&&b)=true:=by rw[ha,hb];rfl
theorem Xw:(laidOutB Tryz.pinned.checked.prog)=true:=by kernel_rfl
theorem Xv:(mapsRowed Tryz.pinned.checked.prog)=true:=by kernel_rfl
theorem Xu:(Tryz.pinned.checked.prog.stops==[])=true:=by kernel_rfl
theorem Xt:(Tryz.pinned.checked.prog.stopKnobs==[])=true:=by kernel_rfl
theorem Xd:(Rows.logsFoldsRow.plainKeys==Tryz.pinned.checked.prog.plainKeys)=true:=by kernel_rfl
theorem Xc:(Tryz.pinned.checked.prog.stopsHeard)=true:=by kernel_rfl
theorem Xb:(Tryz.pinned.checked.prog.mayEnter)=true:=by kernel_rfl
theorem Xa:(Rows.logsFoldsRow.lifted==Tryz.pinned.checked.prog.liftsFinal)=true:=by kernel_rfl
theorem W9:(Tryz.pinned.checked.prog.make==some Rows.logsFoldsRow.make)=true:=by kernel_rfl
theorem VN:Tryz.pinned.checked.prog.mainIs=some (true,"8c4ab1a80a7e2c52077e9b3380faa1f8d4c3b8948d98da10affddce30d58f5b7".toList):=by kernel_rfl
theorem Us:true=Tryz.pinned.checked.prog.looks []:=by kernel_rfl
section
variable {P:Program} {ro:Option Nat} {n:Nat} {R:Array Oper} {Q:Exit -> Fr -> World -> Prop} {w w0:World} {F0 F:Mem} {L:Own} {f:Fr} {i:Nat} {rest:List Nat} {dst:Option Nat} {ty:TypeId} {g:Option (Nat × Bool)} {ρ:Operand -> Value}
theorem RWP.litMap{t:TypeId}(ho:opq R i=some (dst,.makeMap t none,ty,g))(hg:gd R f g=true)(hs:HS w0 F0 w F L)
  (kk:∀ b w',HS w0 F0 w' F ((some b,.map #[] 0)::L)->RWP P ro n R Q rest (A1 f dst (.map (some b))) w'):RWP P ro n R Q (i::rest) f w:=
 XF ho hg MC (kk _ _ (hs.alloc _))
theorem RWP.litIns{mt k vt:TypeId}{d:TypeDesc}{m x y:Operand}{b q clk:Nat}{es:Array MapEntry}{kv v:Value}(ho:opq R i=some (none,.insert mt m x y,ty,g))(hg:gd R f g=true)
  (hm:fev f m=.map (some b)) (hx:fev f x=kv) (hy:fev f y=v) (hu:P.underlying mt=some (.map k vt)) (hk:P.underlying k=some d) (hkey:MapKept.IsKey d kv) (hnew:Instr.findNow d kv es.toList 0=some none)
  (hs:HS w0 F0 w F L) (hi:L[q]? =some (some b,.map es clk)) {e':Obj} (he:Obj.map (es.push ⟨kv,v,clk⟩) (clk + 1)=e')
  (kk:∀ w',HS w0 F0 w' F (L.set q (some b,e'))->RWP P ro n R Q rest f w'):RWP P ro n R Q (i::rest) f w:=by
 subst he;have hb:=hs.ownAt hi;refine RWP.unit ho hg ?_ (kk _ (hs.put hi _));have e:Am (fev f) (.insert mt m x y) ty=(do Instr.mapUpdate mt (fev f m) (fev f x) (fev f y);pure .skip):=rfl;have hset:(setObj b (.map (es.push ⟨kv,v,clk⟩) (clk + 1))).run P w=.ok () (Ct w b (.map (es.push ⟨kv,v,clk⟩) (clk + 1))):=by
  rw[MapKept.run_setObj_map _ hb];rfl
 rw[e,hm,hx,hy];simp[Instr.mapUpdate,run_underlying hu,MapKept.run_getObj_map hb,MapKept.run_checkKey hk hkey,MapKept.run_findKey hk hnew,Result.andThen,hset]
end
def Aj(R:Array Oper)(i:Nat):Op:=match R[i]? with | some o=>o.op | none=>.alloc 0
def Gl(R:Array Oper)(i:Nat):TypeId:=match R[i]? with | some o=>o.type | none=>0
def A8(R:Array Oper)(i:Nat):Option Nat:=match R[i]? with | some o=>o.dst | none=>none
def W8(R:Array Oper)(i:Nat):Option (Nat×Bool):=match R[i]? with | some o=>o.guard | none=>none
def ung(R:Array Oper)(i:Nat):Bool:=match R[i]? with | some o=>(match o.guard with | none=>true | some _=>false) | none=>false
theorem Bb{R:Array Oper}{i:Nat}(h:ung R i=true):opq R i=some (A8 R i,Aj R i,Gl R i,none):=by
 unfold ung at h;unfold opq A8 Aj Gl;cases hr:R[i]? with
 | none=>simp[hr]at h
 | some o=>
  simp only[hr]at h;cases hg:o.guard with
  | none=>simp[hg]
  | some p=>simp[hg]at h
def NI(R:Array Oper)(j:Nat)(b:Bool)(i:Nat):Bool:=match R[i]? with | some o=>(match o.guard with | none=>true | some (j',b')=>Nat.beq j j'&&(b==b')) | none=>false
theorem NY{R:Array Oper}{i j:Nat}{b:Bool}(h:NI R j b i=true):opq R i=some (A8 R i,Aj R i,Gl R i,none)\/opq R i=some (A8 R i,Aj R i,Gl R i,some (j,b)):=by
 unfold NI at h;unfold opq A8 Aj Gl;cases hr:R[i]? with
 | none=>simp[hr]at h
 | some o=>
  simp only[hr]at h;cases hg:o.guard with
  | none=>simp[hg]
  | some p=>
   obtain⟨j',b'⟩:=p;simp only[hg,xA,beq_iff_eq]at h;have G:=xK h.1;have I:=h.2;subst G;subst I;simp[hg]
def slQ(P:Program)(t:TypeId):Bool:=match A2 P t with | some _=>true | none=>false
def pvI(op:BinOp)(k:IntKind)(a b:Int):Option Value:=match op with
 | .add=>some (.int k (k.wrap (a + b))) | .sub=>some (.int k (k.wrap (a - b))) | .mul=>some (.int k (k.wrap (a * b)))
 | .lss=>some (.bool (decide (a < b))) | .leq=>some (.bool (decide (a<=b))) | .gtr=>some (.bool (decide (a > b))) | .geq=>some (.bool (decide (a>=b)))
 | .eql=>some (.bool (a==b)) | .neq=>some (.bool (a !=b))
 | .quo=>(match decide (b=0)with | false=>some (.int k (k.wrap (a.tdiv b))) | true=>none)
 | .rem=>(match decide (b=0)with | false=>some (.int k (a.tmod b)) | true=>none)
 | _=>none
def pvS(op:BinOp)(a b:X6):Option Value:=match op with
 | .eql=>some (.bool (a==b)) | .neq=>some (.bool (a !=b)) | .lss=>some (.bool (K3 a b)) | .leq=>some (.bool (K3 a b||a==b))
 | .gtr=>some (.bool (!(K3 a b||a==b))) | .geq=>some (.bool (!K3 a b)) | _=>none
def TZ(P:Program)(t:TypeId)(op:BinOp):Value->Value->Option Value
 | .int k a,.int k' b=>(match decide (k=k')with | true=>pvI op k a b | false=>none)
 | .string a,.string b=>pvS op a.data.toList b.data.toList
 | .bool a,.bool b=>(match P.underlying t with | some .bool=>(match op with | .eql=>some (.bool (a==b)) | .neq=>some (.bool (!(a==b))) | _=>none) | _=>none)
 | .agg xs,.agg ys=>(match P.eqGuardType P.depth t with
  | false=>(match eqV P 8 t (.agg xs) (.agg ys)with | some b=>(match op with | .eql=>some (.bool b) | .neq=>some (.bool (!b)) | _=>none) | none=>none)
  | true=>none)
 | _,_=>none
def RU(P:Program)(ρ:Operand->Value)(c:Call):Option Value:=match c.callee with
 | .builtin .len=>(match c.args.toList with
  | [x]=>(match c.argTypes[0]? with
   | some t=>(match ρ x with
    | .slice _ n _=>(match slQ P t with | true=>some (.int .i64 (n:Int)) | false=>none)
    | .string s=>(match P.underlying t with | some .string=>some (.int .i64 (s.data.toList.length:Int)) | _=>none)
    | _=>none)
   | none=>none)
  | _=>none)
 | .builtin .max=>(match c.args.toList with | [x,y]=>(match ρ x,ρ y with | .int .i64 a,.int .i64 b=>some (.int .i64 (max a b)) | _,_=>none) | _=>none)
 | .builtin .min=>(match c.args.toList with | [x,y]=>(match ρ x,ρ y with | .int .i64 a,.int .i64 b=>some (.int .i64 (min a b)) | _,_=>none) | _=>none)
 | _=>none
def pv(P:Program)(ρ:Operand->Value):Op->Option Value
 | .move x=>some (ρ x)
 | .assign x=>some (ρ x)
 | .binOp op t x y _=>TZ P t op (ρ x) (ρ y)
 | .unOp op _ x=>(match op,ρ x with | .not,.bool b=>some (.bool (!b)) | .neg,.int k a=>some (.int k (k.wrap (0 - a))) | _,_=>none)
 | .extract x i=>(match ρ x with | .tuple vs=>vs[i]? | _=>none)
 | .fieldAddr s x i=>(match ρ x with
  | .pointer (some ⟨b,o,none⟩)=>(match Ls P s i with | some (off,k)=>(match decide (k=0)with | false=>some (.pointer (some ⟨b,o + off,none⟩)) | true=>none) | none=>none)
  | _=>none)
 | .field s x i=>(match ρ x with
  | .agg cs=>(match R8 P s i with
   | some (o,t)=>(match Ef P t with
    | some (gg,k)=>(match Nat.beq (Ap cs o k).length k&&(gg||k==1)with | true=>some (mkV gg (Ap cs o k)) | false=>none)
    | none=>none)
   | none=>none)
  | _=>none)
 | .build t parts=>(match Sh P t (parts.toList.map fun p=>(p.1,ρ p.2))with | some cs=>some (.agg cs.toArray) | none=>none)
 | .makeFunc fn fi ca=>some (.func fn (fi.toList.map ρ).toArray (ca.toList.map ρ).toArray)
 | .nilCheck x=>(match ρ x with | .pointer (some a)=>some (.pointer (some a)) | _=>none)
 | .convert s d x=>(match ρ x with | .int _ a=>(match(P.underlying s).isSome,P.underlying d with | true,some (.int k)=>some (.int k (k.wrap a)) | _,_=>none) | _=>none)
 | .call c=>RU P ρ c
 | _=>none
theorem PL(s:ByteArray):s=⟨s.data.toList.toArray⟩:=by cases s;rfl
section
variable {P:Program} {ρ:Operand -> Value} {w:World} {ty:TypeId}
theorem Vl{op:BinOp}{k:IntKind}{a b:Int}{x y:Operand}{t t':TypeId}{v:Value}(hx:ρ x=.int k a)(hy:ρ y=.int k b)(h:pvI op k a b=some v):(Am ρ (.binOp op t x y t') ty).run P w=.ok (.value v) w:=by
  cases op <;> simp only[pvI,xI,reduceCtorEq]at h <;> first
    | (subst h;first | exact PX hx hy | exact Gm hx hy | exact U7 hx hy | exact DF hx hy | exact JR hx hy | exact K8 hx hy | exact PU hx hy | exact Ig hx hy | exact JQ hx hy)
    | (split at h
       · rename_i hb;cases h;first | exact U3 hx hy hb | exact U2 hx hy hb
       · cases h)
theorem Vk{op:BinOp}{a b:X6}{x y:Operand}{t t':TypeId}{v:Value}(hx:ρ x=.string ⟨a.toArray⟩)(hy:ρ y=.string ⟨b.toArray⟩)(h:pvS op a b=some v):(Am ρ (.binOp op t x y t') ty).run P w=.ok (.value v) w:=by
 cases op <;> simp only[pvS,xI,reduceCtorEq]at h <;> subst h <;> exact TQ hx hy rfl
theorem Tg{op:BinOp}{x y:Operand}{t t':TypeId}{v:Value}(h:TZ P t op (ρ x) (ρ y)=some v):(Am ρ (.binOp op t x y t') ty).run P w=.ok (.value v) w:=by
 generalize hx:ρ x=a at h;generalize hy:ρ y=b at h;unfold TZ at h;split at h
 ·split at h
  ·rename_i hk;have:=of_decide_eq_true hk;subst this;exact Vl hx hy h
  ·cases h
 ·rename_i a b;exact Vk (hx.trans (congrArg _ (PL a))) (hy.trans (congrArg _ (PL b))) h
 ·split at h
  ·rename_i hu;split at h
   ·cases h;exact U9 hx hy hu
   ·cases h;exact U6 hx hy hu
   ·cases h
  ·cases h
 ·split at h
  ·rename_i hg;split at h
   ·rename_i b he;split at h
    ·cases h;exact St hx hy hg he
    ·cases h;exact U4 hx hy hg he
    ·cases h
   ·cases h
  ·cases h
 ·cases h
theorem RT{c:Call}{v:Value}(h:RU P ρ c=some v):(Am ρ (.call c) ty).run P w=.ok (.value v) w:=by
 obtain⟨callee,args,ats⟩:=c;unfold RU at h;simp only at h;split at h
 ·split at h
  ·rename_i x ha;have:args=#[x]:=by cases args;simpa using ha
   subst this;split at h
   ·rename_i t ht;split at h
    ·rename_i a n c hx;split at h
     ·rename_i hs;unfold slQ at hs;split at hs
      ·rename_i q hq;obtain⟨E,s,by_⟩:=q;cases h;exact I8 hx ht hq
      ·cases hs
     ·cases h
    ·rename_i s hx;split at h
     ·rename_i hu;cases h;exact I7 (hx.trans (congrArg _ (PL s))) ht hu
     ·cases h
    ·cases h
   ·cases h
  ·cases h
 ·split at h
  ·rename_i x y ha;have:args=#[x,y]:=by cases args;simpa using ha
   subst this;split at h
   ·rename_i hx hy;cases h;exact TS hx hy
   ·cases h
  ·cases h
 ·split at h
  ·rename_i x y ha;have:args=#[x,y]:=by cases args;simpa using ha
   subst this;split at h
   ·rename_i hx hy;cases h;exact TR hx hy
   ·cases h
  ·cases h
 ·cases h
theorem PZ{op:Op}{v:Value}(h:pv P ρ op=some v):(Am ρ op ty).run P w=.ok (.value v) w:=by
 unfold pv at h;split at h
 ·cases h;exact QO rfl
 ·cases h;exact Ih rfl
 ·exact Tg h
 ·split at h
  ·rename_i hx;cases h;exact K6 hx
  ·rename_i hx;cases h;exact U5 hx
  ·cases h
 ·split at h
  ·rename_i hx;exact QP hx h
  ·cases h
 ·split at h
  ·rename_i hx;split at h
   ·rename_i hf;split at h
    ·rename_i hk;cases h;exact CO hx hf hk rfl
    ·cases h
   ·cases h
  ·cases h
 ·split at h
  ·rename_i hx;split at h
   ·rename_i hf;split at h
    ·rename_i ht;split at h
     ·rename_i hk;simp only[xA]at hk;cases h;exact NP hx hf ht (xK hk.1) hk.2 rfl
     ·cases h
    ·cases h
   ·cases h
  ·cases h
 ·split at h
  ·rename_i hb;cases h;exact RR rfl hb
  ·cases h
 ·cases h;exact PS rfl rfl
 ·split at h
  ·rename_i hx;cases h;exact CJ hx
  ·cases h
 ·split at h
  ·rename_i hx;split at h
   ·rename_i hs hd;cases h;exact QR hx hs hd
   ·cases h
  ·cases h
 ·exact RT h
 ·cases h
variable {ro:Option Nat} {n:Nat} {R:Array Oper} {Q:Exit -> Fr -> World -> Prop}
def pst(P:Program)(R:Array Oper):List Nat->Nat->Fr->Fr
 | _,0,f=>f
 | [],_ + 1,f=>f
 | i::l,m + 1,f=>pst P R l m (A1 f (A8 R i) ((pv P (fev f) (Aj R i)).getD undef))
def isS{α:Type}:Option α->Bool | some _=>true | none=>false
theorem Jk{α:Type}{o:Option α}{d:α}(h:isS o=true):o=some (o.getD d):=by cases o <;> simp_all [isS]
def pok(P:Program)(R:Array Oper):List Nat->Nat->Fr->Bool
 | _,0,_=>true
 | [],_ + 1,_=>false
 | i::l,m + 1,f=>ung R i&&(isS (pv P (fev f) (Aj R i))&&pok P R l m (A1 f (A8 R i) ((pv P (fev f) (Aj R i)).getD undef)))
theorem UP:∀(m:Nat) {l:List Nat} {f:Fr},RWP P ro n R Q (l.drop m) (pst P R l m f) w->pok P R l m f=true->RWP P ro n R Q l f w
 | 0,l,f,k,_=>by cases l <;> exact k
 | m + 1,[],f,k,h=>by simp[pok]at h
 | m + 1,i::l,f,k,h=>by
  simp only[pok,xA]at h;exact XF (Bb h.1) rfl (PZ (Jk h.2.1)) (UP m k h.2.2)
theorem Vs(m:Nat){l:List Nat}{f:Fr}(k:RWP P ro n R Q (l.drop m) (pst P R l m f) w)(h:pok P R l m f=true:=by kernel_rfl):RWP P ro n R Q l f w:=UP m k h
def T1(P:Program)(R:Array Oper)(j:Nat)(b:Bool)(q:Nat):List Nat->Nat->Fr->Bool
 | _,0,_=>true
 | [],_ + 1,_=>false
 | i::l,m + 1,f=>NI R j b i&&((match A8 R i with | some d=>!Nat.beq q d | none=>true)&&(isS (pv P (fev f) (Aj R i))&&T1 P R j b q l m (A1 f (A8 R i) ((pv P (fev f) (Aj R i)).getD undef))))
theorem Sm{f:Fr}{d:Option Nat}{v:Value}{q:Nat}(h:(match d with | some d=>!Nat.beq q d | none=>true)=true):(A1 f d v) q=f q:=by
 cases d with
 | none=>rfl
 | some d=>simp only[Bool.not_eq_true']at h;simp only[A1,upd,h,cF]
theorem QC{j q:Nat}{b:Bool}(hj:FV R j=some q):∀(m:Nat) {l:List Nat} {f:Fr},f q=.bool b->RWP P ro n R Q (l.drop m) (pst P R l m f) w->T1 P R j b q l m f=true->RWP P ro n R Q l f w
 | 0,l,f,_,k,_=>by cases l <;> exact k
 | m + 1,[],f,_,k,h=>by simp[T1]at h
 | m + 1,i::l,f,hf,k,h=>by
  simp only[T1,xA]at h;have hf':=(Sm (f:=f) (v:=(pv P (fev f) (Aj R i)).getD undef) h.2.1).trans hf;rcases NY h.1 with e | e
  ·exact XF e rfl (PZ (Jk h.2.2.1)) (QC hj m hf' k h.2.2.2)
  ·exact XF e (Hp hj hf rfl) (PZ (Jk h.2.2.1)) (QC hj m hf' k h.2.2.2)
def gj(R:Array Oper):List Nat->Nat
 | i::_=>(match W8 R i with | some (j,_)=>j | none=>0)
 | []=>0
def gq(R:Array Oper)(l:List Nat):Nat:=match FV R (gj R l)with | some q=>q | none=>0
theorem Vgs{b c:Bool}(hc:c=b)(m:Nat){l:List Nat}{f:Fr}(k:RWP P ro n R Q (l.drop m) (pst P R l m f) w)(h:T1 P R (gj R l) b (gq R l) l m f=true:=by kernel_rfl)
  (hj:FV R (gj R l)=some (gq R l):=by kernel_rfl) (hf:f (gq R l)=.bool c:=by kernel_rfl):RWP P ro n R Q l f w:=
 QC hj m (by rw[hf,hc]) k h
def sst(R:Array Oper):List Nat->Nat->Fr->Fr
 | _,0,f=>f
 | [],_ + 1,f=>f
 | i::l,m + 1,f=>sst R l m (A1 f (A8 R i) undef)
def sok(R:Array Oper)(j:Nat)(b:Bool)(q:Nat):List Nat->Nat->Bool
 | _,0=>true
 | [],_ + 1=>false
 | i::l,m + 1=>(match R[i]? with | some o=>(match o.guard with | some (j',b')=>Nat.beq j j'&&(b==b') | none=>false) | none=>false)&&((match A8 R i with | some d=>!Nat.beq q d | none=>true)&&sok R j b q l m)
theorem Wi{i j:Nat}{b:Bool}(h:(match R[i]? with | some o=>(match o.guard with | some (j',b')=>Nat.beq j j'&&(b==b') | none=>false) | none=>false)=true):opq R i=some (A8 R i,Aj R i,Gl R i,some (j,b)):=by
 unfold opq A8 Aj Gl;cases hr:R[i]? with
 | none=>simp[hr]at h
 | some o=>
  simp only[hr]at h;cases hg:o.guard with
  | none=>simp[hg]at h
  | some p=>
   obtain⟨j',b'⟩:=p;simp only[hg,xA,beq_iff_eq]at h;have G:=xK h.1;have I:=h.2;subst G;subst I;simp[hg]
theorem RG{j q:Nat}{b:Bool}(hg:∀ f':Fr,f' q=f' q->True)(hgd:∀ f':Fr,∀ v,f' q=v->v=undef\/v=.bool (!b)->gd R f' (some (j,b))=false):∀(m:Nat) {l:List Nat} {f:Fr},(f q=undef\/f q=.bool (!b))->RWP P ro n R Q (l.drop m) (sst R l m f) w->sok R j b q l m=true->RWP P ro n R Q l f w
 | 0,l,f,_,k,_=>by cases l <;> exact k
 | m + 1,[],f,_,k,h=>by simp[sok]at h
 | m + 1,i::l,f,hf,k,h=>by
  simp only[sok,xA]at h;have hf':(A1 f (A8 R i) undef) q=f q:=Sm h.2.1;exact RWP.skip (Wi h.1) (hgd f _ rfl hf) (RG hg hgd m (by rw[hf'];exact hf) k h.2.2)
def gb(R:Array Oper):List Nat->Bool
 | i::_=>(match W8 R i with | some (_,b)=>b | none=>false)
 | []=>false
theorem Ss{b c:Bool}(hc:c=b)(m:Nat){l:List Nat}{f:Fr}(k:RWP P ro n R Q (l.drop m) (sst R l m f) w)(h:sok R (gj R l) (!b) (gq R l) l m=true:=by kernel_rfl)
  (hj:FV R (gj R l)=some (gq R l):=by kernel_rfl) (hf:f (gq R l)=.bool c:=by kernel_rfl):RWP P ro n R Q l f w:=
 RG (fun _ _=>trivial) (fun f' v e hv=>by
  rcases hv with hv | hv
  ·exact Ww hj (e.trans hv)
  ·exact Wx hj (e.trans hv) rfl) m (.inr (by rw[hf,hc];simp)) k h
theorem Su'(m:Nat){l:List Nat}{f:Fr}(k:RWP P ro n R Q (l.drop m) (sst R l m f) w)(h:sok R (gj R l) (gb R l) (gq R l) l m=true:=by kernel_rfl)
  (hj:FV R (gj R l)=some (gq R l):=by kernel_rfl) (hf:f (gq R l)=undef:=by kernel_rfl):RWP P ro n R Q l f w:=
 RG (fun _ _=>trivial) (fun f' v e hv=>by
  rcases hv with hv | hv
  ·exact Ww hj (e.trans hv)
  ·exact Wx hj (e.trans hv) rfl) m (.inl hf) k h
end
end Go.Proofs.YthljkpeimofbbaaGreatDoor
