/- Lemmas of the claim LogsWhole, printed by a program of the claimant and by hand. No statement of the seat is proved here. -/
import Derived.Test.YthljkpeimofbbaaGreatDoorE10x1
set_option linter.unusedVariables false
set_option linter.unusedSimpArgs false
set_option linter.unusedSectionVars false
set_option maxHeartbeats 4000000
set_option maxRecDepth 100000
namespace Go.Proofs.YthljkpeimofbbaaGreatDoor
def Ag (R:Array Oper) (i:Nat):Op:=match R[i]? with | some o=>o.op | none=>.alloc 0
def FC (R:Array Oper) (i:Nat):TypeId:=match R[i]? with | some o=>o.type | none=>0
def A5 (R:Array Oper) (i:Nat):Option Nat:=match R[i]? with | some o=>o.dst | none=>none
def WS (R:Array Oper) (i:Nat):Option (Nat×Bool):=match R[i]? with | some o=>o.guard | none=>none
def ung (R:Array Oper) (i:Nat):Bool:=match R[i]? with | some o=>(match o.guard with | none=>true | some _=>false) | none=>false
theorem A8 {R:Array Oper} {i:Nat} (h:ung R i=true):opq R i=some (A5 R i,Ag R i,FC R i,none):=by
 unfold ung at h;unfold opq A5 Ag FC
 cases hr:R[i]? with
 | none=>simp [hr] at h
 | some o=>
  simp only [hr] at h
  cases hg:o.guard with
  | none=>simp [hg]
  | some p=>simp [hg] at h
def Mw (R:Array Oper) (j:Nat) (b:Bool) (i:Nat):Bool:=match R[i]? with | some o=>(match o.guard with | none=>true | some (j',b')=>Nat.beq j j'&&(b==b')) | none=>false
theorem MT {R:Array Oper} {i j:Nat} {b:Bool} (h:Mw R j b i=true):opq R i=some (A5 R i,Ag R i,FC R i,none)\/opq R i=some (A5 R i,Ag R i,FC R i,some (j,b)):=by
 unfold Mw at h;unfold opq A5 Ag FC
 cases hr:R[i]? with
 | none=>simp [hr] at h
 | some o=>
  simp only [hr] at h
  cases hg:o.guard with
  | none=>simp [hg]
  | some p=>
   obtain ⟨j',b'⟩:=p
   simp only [hg,Bool.and_eq_true,beq_iff_eq] at h
   have e1:=Nat.eq_of_beq_eq_true h.1
   have e2:=h.2
   subst e1;subst e2
   simp [hg]
def slQ (P:Program) (t:TypeId):Bool:=match Bi P t with | some _=>true | none=>false
def pvI (op:BinOp) (k:IntKind) (a b:Int):Option Value:=match op with
 | .add=>some (.int k (k.wrap (a + b))) | .sub=>some (.int k (k.wrap (a - b))) | .mul=>some (.int k (k.wrap (a * b)))
 | .lss=>some (.bool (decide (a < b))) | .leq=>some (.bool (decide (a<=b))) | .gtr=>some (.bool (decide (a > b))) | .geq=>some (.bool (decide (a>=b)))
 | .eql=>some (.bool (a==b)) | .neq=>some (.bool (a !=b))
 | .quo=>(match decide (b=0) with | false=>some (.int k (k.wrap (a.tdiv b))) | true=>none)
 | .rem=>(match decide (b=0) with | false=>some (.int k (a.tmod b)) | true=>none)
 | _=>none
def pvS (op:BinOp) (a b:XL):Option Value:=match op with
 | .eql=>some (.bool (a==b)) | .neq=>some (.bool (a !=b)) | .lss=>some (.bool (JW a b)) | .leq=>some (.bool (JW a b||a==b))
 | .gtr=>some (.bool (!(JW a b||a==b))) | .geq=>some (.bool (!JW a b)) | _=>none
def Tg (P:Program) (t:TypeId) (op:BinOp):Value->Value->Option Value
 | .int k a,.int k' b=>(match decide (k=k') with | true=>pvI op k a b | false=>none)
 | .string a,.string b=>pvS op a.data.toList b.data.toList
 | .bool a,.bool b=>(match P.underlying t with | some .bool=>(match op with | .eql=>some (.bool (a==b)) | .neq=>some (.bool (!(a==b))) | _=>none) | _=>none)
 | .agg xs,.agg ys=>(match P.eqGuardType P.depth t with
  | false=>(match eqV P 8 t (.agg xs) (.agg ys) with | some b=>(match op with | .eql=>some (.bool b) | .neq=>some (.bool (!b)) | _=>none) | none=>none)
  | true=>none)
 | _,_=>none
def QK (P:Program) (ρ:Operand->Value) (c:Call):Option Value:=match c.callee with
 | .builtin .len=>(match c.args.toList with
  | [x]=>(match c.argTypes[0]? with
   | some t=>(match ρ x with
    | .slice _ n _=>(match slQ P t with | true=>some (.int .i64 (n:Int)) | false=>none)
    | .string s=>(match P.underlying t with | some .string=>some (.int .i64 (s.data.toList.length:Int)) | _=>none)
    | _=>none)
   | none=>none)
  | _=>none)
 | .builtin .max=>(match c.args.toList with | [x,y]=>(match ρ x,ρ y with | .int .i64 a,.int .i64 b=>some (.int .i64 (max a b)) | _,_=>none) | _=>none)
 | .builtin .min=>(match c.args.toList with | [x,y]=>(match ρ x,ρ y with | .int .i64 a,.int .i64 b=>some (.int .i64 (min a b)) | _,_=>none) | _=>none)
 | _=>none
def pv (P:Program) (ρ:Operand->Value):Op->Option Value
 | .move x=>some (ρ x)
 | .assign x=>some (ρ x)
 | .binOp op t x y _=>Tg P t op (ρ x) (ρ y)
 | .unOp op _ x=>(match op,ρ x with | .not,.bool b=>some (.bool (!b)) | .neg,.int k a=>some (.int k (k.wrap (0 - a))) | _,_=>none)
 | .extract x i=>(match ρ x with | .tuple vs=>vs[i]? | _=>none)
 | .fieldAddr s x i=>(match ρ x with
  | .pointer (some ⟨b,o,none⟩)=>(match Kn P s i with | some (off,k)=>(match decide (k=0) with | false=>some (.pointer (some ⟨b,o + off,none⟩)) | true=>none) | none=>none)
  | _=>none)
 | .field s x i=>(match ρ x with
  | .agg cs=>(match Q3 P s i with
   | some (o,t)=>(match EF P t with
    | some (gg,k)=>(match Nat.beq (Ao cs o k).length k&&(gg||k==1) with | true=>some (mkV gg (Ao cs o k)) | false=>none)
    | none=>none)
   | none=>none)
  | _=>none)
 | .build t parts=>(match Rb P t (parts.toList.map fun p=>(p.1,ρ p.2)) with | some cs=>some (.agg cs.toArray) | none=>none)
 | .makeFunc fn fi ca=>some (.func fn (fi.toList.map ρ).toArray (ca.toList.map ρ).toArray)
 | .nilCheck x=>(match ρ x with | .pointer (some a)=>some (.pointer (some a)) | _=>none)
 | .convert s d x=>(match ρ x with | .int _ a=>(match (P.underlying s).isSome,P.underlying d with | true,some (.int k)=>some (.int k (k.wrap a)) | _,_=>none) | _=>none)
 | .call c=>QK P ρ c
 | _=>none
theorem Ox (s:ByteArray):s=⟨s.data.toList.toArray⟩:=by cases s;rfl
section
variable {P : Program} {ρ : Operand -> Value} {w : World} {ty : TypeId}
theorem UU {op:BinOp} {k:IntKind} {a b:Int} {x y:Operand} {t t':TypeId} {v:Value} (hx:ρ x=.int k a) (hy:ρ y=.int k b) (h:pvI op k a b=some v):(Ak ρ (.binOp op t x y t') ty).run P w=.ok (.value v) w:=by
  cases op <;> simp only [pvI,Option.some.injEq,reduceCtorEq] at h <;> first
    | (subst h;first | exact Ru hx hy | exact JY hx hy | exact UJ hx hy | exact J0 hx hy | exact Mj hx hy | exact OG hx hy | exact Ro hx hy | exact J2 hx hy | exact Mi hx hy)
    | (split at h
       · rename_i hb;cases h;first | exact UF hx hy hb | exact UE hx hy hb
       · cases h)
theorem UT {op:BinOp} {a b:XL} {x y:Operand} {t t':TypeId} {v:Value} (hx:ρ x=.string ⟨a.toArray⟩) (hy:ρ y=.string ⟨b.toArray⟩) (h:pvS op a b=some v):(Ak ρ (.binOp op t x y t') ty).run P w=.ok (.value v) w:=by
 cases op <;> simp only [pvS,Option.some.injEq,reduceCtorEq] at h <;> subst h <;> exact S9 hx hy rfl
theorem Sm {op:BinOp} {x y:Operand} {t t':TypeId} {v:Value} (h:Tg P t op (ρ x) (ρ y)=some v):(Ak ρ (.binOp op t x y t') ty).run P w=.ok (.value v) w:=by
 generalize hx:ρ x=a at h
 generalize hy:ρ y=b at h
 unfold Tg at h
 split at h
 ·split at h
  ·rename_i hk
   have:=of_decide_eq_true hk;subst this
   exact UU hx hy h
  ·cases h
 ·rename_i a b
  exact UT (hx.trans (congrArg _ (Ox a))) (hy.trans (congrArg _ (Ox b))) h
 ·split at h
  ·rename_i hu
   split at h
   ·cases h;exact UM hx hy hu
   ·cases h;exact UI hx hy hu
   ·cases h
  ·cases h
 ·split at h
  ·rename_i hg
   split at h
   ·rename_i b he
    split at h
    ·cases h;exact Rp hx hy hg he
    ·cases h;exact UG hx hy hg he
    ·cases h
   ·cases h
  ·cases h
 ·cases h
theorem QJ {c:Call} {v:Value} (h:QK P ρ c=some v):(Ak ρ (.call c) ty).run P w=.ok (.value v) w:=by
 obtain ⟨callee,args,ats⟩:=c
 unfold QK at h
 simp only at h
 split at h
 ·split at h
  ·rename_i x ha
   have:args=#[x]:=by cases args;simpa using ha
   subst this
   split at h
   ·rename_i t ht
    split at h
    ·rename_i a n c hx
     split at h
     ·rename_i hs
      unfold slQ at hs
      split at hs
      ·rename_i q hq;obtain ⟨E,s,by_⟩:=q
       cases h;exact HX hx ht hq
      ·cases hs
     ·cases h
    ·rename_i s hx
     split at h
     ·rename_i hu;cases h;exact MJ (hx.trans (congrArg _ (Ox s))) ht hu
     ·cases h
    ·cases h
   ·cases h
  ·cases h
 ·split at h
  ·rename_i x y ha
   have:args=#[x,y]:=by cases args;simpa using ha
   subst this
   split at h
   ·rename_i hx hy;cases h;exact Tc hx hy
   ·cases h
  ·cases h
 ·split at h
  ·rename_i x y ha
   have:args=#[x,y]:=by cases args;simpa using ha
   subst this
   split at h
   ·rename_i hx hy;cases h;exact Tb hx hy
   ·cases h
  ·cases h
 ·cases h
theorem OJ {op:Op} {v:Value} (h:pv P ρ op=some v):(Ak ρ op ty).run P w=.ok (.value v) w:=by
 unfold pv at h
 split at h
 ·cases h;exact PC rfl
 ·cases h;exact G4 rfl
 ·exact Sm h
 ·split at h
  ·rename_i hx;cases h;exact OB hx
  ·rename_i hx;cases h;exact UH hx
  ·cases h
 ·split at h
  ·rename_i hx;exact PD hx h
  ·cases h
 ·split at h
  ·rename_i hx
   split at h
   ·rename_i hf
    split at h
    ·rename_i hk;cases h;exact C3 hx hf hk rfl
    ·cases h
   ·cases h
  ·cases h
 ·split at h
  ·rename_i hx
   split at h
   ·rename_i hf
    split at h
    ·rename_i ht
     split at h
     ·rename_i hk
      simp only [Bool.and_eq_true] at hk
      cases h;exact ML hx hf ht (Nat.eq_of_beq_eq_true hk.1) hk.2 rfl
     ·cases h
    ·cases h
   ·cases h
  ·cases h
 ·split at h
  ·rename_i hb;cases h;exact QI rfl hb
  ·cases h
 ·cases h;exact OD rfl rfl
 ·split at h
  ·rename_i hx;cases h;exact Ek hx
  ·cases h
 ·split at h
  ·rename_i hx
   split at h
   ·rename_i hs hd;cases h;exact PF hx hs hd
   ·cases h
  ·cases h
 ·exact QJ h
 ·cases h
variable {ro : Option Nat} {n : Nat} {R : Array Oper} {Q : Exit -> Fr -> World -> Prop}
def pst (P:Program) (R:Array Oper):List Nat->Nat->Fr->Fr
 | _,0,f=>f
 | [],_ + 1,f=>f
 | i::l,m + 1,f=>pst P R l m (A0 f (A5 R i) ((pv P (fev f) (Ag R i)).getD undef))
def isS {α:Type}:Option α->Bool | some _=>true | none=>false
theorem Ic {α:Type} {o:Option α} {d:α} (h:isS o=true):o=some (o.getD d):=by cases o <;> simp_all [isS]
def pok (P:Program) (R:Array Oper):List Nat->Nat->Fr->Bool
 | _,0,_=>true
 | [],_ + 1,_=>false
 | i::l,m + 1,f=>ung R i&&(isS (pv P (fev f) (Ag R i))&&pok P R l m (A0 f (A5 R i) ((pv P (fev f) (Ag R i)).getD undef)))
theorem Ut:∀ (m:Nat) {l:List Nat} {f:Fr},RWP P ro n R Q (l.drop m) (pst P R l m f) w->pok P R l m f=true->RWP P ro n R Q l f w
 | 0,l,f,k,_=>by cases l <;> exact k
 | m + 1,[],f,k,h=>by simp [pok] at h
 | m + 1,i::l,f,k,h=>by
  simp only [pok,Bool.and_eq_true] at h
  exact Xn (A8 h.1) rfl (OJ (Ic h.2.1)) (Ut m k h.2.2)
theorem Vs (m:Nat) {l:List Nat} {f:Fr} (k:RWP P ro n R Q (l.drop m) (pst P R l m f) w) (h:pok P R l m f=true:=by kernel_rfl):RWP P ro n R Q l f w:=Ut m k h
def Ti (P:Program) (R:Array Oper) (j:Nat) (b:Bool) (q:Nat):List Nat->Nat->Fr->Bool
 | _,0,_=>true
 | [],_ + 1,_=>false
 | i::l,m + 1,f=>Mw R j b i&&((match A5 R i with | some d=>!Nat.beq q d | none=>true)&&(isS (pv P (fev f) (Ag R i))&&Ti P R j b q l m (A0 f (A5 R i) ((pv P (fev f) (Ag R i)).getD undef))))
theorem Rl {f:Fr} {d:Option Nat} {v:Value} {q:Nat} (h:(match d with | some d=>!Nat.beq q d | none=>true)=true):(A0 f d v) q=f q:=by
 cases d with
 | none=>rfl
 | some d=>simp only [Bool.not_eq_true'] at h;simp only [A0,upd,h,cF]
theorem Pl {j q:Nat} {b:Bool} (hj:E5 R j=some q):∀ (m:Nat) {l:List Nat} {f:Fr},f q=.bool b->RWP P ro n R Q (l.drop m) (pst P R l m f) w->Ti P R j b q l m f=true->RWP P ro n R Q l f w
 | 0,l,f,_,k,_=>by cases l <;> exact k
 | m + 1,[],f,_,k,h=>by simp [Ti] at h
 | m + 1,i::l,f,hf,k,h=>by
  simp only [Ti,Bool.and_eq_true] at h
  have hf':=(Rl (f:=f) (v:=(pv P (fev f) (Ag R i)).getD undef) h.2.1).trans hf
  rcases MT h.1 with e | e
  ·exact Xn e rfl (OJ (Ic h.2.2.1)) (Pl hj m hf' k h.2.2.2)
  ·exact Xn e (Ih hj hf rfl) (OJ (Ic h.2.2.1)) (Pl hj m hf' k h.2.2.2)
def gj (R:Array Oper):List Nat->Nat
 | i::_=>(match WS R i with | some (j,_)=>j | none=>0)
 | []=>0
def gq (R:Array Oper) (l:List Nat):Nat:=match E5 R (gj R l) with | some q=>q | none=>0
theorem Vgs {b c:Bool} (hc:c=b) (m:Nat) {l:List Nat} {f:Fr} (k:RWP P ro n R Q (l.drop m) (pst P R l m f) w) (h:Ti P R (gj R l) b (gq R l) l m f=true:=by kernel_rfl)
  (hj:E5 R (gj R l)=some (gq R l):=by kernel_rfl) (hf:f (gq R l)=.bool c:=by kernel_rfl):RWP P ro n R Q l f w:=
 Pl hj m (by rw [hf,hc]) k h
def sst (R:Array Oper):List Nat->Nat->Fr->Fr
 | _,0,f=>f
 | [],_ + 1,f=>f
 | i::l,m + 1,f=>sst R l m (A0 f (A5 R i) undef)
def sok (R:Array Oper) (j:Nat) (b:Bool) (q:Nat):List Nat->Nat->Bool
 | _,0=>true
 | [],_ + 1=>false
 | i::l,m + 1=>(match R[i]? with | some o=>(match o.guard with | some (j',b')=>Nat.beq j j'&&(b==b') | none=>false) | none=>false)&&((match A5 R i with | some d=>!Nat.beq q d | none=>true)&&sok R j b q l m)
theorem V4 {i j:Nat} {b:Bool} (h:(match R[i]? with | some o=>(match o.guard with | some (j',b')=>Nat.beq j j'&&(b==b') | none=>false) | none=>false)=true):opq R i=some (A5 R i,Ag R i,FC R i,some (j,b)):=by
 unfold opq A5 Ag FC
 cases hr:R[i]? with
 | none=>simp [hr] at h
 | some o=>
  simp only [hr] at h
  cases hg:o.guard with
  | none=>simp [hg] at h
  | some p=>
   obtain ⟨j',b'⟩:=p
   simp only [hg,Bool.and_eq_true,beq_iff_eq] at h
   have e1:=Nat.eq_of_beq_eq_true h.1
   have e2:=h.2
   subst e1;subst e2
   simp [hg]
theorem Qw {j q:Nat} {b:Bool} (hg:∀ f':Fr,f' q=f' q->True) (hgd:∀ f':Fr,∀ v,f' q=v->v=undef\/v=.bool (!b)->gd R f' (some (j,b))=false):∀ (m:Nat) {l:List Nat} {f:Fr},(f q=undef\/f q=.bool (!b))->RWP P ro n R Q (l.drop m) (sst R l m f) w->sok R j b q l m=true->RWP P ro n R Q l f w
 | 0,l,f,_,k,_=>by cases l <;> exact k
 | m + 1,[],f,_,k,h=>by simp [sok] at h
 | m + 1,i::l,f,hf,k,h=>by
  simp only [sok,Bool.and_eq_true] at h
  have hf':(A0 f (A5 R i) undef) q=f q:=Rl h.2.1
  exact RWP.skip (V4 h.1) (hgd f _ rfl hf) (Qw hg hgd m (by rw [hf'];exact hf) k h.2.2)
def gb (R:Array Oper):List Nat->Bool
 | i::_=>(match WS R i with | some (_,b)=>b | none=>false)
 | []=>false
theorem Ss {b c:Bool} (hc:c=b) (m:Nat) {l:List Nat} {f:Fr} (k:RWP P ro n R Q (l.drop m) (sst R l m f) w) (h:sok R (gj R l) (!b) (gq R l) l m=true:=by kernel_rfl)
  (hj:E5 R (gj R l)=some (gq R l):=by kernel_rfl) (hf:f (gq R l)=.bool c:=by kernel_rfl):RWP P ro n R Q l f w:=
 Qw (fun _ _=>trivial) (fun f' v e hv=>by
  rcases hv with hv | hv
  ·exact Wk hj (e.trans hv)
  ·exact Wl hj (e.trans hv) rfl) m (.inr (by rw [hf,hc];simp)) k h
theorem Su' (m:Nat) {l:List Nat} {f:Fr} (k:RWP P ro n R Q (l.drop m) (sst R l m f) w) (h:sok R (gj R l) (gb R l) (gq R l) l m=true:=by kernel_rfl)
  (hj:E5 R (gj R l)=some (gq R l):=by kernel_rfl) (hf:f (gq R l)=undef:=by kernel_rfl):RWP P ro n R Q l f w:=
 Qw (fun _ _=>trivial) (fun f' v e hv=>by
  rcases hv with hv | hv
  ·exact Wk hj (e.trans hv)
  ·exact Wl hj (e.trans hv) rfl) m (.inl hf) k h
end
def ups (g:Fr) (d:List Deferred):List (Nat×Value)->Fr
 | []=>⟨g.v,d⟩
 | (i,v)::l=>upd (ups g d l) i v
def FI (f:Fr) (d:List Deferred) (l:List (Nat×Value)):Prop:=∃ g,f=ups g d l
theorem S2 {f:Fr} {i:Nat} {v:Value} (h:f i=v):upd f i v=f:=by
 subst h
 cases f with
 | mk fv fd=>
  simp only [upd,Fr.mk.injEq,and_true]
  funext j
  cases hb:Nat.beq j i with
  | false=>rfl
  | true=>rw [Nat.eq_of_beq_eq_true hb];rfl
def Eqs (f:Fr):List (Nat×Value)->Prop
 | []=>True
 | (i,v)::l=>f i=v/\Eqs f l
theorem Mv {f:Fr} {d:List Deferred} (hd:f.d=d):∀ {l:List (Nat×Value)},Eqs f l->f=ups f d l
 | [],_=>by subst hd;rfl
 | (i,v)::l,h=>by
  show f=upd (ups f d l) i v
  rw [<-Mv hd h.2];exact (S2 h.1).symm
theorem Uc {f:Fr}:∀ {l:List (Nat×Value)},l.map (fun p=>f p.1)=l.map (·.2)->Eqs f l
 | [],_=>trivial
 | (i,v)::l,h=>by
  simp only [List.map_cons,List.cons.injEq] at h
  exact ⟨h.1,Uc h.2⟩
theorem kq {α:Type} {a:α} (b:α) {c:α} (h:b=c) (k:a=b:=by kernel_rfl):a=c:=k.trans h
theorem fI {f:Fr} {d:List Deferred} {l:List (Nat×Value)} (h:l.map (fun p=>f p.1)=l.map (·.2):=by kernel_rfl) (hd:f.d=d:=by kernel_rfl):FI f d l:=⟨f,Mv hd (Uc h)⟩
theorem fJ {f:Fr} {d:List Deferred} {l:List (Nat×Value)} (h:Eqs f l) (hd:f.d=d:=by kernel_rfl):FI f d l:=⟨f,Mv hd h⟩
def pkC:Op->Operand | .pick c _ _=>c | _=>.tmp 0
def pkA:Op->Operand | .pick _ a _=>a | _=>.tmp 0
def pkB:Op->Operand | .pick _ _ b=>b | _=>.tmp 0
def SH:Op->Bool | .pick _ _ _=>true | _=>false
theorem IR {op:Op} (h:SH op=true):op=.pick (pkC op) (pkA op) (pkB op):=by cases op <;> simp_all [SH,pkC,pkA,pkB]
def ldX:Op->Operand | .load _ x=>x | _=>.tmp 0
def ldT:Op->TypeId | .load t _=>t | _=>0
def PX:Op->Bool | .load _ _=>true | _=>false
theorem Fz {op:Op} (h:PX op=true):op=.load (ldT op) (ldX op):=by cases op <;> simp_all [PX,ldX,ldT]
def pO:Value->Nat | .pointer (some ⟨_,o,_⟩)=>o | _=>0
def sB:Value->Nat | .slice (some ⟨b,_,_⟩) _ _=>b | _=>0
def sO:Value->Nat | .slice (some ⟨_,o,_⟩) _ _=>o | _=>0
def sC:Value->Nat | .slice _ _ c=>c | _=>0
def iK:Value->IntKind | .int k _=>k | _=>.i64
def ixX:Op->Operand | .indexAddr _ x _=>x | _=>.tmp 0
def ixY:Op->Operand | .indexAddr _ _ y=>y | _=>.tmp 0
def ixT:Op->TypeId | .indexAddr t _ _=>t | _=>0
def QY:Op->Bool | .indexAddr _ _ _=>true | _=>false
theorem GP {op:Op} (h:QY op=true):op=.indexAddr (ixT op) (ixX op) (ixY op):=by cases op <;> simp_all [QY,ixT,ixX,ixY]
def stX:Op->Operand | .store _ x _=>x | _=>.tmp 0
def stY:Op->Operand | .store _ _ y=>y | _=>.tmp 0
def stT:Op->TypeId | .store t _ _=>t | _=>0
def HN:Op->Bool | .store _ _ _=>true | _=>false
theorem DG {op:Op} (h:HN op=true):op=.store (stT op) (stX op) (stY op):=by cases op <;> simp_all [HN,stT,stX,stY]
def Vj (t:TypeId):Op->Bool | .alloc t'=>Nat.beq t t' | _=>false
theorem Oh {t:TypeId} {op:Op} (h:Vj t op=true):op=.alloc t:=by
 cases op <;> simp only [Vj,Bool.false_eq_true] at h
 rw [Nat.eq_of_beq_eq_true h]
def bxX:Op->Operand | .box _ x=>x | _=>.tmp 0
def Vi (t:TypeId):Op->Bool | .box t' _=>Nat.beq t t' | _=>false
theorem Og {t:TypeId} {op:Op} (h:Vi t op=true):op=.box t (bxX op):=by
 cases op <;> simp only [Vi,Bool.false_eq_true] at h
 rw [Nat.eq_of_beq_eq_true h];rfl
def bsV (P:Program) (f:Fr):Op->Option (TypeId×List Value) | .buildSlice t len parts=>KI P t len (parts.toList.map fun p=>(p.1,fev f p.2)) | _=>none
def bsL:Op->Nat | .buildSlice _ len _=>len | _=>0
def clV (f:Fr):Op->Option (FuncId×List Value)
 | .call c=>(match c.callee with
  | .value f0=>(match fev f f0 with
   | .func (.func g) fi ca=>some (g,fi.toList++c.args.toList.map (fev f)++ca.toList)
   | _=>none)
  | _=>none)
 | _=>none
theorem Ky {P:Program} {w:World} {f:Fr} {op:Op} {ty:TypeId} {g:FuncId} {args:List Value} (h:clV f op=some (g,args)) (hok:Aj P g):(Ak (fev f) op ty).run P w=.ok (.enter g args.toArray) w:=by
 unfold clV at h
 split at h
 ·rename_i c
  obtain ⟨callee,aos,ats⟩:=c
  simp only at h
  split at h
  ·split at h
   ·rename_i hf
    simp only [Option.some.injEq,Prod.mk.injEq] at h
    obtain ⟨rfl,rfl⟩:=h
    exact DQ hf hok rfl
   ·cases h
  ·cases h
 ·cases h
section
variable {P : Program} {ro : Option Nat} {n : Nat} {R : Array Oper} {Q : Exit -> Fr -> World -> Prop} {i : Nat} {rest : List Nat} {f : Fr} {w w' w0 : World} {F0 F : Mem} {L : List (Option Nat × Obj)}
theorem RWP.valU {v:Value} (ho:ung R i=true) (hy:(Ak (fev f) (Ag R i) (FC R i)).run P w=.ok (.value v) w') (k:RWP P ro n R Q rest (A0 f (A5 R i) v) w'):RWP P ro n R Q (i::rest) f w:=Xn (A8 ho) rfl hy k
theorem Pk1 {t:Bool} (ht:t=true) (k:RWP P ro n R Q rest (A0 f (A5 R i) (fev f (pkA (Ag R i)))) w) (hc:fev f (pkC (Ag R i))=.bool t:=by kernel_rfl) (ho:(ung R i&&SH (Ag R i))=true:=by kernel_rfl):RWP P ro n R Q (i::rest) f w:=by
 simp only [Bool.and_eq_true] at ho
 refine RWP.valU ho.1 ?_ k
 have:=IR ho.2
 rw [this] at hc ⊢;exact KM hc ht rfl
theorem Pk0 {t:Bool} (ht:t=false) (k:RWP P ro n R Q rest (A0 f (A5 R i) (fev f (pkB (Ag R i)))) w) (hc:fev f (pkC (Ag R i))=.bool t:=by kernel_rfl) (ho:(ung R i&&SH (Ag R i))=true:=by kernel_rfl):RWP P ro n R Q (i::rest) f w:=by
 simp only [Bool.and_eq_true] at ho
 refine RWP.valU ho.1 ?_ k
 have:=IR ho.2
 rw [this] at hc ⊢;exact KN hc ht rfl
def ldV (P:Program) (t:TypeId) (C:Array Value) (o:Nat):Value:=match EF P t with | some (g,s)=>mkV g (Ao C o s) | none=>undef
def ldK (P:Program) (t:TypeId) (C:Array Value) (o:Nat):Bool:=match EF P t with | some (g,s)=>Nat.beq (Ao C o s).length s&&(g||s==1) | none=>false
theorem QG {ρ:Operand->Value} {t ty:TypeId} {x:Operand} {b o:Nat} {C:Array Value} {E:TypeId} {fz:Nat×Nat} (hx:ρ x=.pointer (some ⟨b,o,none⟩)) (hp:w.heap[b]? =some (.cells C E fz)) (hk:ldK P t C o=true):
  (Ak ρ (.load t x) ty).run P w=.ok (.value (ldV P t C o)) w:=by
 unfold ldK at hk;unfold ldV
 split at hk
 ·rename_i g s ht
  simp only [Bool.and_eq_true] at hk
  exact BH hx ht hp (Nat.eq_of_beq_eq_true hk.1) hk.2 rfl
 ·cases hk
theorem Ld {b:Nat} {C:Array Value} {E:TypeId} {fz:Nat×Nat} (hp:w.heap[b]? =some (.cells C E fz)) (k:RWP P ro n R Q rest (A0 f (A5 R i) (ldV P (ldT (Ag R i)) C (pO (fev f (ldX (Ag R i)))))) w)
  (hx:fev f (ldX (Ag R i))=.pointer (some ⟨b,pO (fev f (ldX (Ag R i))),none⟩):=by kernel_rfl) (ho:(ung R i&&(PX (Ag R i)&&ldK P (ldT (Ag R i)) C (pO (fev f (ldX (Ag R i))))))=true:=by kernel_rfl):RWP P ro n R Q (i::rest) f w:=by
 simp only [Bool.and_eq_true] at ho
 refine RWP.valU ho.1 ?_ k
 have:=Fz ho.2.1
 rw [this];exact QG hx hp ho.2.2
def lxV (P:Program) (t:TypeId) (cs:List Value) (j:Nat):Value:=match EF P t with | some (g,s)=>mkV g ((cs.drop j).take s) | none=>undef
def lxK (P:Program) (t:TypeId) (cs:List Value) (j kk:Nat):Bool:=match EF P t with | some (g,s)=>decide (j + s<=kk)&&(Nat.beq ((cs.drop j).take s).length s&&(g||s==1)) | none=>false
theorem QE {ρ:Operand->Value} {t ty:TypeId} {x:Operand} {j b o kk:Nat} {C:Array Value} {E:TypeId} {fz:Nat×Nat} {cs:List Value} (hx:ρ x=.pointer (some ⟨b,o + j,none⟩)) (hp:w.heap[b]? =some (.cells C E fz)) (hc:Ao C o kk=cs) (hk:lxK P t cs j kk=true):
  (Ak ρ (.load t x) ty).run P w=.ok (.value (lxV P t cs j)) w:=by
 unfold lxK at hk;unfold lxV
 split at hk
 ·rename_i g s ht
  simp only [Bool.and_eq_true] at hk
  exact KO hx ht hp hc hk.1 ⟨Nat.eq_of_beq_eq_true hk.2.1,trivial⟩ hk.2.2 rfl
 ·cases hk
theorem Lx (j:Nat) {b o kk:Nat} {C:Array Value} {E:TypeId} {fz:Nat×Nat} {cs:List Value} (hp:w.heap[b]? =some (.cells C E fz)) (hc:Ao C o kk=cs) (k:RWP P ro n R Q rest (A0 f (A5 R i) (lxV P (ldT (Ag R i)) cs j)) w)
  (hx:fev f (ldX (Ag R i))=.pointer (some ⟨b,o + j,none⟩):=by kernel_rfl) (ho:(ung R i&&(PX (Ag R i)&&lxK P (ldT (Ag R i)) cs j kk))=true:=by kernel_rfl):RWP P ro n R Q (i::rest) f w:=by
 simp only [Bool.and_eq_true] at ho
 refine RWP.valU ho.1 ?_ k
 have:=Fz ho.2.1
 rw [this];exact QE hx hp hc ho.2.2
def elS (P:Program) (t:TypeId):Nat:=match Bi P t with | some (_,s,_)=>s | none=>0
theorem Ix {m:Nat} {y:Int} (hi:0<=y/\y < (m:Int)) (k:RWP P ro n R Q rest (A0 f (A5 R i) (.pointer (some ⟨sB (fev f (ixX (Ag R i))),sO (fev f (ixX (Ag R i))) + y.toNat * elS P (ixT (Ag R i)),none⟩))) w)
  (hx:fev f (ixX (Ag R i))=.slice (some ⟨sB (fev f (ixX (Ag R i))),sO (fev f (ixX (Ag R i))),none⟩) m (sC (fev f (ixX (Ag R i)))):=by kernel_rfl) (hy:fev f (ixY (Ag R i))=.int (iK (fev f (ixY (Ag R i)))) y:=by kernel_rfl)
  (ho:(ung R i&&(QY (Ag R i)&&slQ P (ixT (Ag R i))))=true:=by kernel_rfl):RWP P ro n R Q (i::rest) f w:=by
 simp only [Bool.and_eq_true] at ho
 obtain ⟨h1,h2,h3⟩:=ho
 refine RWP.valU h1 ?_ k
 unfold slQ at h3
 split at h3
 ·rename_i q hq;obtain ⟨E,s,by_⟩:=q
  have es:elS P (ixT (Ag R i))=s:=by simp [elS,hq]
  rw [es]
  have e:=GP h2
  have:=Ca (P:=P) (w:=w) (ty:=FC R i) hx hy hq hi
  rw [<-e] at this;exact this
 ·cases h3
theorem Ix0 {m:Nat} {y:Int} (hi:0<=y/\y < (m:Int)) (k:RWP P ro n R Q rest (A0 f (A5 R i) (.pointer (some ⟨sB (fev f (ixX (Ag R i))),y.toNat * elS P (ixT (Ag R i)),none⟩))) w)
  (hx:fev f (ixX (Ag R i))=.slice (some ⟨sB (fev f (ixX (Ag R i))),0,none⟩) m (sC (fev f (ixX (Ag R i)))):=by kernel_rfl) (hy:fev f (ixY (Ag R i))=.int (iK (fev f (ixY (Ag R i)))) y:=by kernel_rfl)
  (ho:(ung R i&&(QY (Ag R i)&&slQ P (ixT (Ag R i))))=true:=by kernel_rfl):RWP P ro n R Q (i::rest) f w:=by
 simp only [Bool.and_eq_true] at ho
 obtain ⟨h1,h2,h3⟩:=ho
 refine RWP.valU h1 ?_ k
 unfold slQ at h3
 split at h3
 ·rename_i q hq;obtain ⟨E,s,by_⟩:=q
  have es:elS P (ixT (Ag R i))=s:=by simp [elS,hq]
  rw [es]
  have e:=GP h2
  have:=D4 (P:=P) (w:=w) (ty:=FC R i) hx hy hq hi
  rw [<-e] at this;exact this
 ·cases h3
theorem Td {ρ:Operand->Value} {t ty:TypeId} {x y:Operand} {m:Nat} {q:Int} (hi:0<=q/\q < (m:Int)) (hx:ρ x=.slice (some ⟨sB (ρ x),sO (ρ x),none⟩) m (sC (ρ x))) (hy:ρ y=.int (iK (ρ y)) q) (h3:slQ P t=true):
  (Ak ρ (.indexAddr t x y) ty).run P w=.ok (.value (.pointer (some ⟨sB (ρ x),sO (ρ x) + q.toNat * elS P t,none⟩))) w:=by
 unfold slQ at h3
 split at h3
 ·rename_i a hq;obtain ⟨E,s,by_⟩:=a
  have es:elS P t=s:=by simp [elS,hq]
  rw [es];exact Ca hx hy hq hi
 ·cases h3
theorem UK {t ty:TypeId} {x y:Operand} {m:Nat} {q:Int} (hi:0<=q/\q < (m:Int)) (hx:fev f x=.slice (some ⟨sB (fev f x),0,none⟩) m (sC (fev f x))) (hy:fev f y=.int (iK (fev f y)) q) (h3:slQ P t=true):
  (Ak (fev f) (.indexAddr t x y) ty).run P w=.ok (.value (.pointer (some ⟨sB (fev f x),q.toNat * elS P t,none⟩))) w:=by
 unfold slQ at h3
 split at h3
 ·rename_i a hq;obtain ⟨E,s,by_⟩:=a
  have es:elS P t=s:=by simp [elS,hq]
  rw [es];exact D4 hx hy hq hi
 ·cases h3
theorem RWP.valG {gb' gc:Bool} (hg:gc=gb') {v:Value} (hy:(Ak (fev f) (Ag R i) (FC R i)).run P w=.ok (.value v) w') (k:RWP P ro n R Q rest (A0 f (A5 R i) v) w')
  (h0:Mw R (gj R [i]) gb' i=true) (hj:E5 R (gj R [i])=some (gq R [i])) (hf:f (gq R [i])=.bool gc):RWP P ro n R Q (i::rest) f w:=by
 rcases MT h0 with e | e
 ·exact Xn e rfl hy k
 ·exact Xn e (Ih hj hf hg) hy k
theorem Pg1 {gb' gc:Bool} (hg:gc=gb') {t:Bool} (ht:t=true) (k:RWP P ro n R Q rest (A0 f (A5 R i) (fev f (pkA (Ag R i)))) w) (hc:fev f (pkC (Ag R i))=.bool t:=by kernel_rfl) (ho:SH (Ag R i)=true:=by kernel_rfl)
  (h0:Mw R (gj R [i]) gb' i=true:=by kernel_rfl) (hj:E5 R (gj R [i])=some (gq R [i]):=by kernel_rfl) (hf:f (gq R [i])=.bool gc:=by kernel_rfl):RWP P ro n R Q (i::rest) f w:=by
 refine RWP.valG hg ?_ k h0 hj hf
 have:=IR ho
 rw [this] at hc ⊢;exact KM hc ht rfl
theorem Pg0 {gb' gc:Bool} (hg:gc=gb') {t:Bool} (ht:t=false) (k:RWP P ro n R Q rest (A0 f (A5 R i) (fev f (pkB (Ag R i)))) w) (hc:fev f (pkC (Ag R i))=.bool t:=by kernel_rfl) (ho:SH (Ag R i)=true:=by kernel_rfl)
  (h0:Mw R (gj R [i]) gb' i=true:=by kernel_rfl) (hj:E5 R (gj R [i])=some (gq R [i]):=by kernel_rfl) (hf:f (gq R [i])=.bool gc:=by kernel_rfl):RWP P ro n R Q (i::rest) f w:=by
 refine RWP.valG hg ?_ k h0 hj hf
 have:=IR ho
 rw [this] at hc ⊢;exact KN hc ht rfl
theorem Lg {gb' gc:Bool} (hg:gc=gb') {b:Nat} {C:Array Value} {E:TypeId} {fz:Nat×Nat} (hp:w.heap[b]? =some (.cells C E fz)) (k:RWP P ro n R Q rest (A0 f (A5 R i) (ldV P (ldT (Ag R i)) C (pO (fev f (ldX (Ag R i)))))) w)
  (hx:fev f (ldX (Ag R i))=.pointer (some ⟨b,pO (fev f (ldX (Ag R i))),none⟩):=by kernel_rfl) (ho:(PX (Ag R i)&&ldK P (ldT (Ag R i)) C (pO (fev f (ldX (Ag R i)))))=true:=by kernel_rfl)
  (h0:Mw R (gj R [i]) gb' i=true:=by kernel_rfl) (hj:E5 R (gj R [i])=some (gq R [i]):=by kernel_rfl) (hf:f (gq R [i])=.bool gc:=by kernel_rfl):RWP P ro n R Q (i::rest) f w:=by
 simp only [Bool.and_eq_true] at ho
 refine RWP.valG hg ?_ k h0 hj hf
 have:=Fz ho.1
 rw [this];exact QG hx hp ho.2
theorem Lxg {gb' gc:Bool} (hg:gc=gb') (j:Nat) {b o kk:Nat} {C:Array Value} {E:TypeId} {fz:Nat×Nat} {cs:List Value} (hp:w.heap[b]? =some (.cells C E fz)) (hcs:Ao C o kk=cs) (k:RWP P ro n R Q rest (A0 f (A5 R i) (lxV P (ldT (Ag R i)) cs j)) w)
  (hx:fev f (ldX (Ag R i))=.pointer (some ⟨b,o + j,none⟩):=by kernel_rfl) (ho:(PX (Ag R i)&&lxK P (ldT (Ag R i)) cs j kk)=true:=by kernel_rfl)
  (h0:Mw R (gj R [i]) gb' i=true:=by kernel_rfl) (hj:E5 R (gj R [i])=some (gq R [i]):=by kernel_rfl) (hf:f (gq R [i])=.bool gc:=by kernel_rfl):RWP P ro n R Q (i::rest) f w:=by
 simp only [Bool.and_eq_true] at ho
 refine RWP.valG hg ?_ k h0 hj hf
 have:=Fz ho.1
 rw [this];exact QE hx hp hcs ho.2
theorem Ixg {gb' gc:Bool} (hg:gc=gb') {m:Nat} {y:Int} (hi:0<=y/\y < (m:Int)) (k:RWP P ro n R Q rest (A0 f (A5 R i) (.pointer (some ⟨sB (fev f (ixX (Ag R i))),sO (fev f (ixX (Ag R i))) + y.toNat * elS P (ixT (Ag R i)),none⟩))) w)
  (hx:fev f (ixX (Ag R i))=.slice (some ⟨sB (fev f (ixX (Ag R i))),sO (fev f (ixX (Ag R i))),none⟩) m (sC (fev f (ixX (Ag R i)))):=by kernel_rfl) (hy:fev f (ixY (Ag R i))=.int (iK (fev f (ixY (Ag R i)))) y:=by kernel_rfl)
  (ho:(QY (Ag R i)&&slQ P (ixT (Ag R i)))=true:=by kernel_rfl)
  (h0:Mw R (gj R [i]) gb' i=true:=by kernel_rfl) (hj:E5 R (gj R [i])=some (gq R [i]):=by kernel_rfl) (hf:f (gq R [i])=.bool gc:=by kernel_rfl):RWP P ro n R Q (i::rest) f w:=by
 simp only [Bool.and_eq_true] at ho
 refine RWP.valG hg ?_ k h0 hj hf
 have e:=GP ho.1
 have:=Td (P:=P) (w:=w) (ty:=FC R i) hi hx hy ho.2
 rw [<-e] at this;exact this
theorem Xi {gb' gc:Bool} (hg:gc=gb') {m:Nat} {y:Int} (hi:0<=y/\y < (m:Int)) (k:RWP P ro n R Q rest (A0 f (A5 R i) (.pointer (some ⟨sB (fev f (ixX (Ag R i))),y.toNat * elS P (ixT (Ag R i)),none⟩))) w)
  (hx:fev f (ixX (Ag R i))=.slice (some ⟨sB (fev f (ixX (Ag R i))),0,none⟩) m (sC (fev f (ixX (Ag R i)))):=by kernel_rfl) (hy:fev f (ixY (Ag R i))=.int (iK (fev f (ixY (Ag R i)))) y:=by kernel_rfl)
  (ho:(QY (Ag R i)&&slQ P (ixT (Ag R i)))=true:=by kernel_rfl)
  (h0:Mw R (gj R [i]) gb' i=true:=by kernel_rfl) (hj:E5 R (gj R [i])=some (gq R [i]):=by kernel_rfl) (hf:f (gq R [i])=.bool gc:=by kernel_rfl):RWP P ro n R Q (i::rest) f w:=by
 simp only [Bool.and_eq_true] at ho
 refine RWP.valG hg ?_ k h0 hj hf
 have e:=GP ho.1
 have:=UK (P:=P) (w:=w) (ty:=FC R i) hi hx hy ho.2
 rw [<-e] at this;exact this
theorem Al' (t:TypeId) (C:Array Value) (hs:HS w0 F0 w F L) (k:∀ b w',HS w0 F0 w' F ((some b,.cells C t (0,0))::L)->RWP P ro n R Q rest (A0 f (A5 R i) (.pointer (some ⟨b,0,none⟩))) w')
  (hC:(BN P t).map Value.cells=some C:=by kernel_rfl) (ho:(ung R i&&Vj t (Ag R i))=true:=by kernel_rfl):RWP P ro n R Q (i::rest) f w:=by
 simp only [Bool.and_eq_true] at ho
 cases hz:BN P t with
 | none=>rw [hz] at hC;cases hC
 | some z=>
  rw [hz] at hC;simp only [Option.map_some,Option.some.injEq] at hC
  have e:=Oh ho.2
  have:=A8 ho.1
  rw [e] at this
  exact RWP.alloc this rfl hz hC hs k
theorem Bx' (t:TypeId) (C:Array Value) (hs:HS w0 F0 w F L) (k:∀ b w',HS w0 F0 w' F ((some b,.cells C t (0,0))::L)->RWP P ro n R Q rest (A0 f (A5 R i) (.pointer (some ⟨b,0,none⟩))) w')
  (hC:(fev f (bxX (Ag R i))).cells=C:=by kernel_rfl) (ho:(ung R i&&Vi t (Ag R i))=true:=by kernel_rfl):RWP P ro n R Q (i::rest) f w:=by
 simp only [Bool.and_eq_true] at ho
 have e:=Og ho.2
 have:=A8 ho.1
 rw [e] at this
 exact RWP.box this rfl rfl hC hs k
theorem Bs (E:TypeId) (cs:List Value) (hs:HS w0 F0 w F L) (k:∀ b w',HS w0 F0 w' F ((some b,.cells cs.toArray E (0,0))::L)->RWP P ro n R Q rest (A0 f (A5 R i) (.slice (some ⟨b,0,none⟩) (bsL (Ag R i)) (bsL (Ag R i)))) w')
  (hb:bsV P f (Ag R i)=some (E,cs):=by kernel_rfl) (ho:ung R i=true:=by kernel_rfl):RWP P ro n R Q (i::rest) f w:=by
 have:=A8 ho
 cases e:Ag R i with
 | buildSlice t len parts=>
  rw [e] at hb this k
  exact RWP.buildSlice this rfl rfl hb hs k
 | _=>rw [e] at hb;simp [bsV] at hb
def C4 (P:Program) (t:TypeId) (v:Value) (o:Nat) (C:Array Value):Bool:=match EF P t with | some (_,s)=>Nat.beq v.cells.size s&&(decide (o + s<=C.size)&&v.cells.toList.all (·.oneCell')) | none=>false
theorem G3 {ρ:Operand->Value} {t ty:TypeId} {x y:Operand} {b o:Nat} {C C':Array Value} {E:TypeId} (hx:ρ x=.pointer (some ⟨b,o,none⟩)) (hp:w.heap[b]? =some (.cells C E (0,0))) (hk:C4 P t (ρ y) o C=true) (hC:CZ C o (ρ y).cells.toList=C'):
  (Ak ρ (.store t x y) ty).run P w=.ok .skip (B4 w b (.cells C' E (0,0))):=by
 unfold C4 at hk
 split at hk
 ·rename_i g s ht
  simp only [Bool.and_eq_true] at hk
  exact Qz hx rfl ht hp (Nat.eq_of_beq_eq_true hk.1) hk.2.1 hk.2.2 hC
 ·cases hk
theorem JR {b:Nat} {C C':Array Value} {E:TypeId} (hp:w.heap[b]? =some (.cells C E (0,0))) (k:RWP P ro n R Q rest f (B4 w b (.cells C' E (0,0))))
  (hx:fev f (stX (Ag R i))=.pointer (some ⟨b,pO (fev f (stX (Ag R i))),none⟩)) (hC:CZ C (pO (fev f (stX (Ag R i)))) (fev f (stY (Ag R i))).cells.toList=C')
  (ho:(ung R i&&(HN (Ag R i)&&(C4 P (stT (Ag R i)) (fev f (stY (Ag R i))) (pO (fev f (stX (Ag R i)))) C&&(match A5 R i with | none=>true | some _=>false))))=true):RWP P ro n R Q (i::rest) f w:=by
 simp only [Bool.and_eq_true] at ho
 obtain ⟨h1,h2,h3,h4⟩:=ho
 have e:=DG h2
 have:=A8 h1
 cases hd:A5 R i with
 | some d=>rw [hd] at h4;cases h4
 | none=>
  rw [hd] at this
  refine RWP.unit this rfl ?_ k
  rw [e];exact G3 hx hp h3 hC
theorem Cl' {fid:FuncId} {args:List Value} {post:Mem->Value->Prop} (hok:Aj P fid) (hs:HS w0 F0 w F L) (hc:Calls P fid args.toArray w (AA w F post))
  (k:∀ v F1 w1,HS w0 F0 w1 F1 L->Xq F F1->post F1 v->RWP P ro n R Q rest (A0 f (A5 R i) v) w1) (ha:clV f (Ag R i)=some (fid,args):=by kernel_rfl) (ho:ung R i=true:=by kernel_rfl):RWP P ro n R Q (i::rest) f w:=by
 refine Xo (A8 ho) rfl (Ky ha hok) hc ?_
 rintro e w' ⟨r,F',rfl,h1,h2⟩
 exact k r F' w' (hs.call h1) h1.le h2
theorem Cg {fid:FuncId} {args:List Value} {post:Mem->Value->Prop} {b c:Bool} (hg:c=b) (hok:Aj P fid) (hs:HS w0 F0 w F L) (hc:Calls P fid args.toArray w (AA w F post))
  (k:∀ v F1 w1,HS w0 F0 w1 F1 L->Xq F F1->post F1 v->RWP P ro n R Q rest (A0 f (A5 R i) v) w1) (ha:clV f (Ag R i)=some (fid,args):=by kernel_rfl)
  (ho:Mw R (gj R [i]) b i=true:=by kernel_rfl) (hj:E5 R (gj R [i])=some (gq R [i]):=by kernel_rfl) (hf:f (gq R [i])=.bool c:=by kernel_rfl):RWP P ro n R Q (i::rest) f w:=by
 have hE:∀ e w',AA w F post e w'->match e with
   | .returned v=>RWP P ro n R Q rest (A0 f (A5 R i) v) w'
   | .panicked chain=>Q (.panic chain) f w'
   | .outgrown=>False:=by
  rintro e w' ⟨r,F',rfl,h1,h2⟩
  exact k r F' w' (hs.call h1) h1.le h2
 rcases MT ho with e | e
 ·exact Xo e rfl (Ky ha hok) hc hE
 ·exact Xo e (Ih hj hf hg) (Ky ha hok) hc hE
theorem CB {fid:FuncId} {args:List Value} {wb:World} {Fb:Mem} {post:Mem->Value->Own->Prop} (hok:Aj P fid) (hc:Calls P fid args.toArray w (EM wb Fb F post))
  (k:∀ v F1 w1 L',HS wb Fb w1 F1 L'->Xq F F1->post F1 v L'->RWP P ro n R Q rest (A0 f (A5 R i) v) w1) (ha:clV f (Ag R i)=some (fid,args):=by kernel_rfl) (ho:ung R i=true:=by kernel_rfl):RWP P ro n R Q (i::rest) f w:=by
 refine Xo (A8 ho) rfl (Ky ha hok) hc ?_
 rintro e w' ⟨F',r,L',rfl,h1,h2,h3⟩
 exact k r F' w' L' h1 h2 h3
def clQ (f:Fr):Op->Option (FuncId×List Value)
 | .call c=>(match c.callee with
  | .value f0=>(match fev f f0 with
   | .func (.func g) fi ca=>some (g,fi.toList++(c.args.toList.map (fev f)++ca.toList))
   | _=>none)
  | _=>none)
 | _=>none
theorem Wy (f:Fr) (op:Op):clQ f op=clV f op:=by
 unfold clQ clV
 split <;> try rfl
 split <;> try rfl
 split <;> try rfl
 simp [List.append_assoc]
theorem Cq {fid:FuncId} {args:List Value} {post:Mem->Value->Prop} (hok:Aj P fid) (hs:HS w0 F0 w F L) (hc:Calls P fid args.toArray w (AA w F post))
  (k:∀ v F1 w1,HS w0 F0 w1 F1 L->Xq F F1->post F1 v->RWP P ro n R Q rest (A0 f (A5 R i) v) w1) (ha:clQ f (Ag R i)=some (fid,args):=by kernel_rfl) (ho:ung R i=true:=by kernel_rfl):RWP P ro n R Q (i::rest) f w:=Cl' hok hs hc k (Wy f _ ▸ ha) ho
theorem Go (m:Nat) {fid:FuncId} {fn:Func} {args:List Value} {S:Ending->World->Prop} (hf:P.funcs[fid]? =some fn) (h:CWP P none m (ND fn) (WH P fn.results S) (f0 args) w)
  (hk:(Nat.beq fn.ntmps m&&(decide (args.length<=m)&&isS fn.body))=true:=by kernel_rfl):Calls P fid args.toArray w S:=by
 simp only [Bool.and_eq_true] at hk
 have h1:=Ic (d:=.skip) hk.2.2
 exact Nx hf h1 (Nat.eq_of_beq_eq_true hk.1) hk.2.1 h
theorem Sd {α:Type} {t:Bool} {x y r:α} (h:(bif t then x else y)=r) {PQ:List PanicEntry->List Deferred->World->Prop} {Post:Fr->World->Prop} {z:Nat} {Sw:Bool->World->Prop} {fuel:Nat} {l:List Bool}
  (ht:t=true->x=r->DWP P n R PQ Post z Sw fuel l f w) (hf:t=false->y=r->DWP P n R PQ Post z Sw fuel l f w):DWP P n R PQ Post z Sw fuel l f w:=
 DWP.split t (fun e=>ht e (Pa h e)) (fun e=>hf e (Pb h e))
variable {c : Code} {Q' : Exit -> Fr -> World -> Prop}
theorem Cd {α:Type} {t:Bool} {x y r:α} (h:(bif t then x else y)=r) (ht:t=true->x=r->CWP P ro n (Uh c) Q f w) (hf:t=false->y=r->CWP P ro n (Uj c) Q f w) (hc:fev f (Q8 c)=.bool t:=by kernel_rfl) (hk:kin c=4:=by kernel_rfl):CWP P ro n c Q f w:=
 CWP.cond hk hc (fun e=>ht e (Pa h e)) (fun e=>hf e (Pb h e))
theorem Cp (t:Bool) (ht:t=true->CWP P ro n (Uh c) Q f w) (hf:t=false->CWP P ro n (Uj c) Q f w) (hc:fev f (Q8 c)=.bool t:=by kernel_rfl) (hk:kin c=4:=by kernel_rfl):CWP P ro n c Q f w:=CWP.cond hk hc ht hf
theorem C1 {t:Bool} (e:t=true) (h:CWP P ro n (Uh c) Q f w) (hc:fev f (Q8 c)=.bool t:=by kernel_rfl) (hk:kin c=4:=by kernel_rfl):CWP P ro n c Q f w:=CWP.cond1 hk hc e h
theorem C0 {t:Bool} (e:t=false) (h:CWP P ro n (Uj c) Q f w) (hc:fev f (Q8 c)=.bool t:=by kernel_rfl) (hk:kin c=4:=by kernel_rfl):CWP P ro n c Q f w:=CWP.cond0 hk hc e h
theorem Sp {α:Type} {t:Bool} {x y r:α} (h:(bif t then x else y)=r) {l:List Nat} (ht:t=true->x=r->RWP P ro n R Q l f w) (hf:t=false->y=r->RWP P ro n R Q l f w):RWP P ro n R Q l f w:=
 Xv t (fun e=>ht e (Pa h e)) (fun e=>hf e (Pb h e))
theorem Rt (h:Q .ret f w) (hk:kin c=8:=by kernel_rfl):CWP P ro n c Q f w:=CWP.ret hk h
theorem Ex (h:Q (.exit (cid c)) f w) (hk:kin c=7:=by kernel_rfl):CWP P ro n c Q f w:=CWP.exit hk h
end
def Sk (f:Fr):List ResultVar->Option (List Value)
 | []=>some []
 | .tmp t::rs=>(match Sk f rs with | some l=>some (f t::l) | none=>none)
 | _=>none
theorem KP {P:Program} {w:World} {f:Fr}:∀ {rs:List ResultVar} {vs:List Value},Sk f rs=some vs->Uu P w f rs vs
 | [],_,h=>by cases h;trivial
 | .tmp t::rs,vs,h=>by
  unfold Sk at h
  split at h
  ·rename_i l hl;cases h;exact ⟨rfl,KP hl⟩
  ·cases h
 | .cell _ _::rs,vs,h=>by simp [Sk] at h
theorem Re {P:Program} {rs:Array ResultVar} {w w0:World} {F0 F:Mem} {f:Fr} {L:List (Option Nat×Obj)} {post:Mem->Value->Prop} (vs:List Value) (hs:HS w0 F0 w F L) (hp:post F (Ju vs)) (hr:Sk f rs.toList=some vs:=by kernel_rfl) (hd:f.d=[]:=by kernel_rfl):
  f.d=[]/\ ∃ v,(Dd rs f).run P w=.ok v w/\AA w0 F0 post (.returned v) w:=
 ⟨hd,Ju vs,AR rfl (KP hr),Ju vs,F,rfl,hs.clear,hp⟩
theorem ReB {P:Program} {rs:Array ResultVar} {w wb:World} {Fb F0 F:Mem} {f:Fr} {L:Own} {post:Mem->Value->Own->Prop} (vs:List Value) (hs:HS wb Fb w F L) (hl:Xq F0 F) (hp:post F (Ju vs) L) (hr:Sk f rs.toList=some vs:=by kernel_rfl) (hd:f.d=[]:=by kernel_rfl):
  f.d=[]/\ ∃ v,(Dd rs f).run P w=.ok v w/\EM wb Fb F0 post (.returned v) w:=
 ⟨hd,Ju vs,AR rfl (KP hr),F,Ju vs,L,rfl,hs,hl,hp⟩
section
variable {w0 w : World} {F0 F : Mem} {L : List (Option Nat × Obj)} {e : Option Nat × Obj}
theorem HS.dr0 (h:HS w0 F0 w F (e::L)):HS w0 F0 w F (L):=h.drop 0
theorem HS.at0 {b:Nat} {o:Obj} (h:HS w0 F0 w F ((some b,o)::L)):w.heap[b]? =some o:=h.ownAt (k:=0) rfl
theorem HS.fc0 {b:Nat} {o:Obj} (h:HS w0 F0 w F ((some b,o)::L)):∃ F1,HS w0 F0 w F1 (L)/\Xq F F1/\F1 b=some o:=h.freezeC (k:=0) rfl
theorem HS.fr0 {α:Type} {T:Ty α} {E:TypeId} {a:XM} {cap:Nat} {l:List α} (h:HS w0 F0 w F (e::L)) (hr:As T E F a cap l e):∃ F1,HS w0 F0 w F1 (L)/\Xq F F1/\SlA T F1 a l:=h.freezeRow (k:=0) rfl hr
theorem HS.rd0 {α:Type} {T:Ty α} {E:TypeId} {a:XM} {cap:Nat} {l:List α} (h:HS w0 F0 w F (e::L)) (hr:As T E F a cap l e):Rd T F w a l:=As.rd h (k:=0) rfl hr
theorem HS.dr1 {e0:Option Nat×Obj} (h:HS w0 F0 w F (e0::e::L)):HS w0 F0 w F (e0::L):=h.drop 1
theorem HS.pk1 {e0:Option Nat×Obj} (h:HS w0 F0 w F (e0::e::L)):HS w0 F0 w F (e::e0::L):=h.pick (k:=1) rfl
theorem HS.at1 {e0:Option Nat×Obj} {b:Nat} {o:Obj} (h:HS w0 F0 w F (e0::(some b,o)::L)):w.heap[b]? =some o:=h.ownAt (k:=1) rfl
theorem HS.fc1 {e0:Option Nat×Obj} {b:Nat} {o:Obj} (h:HS w0 F0 w F (e0::(some b,o)::L)):∃ F1,HS w0 F0 w F1 (e0::L)/\Xq F F1/\F1 b=some o:=h.freezeC (k:=1) rfl
theorem HS.fr1 {e0:Option Nat×Obj} {α:Type} {T:Ty α} {E:TypeId} {a:XM} {cap:Nat} {l:List α} (h:HS w0 F0 w F (e0::e::L)) (hr:As T E F a cap l e):∃ F1,HS w0 F0 w F1 (e0::L)/\Xq F F1/\SlA T F1 a l:=h.freezeRow (k:=1) rfl hr
theorem HS.dr2 {e0 e1:Option Nat×Obj} (h:HS w0 F0 w F (e0::e1::e::L)):HS w0 F0 w F (e0::e1::L):=h.drop 2
theorem HS.pk2 {e0 e1:Option Nat×Obj} (h:HS w0 F0 w F (e0::e1::e::L)):HS w0 F0 w F (e::e0::e1::L):=h.pick (k:=2) rfl
theorem HS.at2 {e0 e1:Option Nat×Obj} {b:Nat} {o:Obj} (h:HS w0 F0 w F (e0::e1::(some b,o)::L)):w.heap[b]? =some o:=h.ownAt (k:=2) rfl
theorem HS.dr3 {e0 e1 e2:Option Nat×Obj} (h:HS w0 F0 w F (e0::e1::e2::e::L)):HS w0 F0 w F (e0::e1::e2::L):=h.drop 3
theorem HS.pk3 {e0 e1 e2:Option Nat×Obj} (h:HS w0 F0 w F (e0::e1::e2::e::L)):HS w0 F0 w F (e::e0::e1::e2::L):=h.pick (k:=3) rfl
theorem HS.at3 {e0 e1 e2:Option Nat×Obj} {b:Nat} {o:Obj} (h:HS w0 F0 w F (e0::e1::e2::(some b,o)::L)):w.heap[b]? =some o:=h.ownAt (k:=3) rfl
theorem HS.dr4 {e0 e1 e2 e3:Option Nat×Obj} (h:HS w0 F0 w F (e0::e1::e2::e3::e::L)):HS w0 F0 w F (e0::e1::e2::e3::L):=h.drop 4
theorem HS.pk4 {e0 e1 e2 e3:Option Nat×Obj} (h:HS w0 F0 w F (e0::e1::e2::e3::e::L)):HS w0 F0 w F (e::e0::e1::e2::e3::L):=h.pick (k:=4) rfl
theorem HS.at4 {e0 e1 e2 e3:Option Nat×Obj} {b:Nat} {o:Obj} (h:HS w0 F0 w F (e0::e1::e2::e3::(some b,o)::L)):w.heap[b]? =some o:=h.ownAt (k:=4) rfl
theorem HS.dr5 {e0 e1 e2 e3 e4:Option Nat×Obj} (h:HS w0 F0 w F (e0::e1::e2::e3::e4::e::L)):HS w0 F0 w F (e0::e1::e2::e3::e4::L):=h.drop 5
theorem HS.pk5 {e0 e1 e2 e3 e4:Option Nat×Obj} (h:HS w0 F0 w F (e0::e1::e2::e3::e4::e::L)):HS w0 F0 w F (e::e0::e1::e2::e3::e4::L):=h.pick (k:=5) rfl
theorem HS.at5 {e0 e1 e2 e3 e4:Option Nat×Obj} {b:Nat} {o:Obj} (h:HS w0 F0 w F (e0::e1::e2::e3::e4::(some b,o)::L)):w.heap[b]? =some o:=h.ownAt (k:=5) rfl
theorem HS.pk6 {e0 e1 e2 e3 e4 e5:Option Nat×Obj} (h:HS w0 F0 w F (e0::e1::e2::e3::e4::e5::e::L)):HS w0 F0 w F (e::e0::e1::e2::e3::e4::e5::L):=h.pick (k:=6) rfl
theorem HS.at6 {e0 e1 e2 e3 e4 e5:Option Nat×Obj} {b:Nat} {o:Obj} (h:HS w0 F0 w F (e0::e1::e2::e3::e4::e5::(some b,o)::L)):w.heap[b]? =some o:=h.ownAt (k:=6) rfl
theorem HS.pk7 {e0 e1 e2 e3 e4 e5 e6:Option Nat×Obj} (h:HS w0 F0 w F (e0::e1::e2::e3::e4::e5::e6::e::L)):HS w0 F0 w F (e::e0::e1::e2::e3::e4::e5::e6::L):=h.pick (k:=7) rfl
variable {P : Program} {ro : Option Nat} {n : Nat} {R : Array Oper} {Q : Exit -> Fr -> World -> Prop} {i : Nat} {rest : List Nat} {f : Fr} {α : Type} {T : Ty α} {E : TypeId} {a : XM} {cap : Nat} {l m : List α}
def apX:Op->Operand | .call c=>c.args[0]?.getD (.tmp 0) | _=>.tmp 0
def apY:Op->Operand | .call c=>c.args[1]?.getD (.tmp 0) | _=>.tmp 0
def apK (P:Program) (E:TypeId) (sz:Nat):Op->Bool
 | .call c=>(match c.callee with
  | .builtin .append=>(match c.args.toList,c.argTypes.toList with
   | [_,_],[t,t2]=>(match Bi P t,BN P E with
    | some (E',s,by_),some z=>Nat.beq E E'&&(Nat.beq s sz&&(decide (by_<=1024)&&(Nc P t2&&Nat.beq z.cells.size sz)))
    | _,_=>false)
   | _,_=>false)
  | _=>false)
 | _=>false
theorem FQ {op:Op} {sz:Nat} (h:apK P E sz op=true):∃ t t2 by_ z,op=.call {callee:=.builtin .append,args:=#[apX op,apY op],argTypes:=#[t,t2]}/\Bi P t=some (E,sz,by_)/\decide (by_<=1024)=true/\Nc P t2=true/\BN P E=some z/\z.cells.size=sz:=by
 unfold apK at h
 split at h
 ·rename_i c
  obtain ⟨callee,aos,ats⟩:=c
  simp only at h
  split at h
  ·split at h
   ·rename_i x y t t2 h1 h2
    split at h
    ·rename_i E' s by_ z he hz
     simp only [Bool.and_eq_true] at h
     obtain ⟨e1,e2,e3,e4,e5⟩:=h
     have e1:=Nat.eq_of_beq_eq_true e1
     have e2:=Nat.eq_of_beq_eq_true e2
     subst e1;subst e2
     have ha:aos=#[x,y]:=by cases aos;simpa using h1
     have hb:ats=#[t,t2]:=by cases ats;simpa using h2
     subst ha;subst hb
     exact ⟨t,t2,by_,z,rfl,he,e3,e4,hz,Nat.eq_of_beq_eq_true e5⟩
    ·cases h
   ·cases h
  ·cases h
 ·cases h
theorem St0 {b:Nat} {C:Array Value} {E:TypeId} (C':Array Value) (hs:HS w0 F0 w F ((some b,.cells C E (0,0))::L)) (k:∀ w',HS w0 F0 w' F ((some b,.cells C' E (0,0))::L)->RWP P ro n R Q rest f w')
  (hx:fev f (stX (Ag R i))=.pointer (some ⟨b,pO (fev f (stX (Ag R i))),none⟩):=by kernel_rfl) (hC:CZ C (pO (fev f (stX (Ag R i)))) (fev f (stY (Ag R i))).cells.toList=C':=by kernel_rfl)
  (ho:(ung R i&&(HN (Ag R i)&&(C4 P (stT (Ag R i)) (fev f (stY (Ag R i))) (pO (fev f (stX (Ag R i)))) C&&(match A5 R i with | none=>true | some _=>false))))=true:=by kernel_rfl):RWP P ro n R Q (i::rest) f w:=
 JR (hs.ownAt (k:=0) rfl) (k _ (hs.put (k:=0) rfl _)) hx hC ho
theorem Ap0 {a2:XM} (h1:T.One) (hs:HS w0 F0 w F (e::L)) (hr:As T E F a cap l e) (hm:Rd T F w a2 m) {r:List α} (hap:DM l m=some r)
  (k:∀ a' cap' e' w',HS w0 F0 w' F (e'::L)->As T E F a' cap' r e'->RWP P ro n R Q rest (A0 f (A5 R i) (.slice a' r.length cap')) w')
  (hx:fev f (apX (Ag R i))=.slice a l.length cap:=by kernel_rfl) (hy:fev f (apY (Ag R i))=.slice a2 m.length (sC (fev f (apY (Ag R i)))):=by kernel_rfl) (ho:(ung R i&&apK P E T.sz (Ag R i))=true:=by kernel_rfl):RWP P ro n R Q (i::rest) f w:=by
 simp only [Bool.and_eq_true] at ho
 obtain ⟨t,t2,by_,z,e1,he,hb,hni,hz,hzs⟩:=FQ ho.2
 have:=A8 ho.1
 rw [e1] at this
 exact RWP.append this rfl hx hy he hb hni hz hzs h1 hs (k:=0) rfl hr hm hap k
theorem St1 {e0:Option Nat×Obj} {b:Nat} {C:Array Value} {E:TypeId} (C':Array Value) (hs:HS w0 F0 w F (e0::(some b,.cells C E (0,0))::L)) (k:∀ w',HS w0 F0 w' F (e0::(some b,.cells C' E (0,0))::L)->RWP P ro n R Q rest f w')
  (hx:fev f (stX (Ag R i))=.pointer (some ⟨b,pO (fev f (stX (Ag R i))),none⟩):=by kernel_rfl) (hC:CZ C (pO (fev f (stX (Ag R i)))) (fev f (stY (Ag R i))).cells.toList=C':=by kernel_rfl)
  (ho:(ung R i&&(HN (Ag R i)&&(C4 P (stT (Ag R i)) (fev f (stY (Ag R i))) (pO (fev f (stX (Ag R i)))) C&&(match A5 R i with | none=>true | some _=>false))))=true:=by kernel_rfl):RWP P ro n R Q (i::rest) f w:=
 JR (hs.ownAt (k:=1) rfl) (k _ (hs.put (k:=1) rfl _)) hx hC ho
theorem Ap1 {e0:Option Nat×Obj} {a2:XM} (h1:T.One) (hs:HS w0 F0 w F (e0::e::L)) (hr:As T E F a cap l e) (hm:Rd T F w a2 m) {r:List α} (hap:DM l m=some r)
  (k:∀ a' cap' e' w',HS w0 F0 w' F (e0::e'::L)->As T E F a' cap' r e'->RWP P ro n R Q rest (A0 f (A5 R i) (.slice a' r.length cap')) w')
  (hx:fev f (apX (Ag R i))=.slice a l.length cap:=by kernel_rfl) (hy:fev f (apY (Ag R i))=.slice a2 m.length (sC (fev f (apY (Ag R i)))):=by kernel_rfl) (ho:(ung R i&&apK P E T.sz (Ag R i))=true:=by kernel_rfl):RWP P ro n R Q (i::rest) f w:=by
 simp only [Bool.and_eq_true] at ho
 obtain ⟨t,t2,by_,z,e1,he,hb,hni,hz,hzs⟩:=FQ ho.2
 have:=A8 ho.1
 rw [e1] at this
 exact RWP.append this rfl hx hy he hb hni hz hzs h1 hs (k:=1) rfl hr hm hap k
theorem St2 {e0 e1:Option Nat×Obj} {b:Nat} {C:Array Value} {E:TypeId} (C':Array Value) (hs:HS w0 F0 w F (e0::e1::(some b,.cells C E (0,0))::L)) (k:∀ w',HS w0 F0 w' F (e0::e1::(some b,.cells C' E (0,0))::L)->RWP P ro n R Q rest f w')
  (hx:fev f (stX (Ag R i))=.pointer (some ⟨b,pO (fev f (stX (Ag R i))),none⟩):=by kernel_rfl) (hC:CZ C (pO (fev f (stX (Ag R i)))) (fev f (stY (Ag R i))).cells.toList=C':=by kernel_rfl)
  (ho:(ung R i&&(HN (Ag R i)&&(C4 P (stT (Ag R i)) (fev f (stY (Ag R i))) (pO (fev f (stX (Ag R i)))) C&&(match A5 R i with | none=>true | some _=>false))))=true:=by kernel_rfl):RWP P ro n R Q (i::rest) f w:=
 JR (hs.ownAt (k:=2) rfl) (k _ (hs.put (k:=2) rfl _)) hx hC ho
theorem Ap2 {e0 e1:Option Nat×Obj} {a2:XM} (h1:T.One) (hs:HS w0 F0 w F (e0::e1::e::L)) (hr:As T E F a cap l e) (hm:Rd T F w a2 m) {r:List α} (hap:DM l m=some r)
  (k:∀ a' cap' e' w',HS w0 F0 w' F (e0::e1::e'::L)->As T E F a' cap' r e'->RWP P ro n R Q rest (A0 f (A5 R i) (.slice a' r.length cap')) w')
  (hx:fev f (apX (Ag R i))=.slice a l.length cap:=by kernel_rfl) (hy:fev f (apY (Ag R i))=.slice a2 m.length (sC (fev f (apY (Ag R i)))):=by kernel_rfl) (ho:(ung R i&&apK P E T.sz (Ag R i))=true:=by kernel_rfl):RWP P ro n R Q (i::rest) f w:=by
 simp only [Bool.and_eq_true] at ho
 obtain ⟨t,t2,by_,z,e1,he,hb,hni,hz,hzs⟩:=FQ ho.2
 have:=A8 ho.1
 rw [e1] at this
 exact RWP.append this rfl hx hy he hb hni hz hzs h1 hs (k:=2) rfl hr hm hap k
theorem St3 {e0 e1 e2:Option Nat×Obj} {b:Nat} {C:Array Value} {E:TypeId} (C':Array Value) (hs:HS w0 F0 w F (e0::e1::e2::(some b,.cells C E (0,0))::L)) (k:∀ w',HS w0 F0 w' F (e0::e1::e2::(some b,.cells C' E (0,0))::L)->RWP P ro n R Q rest f w')
  (hx:fev f (stX (Ag R i))=.pointer (some ⟨b,pO (fev f (stX (Ag R i))),none⟩):=by kernel_rfl) (hC:CZ C (pO (fev f (stX (Ag R i)))) (fev f (stY (Ag R i))).cells.toList=C':=by kernel_rfl)
  (ho:(ung R i&&(HN (Ag R i)&&(C4 P (stT (Ag R i)) (fev f (stY (Ag R i))) (pO (fev f (stX (Ag R i)))) C&&(match A5 R i with | none=>true | some _=>false))))=true:=by kernel_rfl):RWP P ro n R Q (i::rest) f w:=
 JR (hs.ownAt (k:=3) rfl) (k _ (hs.put (k:=3) rfl _)) hx hC ho
theorem St5 {e0 e1 e2 e3 e4:Option Nat×Obj} {b:Nat} {C:Array Value} {E:TypeId} (C':Array Value) (hs:HS w0 F0 w F (e0::e1::e2::e3::e4::(some b,.cells C E (0,0))::L)) (k:∀ w',HS w0 F0 w' F (e0::e1::e2::e3::e4::(some b,.cells C' E (0,0))::L)->RWP P ro n R Q rest f w')
  (hx:fev f (stX (Ag R i))=.pointer (some ⟨b,pO (fev f (stX (Ag R i))),none⟩):=by kernel_rfl) (hC:CZ C (pO (fev f (stX (Ag R i)))) (fev f (stY (Ag R i))).cells.toList=C':=by kernel_rfl)
  (ho:(ung R i&&(HN (Ag R i)&&(C4 P (stT (Ag R i)) (fev f (stY (Ag R i))) (pO (fev f (stX (Ag R i)))) C&&(match A5 R i with | none=>true | some _=>false))))=true:=by kernel_rfl):RWP P ro n R Q (i::rest) f w:=
 JR (hs.ownAt (k:=5) rfl) (k _ (hs.put (k:=5) rfl _)) hx hC ho
theorem Ap5 {e0 e1 e2 e3 e4:Option Nat×Obj} {a2:XM} (h1:T.One) (hs:HS w0 F0 w F (e0::e1::e2::e3::e4::e::L)) (hr:As T E F a cap l e) (hm:Rd T F w a2 m) {r:List α} (hap:DM l m=some r)
  (k:∀ a' cap' e' w',HS w0 F0 w' F (e0::e1::e2::e3::e4::e'::L)->As T E F a' cap' r e'->RWP P ro n R Q rest (A0 f (A5 R i) (.slice a' r.length cap')) w')
  (hx:fev f (apX (Ag R i))=.slice a l.length cap:=by kernel_rfl) (hy:fev f (apY (Ag R i))=.slice a2 m.length (sC (fev f (apY (Ag R i)))):=by kernel_rfl) (ho:(ung R i&&apK P E T.sz (Ag R i))=true:=by kernel_rfl):RWP P ro n R Q (i::rest) f w:=by
 simp only [Bool.and_eq_true] at ho
 obtain ⟨t,t2,by_,z,e1,he,hb,hni,hz,hzs⟩:=FQ ho.2
 have:=A8 ho.1
 rw [e1] at this
 exact RWP.append this rfl hx hy he hb hni hz hzs h1 hs (k:=5) rfl hr hm hap k
theorem St6 {e0 e1 e2 e3 e4 e5:Option Nat×Obj} {b:Nat} {C:Array Value} {E:TypeId} (C':Array Value) (hs:HS w0 F0 w F (e0::e1::e2::e3::e4::e5::(some b,.cells C E (0,0))::L)) (k:∀ w',HS w0 F0 w' F (e0::e1::e2::e3::e4::e5::(some b,.cells C' E (0,0))::L)->RWP P ro n R Q rest f w')
  (hx:fev f (stX (Ag R i))=.pointer (some ⟨b,pO (fev f (stX (Ag R i))),none⟩):=by kernel_rfl) (hC:CZ C (pO (fev f (stX (Ag R i)))) (fev f (stY (Ag R i))).cells.toList=C':=by kernel_rfl)
  (ho:(ung R i&&(HN (Ag R i)&&(C4 P (stT (Ag R i)) (fev f (stY (Ag R i))) (pO (fev f (stX (Ag R i)))) C&&(match A5 R i with | none=>true | some _=>false))))=true:=by kernel_rfl):RWP P ro n R Q (i::rest) f w:=
 JR (hs.ownAt (k:=6) rfl) (k _ (hs.put (k:=6) rfl _)) hx hC ho
theorem Ap6 {e0 e1 e2 e3 e4 e5:Option Nat×Obj} {a2:XM} (h1:T.One) (hs:HS w0 F0 w F (e0::e1::e2::e3::e4::e5::e::L)) (hr:As T E F a cap l e) (hm:Rd T F w a2 m) {r:List α} (hap:DM l m=some r)
  (k:∀ a' cap' e' w',HS w0 F0 w' F (e0::e1::e2::e3::e4::e5::e'::L)->As T E F a' cap' r e'->RWP P ro n R Q rest (A0 f (A5 R i) (.slice a' r.length cap')) w')
  (hx:fev f (apX (Ag R i))=.slice a l.length cap:=by kernel_rfl) (hy:fev f (apY (Ag R i))=.slice a2 m.length (sC (fev f (apY (Ag R i)))):=by kernel_rfl) (ho:(ung R i&&apK P E T.sz (Ag R i))=true:=by kernel_rfl):RWP P ro n R Q (i::rest) f w:=by
 simp only [Bool.and_eq_true] at ho
 obtain ⟨t,t2,by_,z,e1,he,hb,hni,hz,hzs⟩:=FQ ho.2
 have:=A8 ho.1
 rw [e1] at this
 exact RWP.append this rfl hx hy he hb hni hz hzs h1 hs (k:=6) rfl hr hm hap k
theorem St7 {e0 e1 e2 e3 e4 e5 e6:Option Nat×Obj} {b:Nat} {C:Array Value} {E:TypeId} (C':Array Value) (hs:HS w0 F0 w F (e0::e1::e2::e3::e4::e5::e6::(some b,.cells C E (0,0))::L)) (k:∀ w',HS w0 F0 w' F (e0::e1::e2::e3::e4::e5::e6::(some b,.cells C' E (0,0))::L)->RWP P ro n R Q rest f w')
  (hx:fev f (stX (Ag R i))=.pointer (some ⟨b,pO (fev f (stX (Ag R i))),none⟩):=by kernel_rfl) (hC:CZ C (pO (fev f (stX (Ag R i)))) (fev f (stY (Ag R i))).cells.toList=C':=by kernel_rfl)
  (ho:(ung R i&&(HN (Ag R i)&&(C4 P (stT (Ag R i)) (fev f (stY (Ag R i))) (pO (fev f (stX (Ag R i)))) C&&(match A5 R i with | none=>true | some _=>false))))=true:=by kernel_rfl):RWP P ro n R Q (i::rest) f w:=
 JR (hs.ownAt (k:=7) rfl) (k _ (hs.put (k:=7) rfl _)) hx hC ho
end
section
variable {P : Program} {n : Nat} {R : Array Oper} {Q : Exit -> Fr -> World -> Prop} {PQ : List PanicEntry -> List Deferred -> World -> Prop} {Post : Fr -> World -> Prop} {z fuel : Nat} {Sw : Bool -> World -> Prop} {i : Nat} {f : Fr} {w w' w0 : World} {F0 F Fs : Mem} {l : List Bool} {L Lc Lz : List (Option Nat × Obj)} {e : Option Nat × Obj}
def rdy (R:Array Oper) (z i:Nat) (l:List Bool):Bool:=Region.free .any R l.toArray i&&((Region.ready .any R l.toArray).contains i&&Je R z i)
def dvf (P:Program) (R:Array Oper):List Nat->Fr->Fr
 | [],f=>f
 | i::is,f=>dvf P R is (A0 f (A5 R i) ((pv P (fev f) (Ag R i)).getD undef))
def dvl:List Nat->List Bool->List Bool
 | [],l=>l
 | i::is,l=>dvl is (l.set i true)
def Ug (P:Program) (R:Array Oper) (z:Nat):List Nat->List Bool->Fr->Bool
 | [],_,_=>true
 | i::is,l,f=>ung R i&&(isS (pv P (fev f) (Ag R i))&&(rdy R z i l&&Ug P R z is (l.set i true) (A0 f (A5 R i) ((pv P (fev f) (Ag R i)).getD undef))))
theorem Uy:∀ (is:List Nat) {l:List Bool} {f:Fr} {fuel:Nat},DWP P n R PQ Post z Sw fuel (dvl is l) (dvf P R is f) w->Ug P R z is l f=true->DWP P n R PQ Post z Sw (fuel + is.length) l f w
 | [],_,_,_,k,_=>k
 | i::is,l,f,fuel,k,h=>by
  simp only [Ug,rdy,Bool.and_eq_true] at h
  obtain ⟨h1,h2,⟨h3,h4,h5⟩,h6⟩:=h
  exact DWP.take (A8 h1) h3 h4 h5 rfl rfl (fun _ _=>OJ (Ic h2)) rfl (Uy is k h6)
theorem Dv (is:List Nat) {fu:Nat} (k:DWP P n R PQ Post z Sw (fu - is.length) (dvl is l) (dvf P R is f) w) (h:Ug P R z is l f=true:=by kernel_rfl) (hfu:Nat.beq fu ((fu - is.length) + is.length)=true:=by kernel_rfl):DWP P n R PQ Post z Sw fu l f w:=by
 have:=Nat.eq_of_beq_eq_true hfu;rw [this]
 exact Uy is k h
theorem Dvl (is:List Nat) (l':List Bool) {fu:Nat} (k:DWP P n R PQ Post z Sw (fu - is.length) l' (dvf P R is f) w) (h:Ug P R z is l f=true:=by kernel_rfl) (hl:dvl is l=l':=by kernel_rfl) (hfu:Nat.beq fu ((fu - is.length) + is.length)=true:=by kernel_rfl):DWP P n R PQ Post z Sw fu l f w:=by
 subst hl;exact Dv is k h hfu
theorem DWP.tk {v:Value} (i:Nat) {fu:Nat} (hy:∀ w',Sw (l.toArray.getD z true) w'->(Ak (fev f) (Ag R i) (FC R i)).run P w'=.ok (.value v) w') (k:DWP P n R PQ Post z Sw (fu - 1) (l.set i true) (A0 f (A5 R i) v) w) (ho:ung R i=true) (hr:rdy R z i l=true)
  (hfu:Nat.beq fu ((fu - 1) + 1)=true):DWP P n R PQ Post z Sw fu l f w:=by
 simp only [rdy,Bool.and_eq_true] at hr
 have:=Nat.eq_of_beq_eq_true hfu;rw [this]
 exact DWP.take (A8 ho) hr.1 hr.2.1 hr.2.2 rfl rfl hy rfl k
theorem Dl (i:Nat) {fu b:Nat} {C:Array Value} {E:TypeId} {fz:Nat×Nat} (hp:∀ w',Sw (l.toArray.getD z true) w'->w'.heap[b]? =some (.cells C E fz)) (k:DWP P n R PQ Post z Sw (fu - 1) (l.set i true) (A0 f (A5 R i) (ldV P (ldT (Ag R i)) C (pO (fev f (ldX (Ag R i)))))) w)
  (hx:fev f (ldX (Ag R i))=.pointer (some ⟨b,pO (fev f (ldX (Ag R i))),none⟩):=by kernel_rfl) (ho:(ung R i&&(PX (Ag R i)&&ldK P (ldT (Ag R i)) C (pO (fev f (ldX (Ag R i))))))=true:=by kernel_rfl) (hr:rdy R z i l=true:=by kernel_rfl)
  (hfu:Nat.beq fu ((fu - 1) + 1)=true:=by kernel_rfl):DWP P n R PQ Post z Sw fu l f w:=by
 simp only [Bool.and_eq_true] at ho
 refine DWP.tk i (fun w' hw=>?_) k ho.1 hr hfu
 have:=Fz ho.2.1
 rw [this];exact QG hx (hp w' hw) ho.2.2
theorem Dx (i j:Nat) {fu b o kk:Nat} {C:Array Value} {E:TypeId} {fz:Nat×Nat} {cs:List Value} (hp:∀ w',Sw (l.toArray.getD z true) w'->w'.heap[b]? =some (.cells C E fz)) (hc:Ao C o kk=cs) (k:DWP P n R PQ Post z Sw (fu - 1) (l.set i true) (A0 f (A5 R i) (lxV P (ldT (Ag R i)) cs j)) w)
  (hx:fev f (ldX (Ag R i))=.pointer (some ⟨b,o + j,none⟩):=by kernel_rfl) (ho:(ung R i&&(PX (Ag R i)&&lxK P (ldT (Ag R i)) cs j kk))=true:=by kernel_rfl) (hr:rdy R z i l=true:=by kernel_rfl)
  (hfu:Nat.beq fu ((fu - 1) + 1)=true:=by kernel_rfl):DWP P n R PQ Post z Sw fu l f w:=by
 simp only [Bool.and_eq_true] at ho
 refine DWP.tk i (fun w' hw=>?_) k ho.1 hr hfu
 have:=Fz ho.2.1
 rw [this];exact QE hx (hp w' hw) hc ho.2.2
theorem Di (i:Nat) {fu m:Nat} {q:Int} (hi:0<=q/\q < (m:Int)) (k:DWP P n R PQ Post z Sw (fu - 1) (l.set i true) (A0 f (A5 R i) (.pointer (some ⟨sB (fev f (ixX (Ag R i))),sO (fev f (ixX (Ag R i))) + q.toNat * elS P (ixT (Ag R i)),none⟩))) w)
  (hx:fev f (ixX (Ag R i))=.slice (some ⟨sB (fev f (ixX (Ag R i))),sO (fev f (ixX (Ag R i))),none⟩) m (sC (fev f (ixX (Ag R i)))):=by kernel_rfl) (hy:fev f (ixY (Ag R i))=.int (iK (fev f (ixY (Ag R i)))) q:=by kernel_rfl)
  (ho:(ung R i&&(QY (Ag R i)&&slQ P (ixT (Ag R i))))=true:=by kernel_rfl) (hr:rdy R z i l=true:=by kernel_rfl) (hfu:Nat.beq fu ((fu - 1) + 1)=true:=by kernel_rfl):DWP P n R PQ Post z Sw fu l f w:=by
 simp only [Bool.and_eq_true] at ho
 refine DWP.tk i (fun w' hw=>?_) k ho.1 hr hfu
 have e:=GP ho.2.1
 have:=Td (P:=P) (w:=w') (ty:=FC R i) hi hx hy ho.2.2
 rw [<-e] at this;exact this
theorem D1 (i:Nat) {fu:Nat} (h:Aw P n R PQ Post z Sw (fu - 1) l i f w) (hr:Region.ready .any R l.toArray=[i]:=by kernel_rfl) (hfu:Nat.beq fu ((fu - 1) + 1)=true:=by kernel_rfl):DWP P n R PQ Post z Sw fu l f w:=by
 have:=Nat.eq_of_beq_eq_true hfu;rw [this]
 exact DWP.one hr h
theorem zdT {zd:Bool} {A:Prop} (h:zd=true):zd=false->A:=fun e=>by rw [h] at e;cases e
theorem DCl {fid:FuncId} {args:List Value} {post:Mem->Value->Prop} (hok:Aj P fid) (hs:HS w0 F0 w F L) (hc:Calls P fid args.toArray w (AA w F post))
  (k:∀ v F1 w1,HS w0 F0 w1 F1 L->Xq F F1->post F1 v->DWP P n R PQ Post z (DZ Fs Lc Lz) fuel (l.set i true) (A0 f (A5 R i) v) w1) (ha:clV f (Ag R i)=some (fid,args):=by kernel_rfl) (ho:ung R i=true:=by kernel_rfl)
  (hz:((l.set i true).toArray.getD z true==l.toArray.getD z true)=true:=by kernel_rfl):Aw P n R PQ Post z (DZ Fs Lc Lz) fuel l i f w:=by
 cases e:Ag R i with
 | call c=>
  obtain ⟨callee,aos,ats⟩:=c
  have ho':=A8 ho
  rw [e] at ha ho'
  unfold clV at ha
  simp only at ha
  split at ha
  ·split at ha
   ·rename_i hf
    simp only [Option.some.injEq,Prod.mk.injEq] at ha
    obtain ⟨rfl,rfl⟩:=ha
    exact XC rfl (by simpa using hz) rfl ho' rfl hf hok rfl hs hc k
   ·cases ha
  ·cases ha
 | _=>rw [e] at ha;simp [clV] at ha
theorem DBs (E:TypeId) (cs:List Value) (hs:HS w0 F0 w F L) (hle:Xq Fs F) (k:∀ b w',HS w0 F0 w' F ((some b,.cells cs.toArray E (0,0))::L)->DWP P n R PQ Post z (DZ Fs Lc Lz) fuel (l.set i true) (A0 f (A5 R i) (.slice (some ⟨b,0,none⟩) (bsL (Ag R i)) (bsL (Ag R i)))) w')
  (hb:bsV P f (Ag R i)=some (E,cs):=by kernel_rfl) (ho:ung R i=true:=by kernel_rfl) (hL:∀ p,p∈Lc->p∈L:=by simp) (hLz:(l.set i true).toArray.getD z true=false->∀ p,p∈Lz->p∈L:=by first | (intro _;simp;done) | exact zdT (by kernel_rfl)):Aw P n R PQ Post z (DZ Fs Lc Lz) fuel l i f w:=by
 have:=A8 ho
 cases e:Ag R i with
 | buildSlice t len parts=>
  rw [e] at hb this k
  exact Aw.buildSlice rfl rfl this rfl rfl hb hs hle hL hLz k
 | _=>rw [e] at hb;simp [bsV] at hb
theorem DAl (t:TypeId) (C:Array Value) (hs:HS w0 F0 w F L) (hle:Xq Fs F) (k:∀ b w',HS w0 F0 w' F ((some b,.cells C t (0,0))::L)->DWP P n R PQ Post z (DZ Fs Lc Lz) fuel (l.set i true) (A0 f (A5 R i) (.pointer (some ⟨b,0,none⟩))) w')
  (hC:(BN P t).map Value.cells=some C:=by kernel_rfl) (ho:(ung R i&&Vj t (Ag R i))=true:=by kernel_rfl) (hL:∀ p,p∈Lc->p∈L:=by simp) (hLz:(l.set i true).toArray.getD z true=false->∀ p,p∈Lz->p∈L:=by first | (intro _;simp;done) | exact zdT (by kernel_rfl)):Aw P n R PQ Post z (DZ Fs Lc Lz) fuel l i f w:=by
 simp only [Bool.and_eq_true] at ho
 cases hz:BN P t with
 | none=>rw [hz] at hC;cases hC
 | some z=>
  rw [hz] at hC;simp only [Option.map_some,Option.some.injEq] at hC
  have e:=Oh ho.2
  have:=A8 ho.1
  rw [e] at this
  exact Aw.alloc rfl rfl this rfl hz hC hs hle hL hLz k
theorem DBx (t:TypeId) (C:Array Value) (hs:HS w0 F0 w F L) (hle:Xq Fs F) (k:∀ b w',HS w0 F0 w' F ((some b,.cells C t (0,0))::L)->DWP P n R PQ Post z (DZ Fs Lc Lz) fuel (l.set i true) (A0 f (A5 R i) (.pointer (some ⟨b,0,none⟩))) w')
  (hC:(fev f (bxX (Ag R i))).cells=C:=by kernel_rfl) (ho:(ung R i&&Vi t (Ag R i))=true:=by kernel_rfl) (hL:∀ p,p∈Lc->p∈L:=by simp) (hLz:(l.set i true).toArray.getD z true=false->∀ p,p∈Lz->p∈L:=by first | (intro _;simp;done) | exact zdT (by kernel_rfl)):Aw P n R PQ Post z (DZ Fs Lc Lz) fuel l i f w:=by
 simp only [Bool.and_eq_true] at ho
 have e:=Og ho.2
 have:=A8 ho.1
 rw [e] at this
 exact Aw.box rfl rfl this rfl rfl hC hs hle hL hLz k
theorem DCB {fid:FuncId} {args:List Value} {wb:World} {Fb:Mem} {post:Mem->Value->Own->Prop} (hok:Aj P fid) (hc:Calls P fid args.toArray w (EM wb Fb F post))
  (k:∀ v F1 w1 L',HS wb Fb w1 F1 L'->Xq F F1->post F1 v L'->DZ Fs Lc Lz ((l.set i true).toArray.getD z true) w1/\DWP P n R PQ Post z (DZ Fs Lc Lz) fuel (l.set i true) (A0 f (A5 R i) v) w1) (ha:clV f (Ag R i)=some (fid,args):=by kernel_rfl) (ho:ung R i=true:=by kernel_rfl):Aw P n R PQ Post z (DZ Fs Lc Lz) fuel l i f w:=by
 cases e:Ag R i with
 | call c=>
  obtain ⟨callee,aos,ats⟩:=c
  have ho':=A8 ho
  rw [e] at ha ho'
  unfold clV at ha
  simp only at ha
  split at ha
  ·split at ha
   ·rename_i hf
    simp only [Option.some.injEq,Prod.mk.injEq] at ha
    obtain ⟨rfl,rfl⟩:=ha
    exact Aw.callB rfl rfl ho' rfl hf hok rfl hc k
   ·cases ha
  ·cases ha
 | _=>rw [e] at ha;simp [clV] at ha
def fls:Nat->List Bool
 | 0=>[]
 | n + 1=>false::fls n
variable {c : Code}
def U0 (R:Array Oper):Bool:=R.all fun o=>!Mp o.op
def V1 (P:Program) (n m:Nat) (c:Code):Bool:=Nat.beq (kin c) 2&&(okR n (KZ c)&&(Region.noSelect (KZ c)&&(U0 (KZ c)&&Nat.beq (KZ c).size m)))
theorem Wp:∀ n,Array.replicate n false=(fls n).toArray:=fun n=>by
 have:List.replicate n false=fls n:=by induction n with
  | zero=>rfl
  | succ n ih=>rw [List.replicate_succ,ih];rfl
 rw [<-this];simp
theorem UX {R:Array Oper} (hd:U0 R=true) (ro:Option Nat) {Q:Exit->Act->World->Prop} {i:Nat} {K K':Act->World->Prop} (hK:∀ a w,K a w->K' a w) {a:Act} {w:World} (h:wpOpIn (FW none) 0 P R Q i K a w):wpOpIn (FW ro) 0 P R Q i K' a w:=by
 have h:=wpOpIn_mono hK h
 unfold wpOpIn at h ⊢
 cases ho:R[i]? with
 | none=>simp only [ho] at h ⊢;exact h
 | some o=>
  simp only [ho] at h ⊢
  split
  ·rename_i hw
   simp only [hw,if_true] at h
   have hi:i < R.size:=by
    rcases Nat.lt_or_ge i R.size with h' | h'
    ·exact h'
    ·simp [Array.getElem?_eq_none h'] at ho
   have hnd:Mp o.op=false:=by
    unfold U0 at hd
    rw [Array.all_eq_true] at hd
    have:=hd i hi
    have e:R[i]=o:=by simpa [Array.getElem?_eq_getElem hi] using ho
    rw [e] at this;simpa using this
   unfold Oper.wpIn at h ⊢
   refine ⟨fun _ _=>trivial,?_⟩
   have e:∀ r,Oper.semAt r a.eval o=execOp a.eval o:=fun r=>HW hnd r a.eval o rfl
   have h2:=h.2
   rw [e] at h2 ⊢
   exact h2
  ·rename_i hw
   simp only [hw,if_false] at h
   exact ⟨fun _ _=>trivial,h.2⟩
theorem Uo {R:Array Oper} (hd:U0 R=true) (ro:Option Nat) {Q:Exit->Act->World->Prop}:∀ (fuel:Nat) (l:Array Bool) (a:Act) (w:World),wpAnyIn (FW none) 0 P .any R Q fuel l a w->wpAnyIn (FW ro) 0 P .any R Q fuel l a w
 | 0,_,_,_,h=>h
 | fuel + 1,_,_,_,h=>⟨h.1,fun i hi=>UX hd ro (fun a w=>Uo hd ro fuel _ a w) (h.2 i hi)⟩
variable {ro : Option Nat}
theorem RDP (z m:Nat) (Lc Lz:List (Option Nat×Obj)) (hs:HS w0 F0 w F L) (PQ:List PanicEntry->List Deferred->World->Prop) (Post:Fr->World->Prop)
  (h:∀ w',HS w0 F0 w' F L->DWP P n (KZ c) PQ Post z (DZ F Lc Lz) m (fls m) f w') (k:∀ f w,Post f w->Q .normal f w) (kp:∀ c f w,PQ c f.d w->Q (.panic c) f w) (hm:P.follows .mixedOrders=true:=by kernel_rfl) (ho:V1 P n m c=true:=by kernel_rfl) (hc:∀ p,p∈Lc->p∈L:=by simp) (hz:∀ p,p∈Lz->p∈L:=by simp):CWP P ro n c Q f w:=by
 simp only [V1,Bool.and_eq_true] at ho
 obtain ⟨hk,hok,hns,hnd,hfu⟩:=ho
 replace hk:=Nat.eq_of_beq_eq_true hk
 replace hfu:=Nat.eq_of_beq_eq_true hfu
 subst hfu
 cases c <;> simp [kin] at hk
 rename_i id ops d
 cases d <;> simp [kin] at hk
 intro a ha
 have hs':HS w0 F0 {w with drawn:=w.drawn + 1} F L:=hs.heap rfl
 refine wpIn_mono (wpIn_region_any hm (Uo hnd ro _ _ _ _ (Ms (z:=z) (S:=DZ F Lc Lz) _ _ _ _ ?_))) (Q:=lq n (nq PQ Post)) ?_
 ·simp only [KZ] at *
  rw [Wp]
  exact h _ hs' hok hns (Be hs' (Xr F) hc fun _=>hz) a ha
 ·rintro e a w ⟨f,hf,hP⟩
  cases e with
  | normal=>exact ⟨f,hf,k _ _ hP⟩
  | panic c=>exact ⟨f,hf,kp _ _ _ hP⟩
  | _=>exact hP.elim
theorem RD (z m:Nat) (Lc Lz:List (Option Nat×Obj)) (hs:HS w0 F0 w F L) (Post:Fr->World->Prop)
  (h:∀ w',HS w0 F0 w' F L->DWP P n (KZ c) (fun _ _ _=>False) Post z (DZ F Lc Lz) m (fls m) f w') (k:∀ f w,Post f w->Q .normal f w) (hm:P.follows .mixedOrders=true:=by kernel_rfl) (ho:V1 P n m c=true:=by kernel_rfl) (hc:∀ p,p∈Lc->p∈L:=by simp) (hz:∀ p,p∈Lz->p∈L:=by simp):CWP P ro n c Q f w:=
 RDP z m Lc Lz hs (fun _ _ _=>False) Post h k (fun _ _ _ h=>h.elim) hm ho hc hz
variable {α : Type} {T : Ty α} {E : TypeId} {a : XM} {cap : Nat} {ls m : List α}
theorem GJ {b:Nat} {C:Array Value} {E:TypeId} (C':Array Value) (hs:HS w0 F0 w F ((some b,.cells C E (0,0))::L)) (hle:Xq Fs F) (k:∀ w',HS w0 F0 w' F ((some b,.cells C' E (0,0))::L)->DWP P n R PQ Post z (DZ Fs Lc Lz) fuel (l.set i true) f w')
  (hx:fev f (stX (Ag R i))=.pointer (some ⟨b,pO (fev f (stX (Ag R i))),none⟩):=by kernel_rfl) (hC:CZ C (pO (fev f (stX (Ag R i)))) (fev f (stY (Ag R i))).cells.toList=C':=by kernel_rfl)
  (ho:(ung R i&&(HN (Ag R i)&&(C4 P (stT (Ag R i)) (fev f (stY (Ag R i))) (pO (fev f (stX (Ag R i)))) C&&(match A5 R i with | none=>true | some _=>false))))=true:=by kernel_rfl)
  (hL:∀ p,p∈Lc->p∈(some b,.cells C' E (0,0))::L:=by simp) (hLz:(l.set i true).toArray.getD z true=false->∀ p,p∈Lz->p∈(some b,.cells C' E (0,0))::L:=by first | (intro _;simp;done) | exact zdT (by kernel_rfl)):Aw P n R PQ Post z (DZ Fs Lc Lz) fuel l i f w:=by
 simp only [Bool.and_eq_true] at ho
 obtain ⟨h1,h2,h3,h4⟩:=ho
 have e:=DG h2
 have:=A8 h1
 cases hd:A5 R i with
 | some d=>rw [hd] at h4;cases h4
 | none=>
  rw [hd] at this
  have hp:=hs.put (k:=0) rfl (.cells C' E (0,0))
  refine XB rfl rfl this rfl ?_ (Be hp hle hL hLz) (k _ hp)
  have hr:=G3 (P:=P) (ty:=FC R i) (w:=w) hx (hs.ownAt (k:=0) rfl) h3 hC
  rw [<-e] at hr;exact hr
theorem Mh {e0:Option Nat×Obj} {b:Nat} {C:Array Value} {E:TypeId} (C':Array Value) (hs:HS w0 F0 w F (e0::(some b,.cells C E (0,0))::L)) (hle:Xq Fs F) (k:∀ w',HS w0 F0 w' F (e0::(some b,.cells C' E (0,0))::L)->DWP P n R PQ Post z (DZ Fs Lc Lz) fuel (l.set i true) f w')
  (hx:fev f (stX (Ag R i))=.pointer (some ⟨b,pO (fev f (stX (Ag R i))),none⟩):=by kernel_rfl) (hC:CZ C (pO (fev f (stX (Ag R i)))) (fev f (stY (Ag R i))).cells.toList=C':=by kernel_rfl)
  (ho:(ung R i&&(HN (Ag R i)&&(C4 P (stT (Ag R i)) (fev f (stY (Ag R i))) (pO (fev f (stX (Ag R i)))) C&&(match A5 R i with | none=>true | some _=>false))))=true:=by kernel_rfl)
  (hL:∀ p,p∈Lc->p∈e0::(some b,.cells C' E (0,0))::L:=by simp) (hLz:(l.set i true).toArray.getD z true=false->∀ p,p∈Lz->p∈e0::(some b,.cells C' E (0,0))::L:=by first | (intro _;simp;done) | exact zdT (by kernel_rfl)):Aw P n R PQ Post z (DZ Fs Lc Lz) fuel l i f w:=by
 simp only [Bool.and_eq_true] at ho
 obtain ⟨h1,h2,h3,h4⟩:=ho
 have e:=DG h2
 have:=A8 h1
 cases hd:A5 R i with
 | some d=>rw [hd] at h4;cases h4
 | none=>
  rw [hd] at this
  have hp:=hs.put (k:=1) rfl (.cells C' E (0,0))
  refine XB rfl rfl this rfl ?_ (Be hp hle hL hLz) (k _ hp)
  have hr:=G3 (P:=P) (ty:=FC R i) (w:=w) hx (hs.ownAt (k:=1) rfl) h3 hC
  rw [<-e] at hr;exact hr
theorem Xl {e0:Option Nat×Obj} {a2:XM} (h1:T.One) (hs:HS w0 F0 w F (e0::e::L)) (hr:As T E F a cap ls e) (hm:Rd T F w a2 m) {r:List α} (hap:DM ls m=some r) (hle:Xq Fs F)
  (k:∀ a' cap' e' w',HS w0 F0 w' F (e0::e'::L)->As T E F a' cap' r e'->DWP P n R PQ Post z (DZ Fs Lc Lz) fuel (l.set i true) (A0 f (A5 R i) (.slice a' r.length cap')) w')
  (hx:fev f (apX (Ag R i))=.slice a ls.length cap:=by kernel_rfl) (hy:fev f (apY (Ag R i))=.slice a2 m.length (sC (fev f (apY (Ag R i)))):=by kernel_rfl) (ho:(ung R i&&apK P E T.sz (Ag R i))=true:=by kernel_rfl)
  (hL:∀ e' p,p∈Lc->p∈e0::e'::L:=by (intro _;simp)) (hLz:(l.set i true).toArray.getD z true=false->∀ e' p,p∈Lz->p∈e0::e'::L:=by first | (intro _ _;simp;done) | exact zdT (by kernel_rfl)):Aw P n R PQ Post z (DZ Fs Lc Lz) fuel l i f w:=by
 simp only [Bool.and_eq_true] at ho
 obtain ⟨t,t2,by_,zz,e1,he,hb,hni,hz,hzs⟩:=FQ ho.2
 have:=A8 ho.1
 rw [e1] at this
 exact Aw.append rfl rfl this rfl hx hy he hb hni hz hzs h1 hs (k:=1) rfl hr hm hap hle hL hLz k
theorem NZ {e0 e1:Option Nat×Obj} {b:Nat} {C:Array Value} {E:TypeId} (C':Array Value) (hs:HS w0 F0 w F (e0::e1::(some b,.cells C E (0,0))::L)) (hle:Xq Fs F) (k:∀ w',HS w0 F0 w' F (e0::e1::(some b,.cells C' E (0,0))::L)->DWP P n R PQ Post z (DZ Fs Lc Lz) fuel (l.set i true) f w')
  (hx:fev f (stX (Ag R i))=.pointer (some ⟨b,pO (fev f (stX (Ag R i))),none⟩):=by kernel_rfl) (hC:CZ C (pO (fev f (stX (Ag R i)))) (fev f (stY (Ag R i))).cells.toList=C':=by kernel_rfl)
  (ho:(ung R i&&(HN (Ag R i)&&(C4 P (stT (Ag R i)) (fev f (stY (Ag R i))) (pO (fev f (stX (Ag R i)))) C&&(match A5 R i with | none=>true | some _=>false))))=true:=by kernel_rfl)
  (hL:∀ p,p∈Lc->p∈e0::e1::(some b,.cells C' E (0,0))::L:=by simp) (hLz:(l.set i true).toArray.getD z true=false->∀ p,p∈Lz->p∈e0::e1::(some b,.cells C' E (0,0))::L:=by first | (intro _;simp;done) | exact zdT (by kernel_rfl)):Aw P n R PQ Post z (DZ Fs Lc Lz) fuel l i f w:=by
 simp only [Bool.and_eq_true] at ho
 obtain ⟨h1,h2,h3,h4⟩:=ho
 have e:=DG h2
 have:=A8 h1
 cases hd:A5 R i with
 | some d=>rw [hd] at h4;cases h4
 | none=>
  rw [hd] at this
  have hp:=hs.put (k:=2) rfl (.cells C' E (0,0))
  refine XB rfl rfl this rfl ?_ (Be hp hle hL hLz) (k _ hp)
  have hr:=G3 (P:=P) (ty:=FC R i) (w:=w) hx (hs.ownAt (k:=2) rfl) h3 hC
  rw [<-e] at hr;exact hr
theorem Vy {e0 e1 e2:Option Nat×Obj} {b:Nat} {C:Array Value} {E:TypeId} (C':Array Value) (hs:HS w0 F0 w F (e0::e1::e2::(some b,.cells C E (0,0))::L)) (hle:Xq Fs F) (k:∀ w',HS w0 F0 w' F (e0::e1::e2::(some b,.cells C' E (0,0))::L)->DWP P n R PQ Post z (DZ Fs Lc Lz) fuel (l.set i true) f w')
  (hx:fev f (stX (Ag R i))=.pointer (some ⟨b,pO (fev f (stX (Ag R i))),none⟩):=by kernel_rfl) (hC:CZ C (pO (fev f (stX (Ag R i)))) (fev f (stY (Ag R i))).cells.toList=C':=by kernel_rfl)
  (ho:(ung R i&&(HN (Ag R i)&&(C4 P (stT (Ag R i)) (fev f (stY (Ag R i))) (pO (fev f (stX (Ag R i)))) C&&(match A5 R i with | none=>true | some _=>false))))=true:=by kernel_rfl)
  (hL:∀ p,p∈Lc->p∈e0::e1::e2::(some b,.cells C' E (0,0))::L:=by simp) (hLz:(l.set i true).toArray.getD z true=false->∀ p,p∈Lz->p∈e0::e1::e2::(some b,.cells C' E (0,0))::L:=by first | (intro _;simp;done) | exact zdT (by kernel_rfl)):Aw P n R PQ Post z (DZ Fs Lc Lz) fuel l i f w:=by
 simp only [Bool.and_eq_true] at ho
 obtain ⟨h1,h2,h3,h4⟩:=ho
 have e:=DG h2
 have:=A8 h1
 cases hd:A5 R i with
 | some d=>rw [hd] at h4;cases h4
 | none=>
  rw [hd] at this
  have hp:=hs.put (k:=3) rfl (.cells C' E (0,0))
  refine XB rfl rfl this rfl ?_ (Be hp hle hL hLz) (k _ hp)
  have hr:=G3 (P:=P) (ty:=FC R i) (w:=w) hx (hs.ownAt (k:=3) rfl) h3 hC
  rw [<-e] at hr;exact hr
theorem Xk {e0 e1 e2:Option Nat×Obj} {a2:XM} (h1:T.One) (hs:HS w0 F0 w F (e0::e1::e2::e::L)) (hr:As T E F a cap ls e) (hm:Rd T F w a2 m) {r:List α} (hap:DM ls m=some r) (hle:Xq Fs F)
  (k:∀ a' cap' e' w',HS w0 F0 w' F (e0::e1::e2::e'::L)->As T E F a' cap' r e'->DWP P n R PQ Post z (DZ Fs Lc Lz) fuel (l.set i true) (A0 f (A5 R i) (.slice a' r.length cap')) w')
  (hx:fev f (apX (Ag R i))=.slice a ls.length cap:=by kernel_rfl) (hy:fev f (apY (Ag R i))=.slice a2 m.length (sC (fev f (apY (Ag R i)))):=by kernel_rfl) (ho:(ung R i&&apK P E T.sz (Ag R i))=true:=by kernel_rfl)
  (hL:∀ e' p,p∈Lc->p∈e0::e1::e2::e'::L:=by (intro _;simp)) (hLz:(l.set i true).toArray.getD z true=false->∀ e' p,p∈Lz->p∈e0::e1::e2::e'::L:=by first | (intro _ _;simp;done) | exact zdT (by kernel_rfl)):Aw P n R PQ Post z (DZ Fs Lc Lz) fuel l i f w:=by
 simp only [Bool.and_eq_true] at ho
 obtain ⟨t,t2,by_,zz,e1,he,hb,hni,hz,hzs⟩:=FQ ho.2
 have:=A8 ho.1
 rw [e1] at this
 exact Aw.append rfl rfl this rfl hx hy he hb hni hz hzs h1 hs (k:=3) rfl hr hm hap hle hL hLz k
theorem W4 {e0 e1 e2 e3:Option Nat×Obj} {b:Nat} {C:Array Value} {E:TypeId} (C':Array Value) (hs:HS w0 F0 w F (e0::e1::e2::e3::(some b,.cells C E (0,0))::L)) (hle:Xq Fs F) (k:∀ w',HS w0 F0 w' F (e0::e1::e2::e3::(some b,.cells C' E (0,0))::L)->DWP P n R PQ Post z (DZ Fs Lc Lz) fuel (l.set i true) f w')
  (hx:fev f (stX (Ag R i))=.pointer (some ⟨b,pO (fev f (stX (Ag R i))),none⟩):=by kernel_rfl) (hC:CZ C (pO (fev f (stX (Ag R i)))) (fev f (stY (Ag R i))).cells.toList=C':=by kernel_rfl)
  (ho:(ung R i&&(HN (Ag R i)&&(C4 P (stT (Ag R i)) (fev f (stY (Ag R i))) (pO (fev f (stX (Ag R i)))) C&&(match A5 R i with | none=>true | some _=>false))))=true:=by kernel_rfl)
  (hL:∀ p,p∈Lc->p∈e0::e1::e2::e3::(some b,.cells C' E (0,0))::L:=by simp) (hLz:(l.set i true).toArray.getD z true=false->∀ p,p∈Lz->p∈e0::e1::e2::e3::(some b,.cells C' E (0,0))::L:=by first | (intro _;simp;done) | exact zdT (by kernel_rfl)):Aw P n R PQ Post z (DZ Fs Lc Lz) fuel l i f w:=by
 simp only [Bool.and_eq_true] at ho
 obtain ⟨h1,h2,h3,h4⟩:=ho
 have e:=DG h2
 have:=A8 h1
 cases hd:A5 R i with
 | some d=>rw [hd] at h4;cases h4
 | none=>
  rw [hd] at this
  have hp:=hs.put (k:=4) rfl (.cells C' E (0,0))
  refine XB rfl rfl this rfl ?_ (Be hp hle hL hLz) (k _ hp)
  have hr:=G3 (P:=P) (ty:=FC R i) (w:=w) hx (hs.ownAt (k:=4) rfl) h3 hC
  rw [<-e] at hr;exact hr
theorem Rk {e0 e1 e2 e3 e4:Option Nat×Obj} {b:Nat} {C:Array Value} {E:TypeId} (C':Array Value) (hs:HS w0 F0 w F (e0::e1::e2::e3::e4::(some b,.cells C E (0,0))::L)) (hle:Xq Fs F) (k:∀ w',HS w0 F0 w' F (e0::e1::e2::e3::e4::(some b,.cells C' E (0,0))::L)->DWP P n R PQ Post z (DZ Fs Lc Lz) fuel (l.set i true) f w')
  (hx:fev f (stX (Ag R i))=.pointer (some ⟨b,pO (fev f (stX (Ag R i))),none⟩):=by kernel_rfl) (hC:CZ C (pO (fev f (stX (Ag R i)))) (fev f (stY (Ag R i))).cells.toList=C':=by kernel_rfl)
  (ho:(ung R i&&(HN (Ag R i)&&(C4 P (stT (Ag R i)) (fev f (stY (Ag R i))) (pO (fev f (stX (Ag R i)))) C&&(match A5 R i with | none=>true | some _=>false))))=true:=by kernel_rfl)
  (hL:∀ p,p∈Lc->p∈e0::e1::e2::e3::e4::(some b,.cells C' E (0,0))::L:=by simp) (hLz:(l.set i true).toArray.getD z true=false->∀ p,p∈Lz->p∈e0::e1::e2::e3::e4::(some b,.cells C' E (0,0))::L:=by first | (intro _;simp;done) | exact zdT (by kernel_rfl)):Aw P n R PQ Post z (DZ Fs Lc Lz) fuel l i f w:=by
 simp only [Bool.and_eq_true] at ho
 obtain ⟨h1,h2,h3,h4⟩:=ho
 have e:=DG h2
 have:=A8 h1
 cases hd:A5 R i with
 | some d=>rw [hd] at h4;cases h4
 | none=>
  rw [hd] at this
  have hp:=hs.put (k:=5) rfl (.cells C' E (0,0))
  refine XB rfl rfl this rfl ?_ (Be hp hle hL hLz) (k _ hp)
  have hr:=G3 (P:=P) (ty:=FC R i) (w:=w) hx (hs.ownAt (k:=5) rfl) h3 hC
  rw [<-e] at hr;exact hr
theorem Vx {e0 e1 e2 e3 e4 e5:Option Nat×Obj} {b:Nat} {C:Array Value} {E:TypeId} (C':Array Value) (hs:HS w0 F0 w F (e0::e1::e2::e3::e4::e5::(some b,.cells C E (0,0))::L)) (hle:Xq Fs F) (k:∀ w',HS w0 F0 w' F (e0::e1::e2::e3::e4::e5::(some b,.cells C' E (0,0))::L)->DWP P n R PQ Post z (DZ Fs Lc Lz) fuel (l.set i true) f w')
  (hx:fev f (stX (Ag R i))=.pointer (some ⟨b,pO (fev f (stX (Ag R i))),none⟩):=by kernel_rfl) (hC:CZ C (pO (fev f (stX (Ag R i)))) (fev f (stY (Ag R i))).cells.toList=C':=by kernel_rfl)
  (ho:(ung R i&&(HN (Ag R i)&&(C4 P (stT (Ag R i)) (fev f (stY (Ag R i))) (pO (fev f (stX (Ag R i)))) C&&(match A5 R i with | none=>true | some _=>false))))=true:=by kernel_rfl)
  (hL:∀ p,p∈Lc->p∈e0::e1::e2::e3::e4::e5::(some b,.cells C' E (0,0))::L:=by simp) (hLz:(l.set i true).toArray.getD z true=false->∀ p,p∈Lz->p∈e0::e1::e2::e3::e4::e5::(some b,.cells C' E (0,0))::L:=by first | (intro _;simp;done) | exact zdT (by kernel_rfl)):Aw P n R PQ Post z (DZ Fs Lc Lz) fuel l i f w:=by
 simp only [Bool.and_eq_true] at ho
 obtain ⟨h1,h2,h3,h4⟩:=ho
 have e:=DG h2
 have:=A8 h1
 cases hd:A5 R i with
 | some d=>rw [hd] at h4;cases h4
 | none=>
  rw [hd] at this
  have hp:=hs.put (k:=6) rfl (.cells C' E (0,0))
  refine XB rfl rfl this rfl ?_ (Be hp hle hL hLz) (k _ hp)
  have hr:=G3 (P:=P) (ty:=FC R i) (w:=w) hx (hs.ownAt (k:=6) rfl) h3 hC
  rw [<-e] at hr;exact hr
theorem Xj {e0 e1 e2 e3 e4 e5 e6:Option Nat×Obj} {b:Nat} {C:Array Value} {E:TypeId} (C':Array Value) (hs:HS w0 F0 w F (e0::e1::e2::e3::e4::e5::e6::(some b,.cells C E (0,0))::L)) (hle:Xq Fs F) (k:∀ w',HS w0 F0 w' F (e0::e1::e2::e3::e4::e5::e6::(some b,.cells C' E (0,0))::L)->DWP P n R PQ Post z (DZ Fs Lc Lz) fuel (l.set i true) f w')
  (hx:fev f (stX (Ag R i))=.pointer (some ⟨b,pO (fev f (stX (Ag R i))),none⟩):=by kernel_rfl) (hC:CZ C (pO (fev f (stX (Ag R i)))) (fev f (stY (Ag R i))).cells.toList=C':=by kernel_rfl)
  (ho:(ung R i&&(HN (Ag R i)&&(C4 P (stT (Ag R i)) (fev f (stY (Ag R i))) (pO (fev f (stX (Ag R i)))) C&&(match A5 R i with | none=>true | some _=>false))))=true:=by kernel_rfl)
  (hL:∀ p,p∈Lc->p∈e0::e1::e2::e3::e4::e5::e6::(some b,.cells C' E (0,0))::L:=by simp) (hLz:(l.set i true).toArray.getD z true=false->∀ p,p∈Lz->p∈e0::e1::e2::e3::e4::e5::e6::(some b,.cells C' E (0,0))::L:=by first | (intro _;simp;done) | exact zdT (by kernel_rfl)):Aw P n R PQ Post z (DZ Fs Lc Lz) fuel l i f w:=by
 simp only [Bool.and_eq_true] at ho
 obtain ⟨h1,h2,h3,h4⟩:=ho
 have e:=DG h2
 have:=A8 h1
 cases hd:A5 R i with
 | some d=>rw [hd] at h4;cases h4
 | none=>
  rw [hd] at this
  have hp:=hs.put (k:=7) rfl (.cells C' E (0,0))
  refine XB rfl rfl this rfl ?_ (Be hp hle hL hLz) (k _ hp)
  have hr:=G3 (P:=P) (ty:=FC R i) (w:=w) hx (hs.ownAt (k:=7) rfl) h3 hC
  rw [<-e] at hr;exact hr
end
theorem YP.mono {P:Program} {l:Nat} {args:List Value} {w:World} {S S':Ending->World->Prop} (h:YP P l args w S) (hi:∀ e w',S e w'->S' e w'):YP P l args w S':=
 let ⟨fn,t,a,b,h1,h2⟩:=h;⟨fn,t,a,b,h1,h2.mono hi⟩
section
variable {P : Program} {w : World} {ρ : Operand -> Value} {ty : TypeId}
def Uk (P:Program) (t:TypeId) (parts:List (Nat×Value)):Option (List Value):=
 match P.underlying t,BN P t with
 | some (.array _ e),some z=>match P.info? e with
  | some i=>match Instr.fill (fun k=>some (k * i.size,i.size)) z.cells parts with
   | some cs=>some cs.toList
   | none=>none
  | none=>none
 | _,_=>none
theorem Jw {t:TypeId} {parts:Array (Nat×Operand)} {vs:List (Nat×Value)} {cs:List Value} (hv:parts.toList.map (fun p=>(p.1,ρ p.2))=vs) (hb:Uk P t vs=some cs):
  (Ak ρ (.build t parts) ty).run P w=.ok (.value (.agg cs.toArray)) w:=by
 subst hv
 unfold Uk at hb
 split at hb
 ·rename_i n e z hu hz
  split at hb
  ·rename_i i hi
   split at hb
   ·rename_i cs' hfill
    simp only [Option.some.injEq] at hb
    subst hb
    have e1:Ak ρ (.build t parts) ty=(do pure (Next.value (<-Instr.build t (parts.map fun (i,x)=>(i,ρ x))))):=rfl
    have hzv:(zeroValue t).run P w=.ok z w:=by
     unfold BN at hz
     split at hz
     ·rename_i i hi;simp [zeroValue,typeInfo,hi,hz]
     ·cases hz
    rw [e1]
    simp only [Instr.build,Sem.run_bind,hzv,Result.andThen_ok,run_underlying hu,DP hi]
    have hl:(parts.map fun (i,x)=>(i,ρ x)).toList=parts.toList.map (fun p=>(p.1,ρ p.2)):=by simp
    rw [hl,hfill]
    simp
   ·cases hb
  ·cases hb
 ·cases hb
theorem Rr {t E:TypeId} {len:Nat} {x y:Operand} {k:IntKind} {i:Int} {cs:List Value} {v:Value} (hx:ρ x=.agg cs.toArray) (hy:ρ y=.int k i) (hu:P.underlying t=some (.array len E)) (ht:EF P E=some (false,1)) (hlen:cs.length=len) (hv:idx cs i=some v):
  (Ak ρ (.index t x y) ty).run P w=.ok (.value v) w:=by
 obtain ⟨⟨h0,h1⟩,h2⟩:=Ap hv
 have hc:Ao cs.toArray (i.toNat * 1) 1=[v]:=by
  rw [Nat.mul_one]
  exact Iv.2 (by simpa using h2)
 have hp:=GK (P:=P) (t:=E) (C:=cs.toArray) (o:=i.toNat * 1) ht (by rw [hc];rfl) (.inr rfl) w
 rw [hc] at hp
 simp only [Ak,execOp,hx,hy,Instr.index,asIntOf,Sem.run_bind,Sem.run_pure,Result.andThen_ok,run_underlying hu,CM ht]
 rw [if_pos (show 0<=i/\i < (len:Int) by omega)]
 simp only [Sem.run_bind,CM ht,Result.andThen_ok]
 rw [hp]
 rfl
theorem PY {α:Type} {f:α->Value} {l:List α} {i:Int} {x:α} (h:idx l i=some x):idx (l.map f) i=some (f x):=by
 obtain ⟨⟨h0,h1⟩,h2⟩:=Ap h
 unfold idx
 rw [if_pos h0,List.getElem?_map,h2];rfl
def toB (l:List Int):XL:=l.map fun n=>UInt8.ofNat n.toNat
theorem Nj:∀ (ns:List Int) (A:Array UInt8),ns.foldl (fun r n=>ByteArray.push r (UInt8.ofNat n.toNat)) ⟨A⟩=⟨A++(toB ns).toArray⟩
 | [],A=>by simp [toB]
 | n::ns,A=>by
  rw [List.foldl_cons]
  have:ByteArray.push ⟨A⟩ (UInt8.ofNat n.toNat)=⟨A.push (UInt8.ofNat n.toNat)⟩:=rfl
  rw [this,Nj ns]
  simp [toB]
theorem UN {w0:World} {F0 F:Mem} {L:Own} {s d E:TypeId} {x:Operand} {a:XM} {cap q:Nat} {l:List Int} {e:Option Nat×Obj} (hx:ρ x=.slice a l.length cap) (hs:P.underlying s=some (.slice E)) (hE:P.underlying E=some (.int .u8)) (hd:P.underlying d=some .string)
  (hh:HS w0 F0 w F L) (hq:L[q]? =some e) (hr:As tU8 E F a cap l e):(Ak ρ (.convert s d x) ty).run P w=.ok (.value (.string ⟨(toB l).toArray⟩)) w:=by
 have e1:Ak ρ (.convert s d x) ty=(do pure (Next.value (<-convert s d (ρ x)))):=rfl
 rw [e1,hx,Sem.run_bind,run_convert_bytes_string w s d E a l.length cap hs hE hd]
 rcases hr.2 with ⟨rfl,rfl,rfl,_⟩ | ⟨b,C,rfl,rfl,hc,hsz,hR⟩
 ·rfl
 ·have hb:=hh.ownAt hq
  have hl:=run_loadCells_list (P:=P) (w:=w) ⟨b,0,none⟩ (l.map (Value.int .u8)) (fun j v hj=>by
   rw [List.getElem?_map] at hj
   cases hlj:l[j]? with
   | none=>rw [hlj] at hj;cases hj
   | some n=>
    rw [hlj] at hj
    cases hj
    have h1:Ao C (j * 1) 1=[.int .u8 n]:=hR j n hlj
    rw [Nat.mul_one] at h1
    have h2:=Iv.1 h1
    rw [Addr.add_lit]
    simp [World.cell?,hb,h2])
  rw [List.length_map] at hl
  have h2:=run_bytesToString (P:=P) w ⟨b,0,none⟩ l.length cap l (by rw [hl])
  rw [h2,show ByteArray.empty=⟨#[]⟩ from rfl,Nj]
  simp [Result.andThen]
end
section
variable {P : Program} {n : Nat} {R : Array Oper} {f : Fr} {w : World} {PQ : List PanicEntry -> List Deferred -> World -> Prop} {Post : Fr -> World -> Prop} {z : Nat} {fuel : Nat} {l l' : List Bool} {zd : Bool} {i : Nat} {dst : Option Nat} {ty : TypeId} {g : Option (Nat × Bool)}
theorem Aw.callO {w0:World} {F0 F Fs:Mem} {L Lc Lz:List (Option Nat×Obj)} {f0:Operand} {aos:Array Operand} {ats:Array TypeId} {fid:FuncId} {first cap:Array Value} {args:List Value} {post:Mem->Value->Own->Prop}
  (hl:l.set i true=l') (hzd:l'.toArray.getD z true=zd) (h0:l.toArray.getD z true=zd)
  (ho:opq R i=some (dst,.call {callee:=.value f0,args:=aos,argTypes:=ats},ty,g)) (hg:gd R f g=true) (hf:fev f f0=.func (.func fid) first cap) (hok:Aj P fid)
  (ha:first.toList++aos.toList.map (fev f)++cap.toList=args) (hs:HS w0 F0 w F L) (hc:Calls P fid args.toArray w (NI w F post))
  (k:∀ v F1 w1 L',HS w0 F0 w1 F1 (L'++L)->Xq F F1->post F1 v L'->DWP P n R PQ Post z (DZ Fs Lc Lz) fuel l' (A0 f dst v) w1):Aw P n R PQ Post z (DZ Fs Lc Lz) fuel l i f w:=by
 intro hokR hns hS a haf
 obtain ⟨o,hR,hd,hop,hty,hgd⟩:=Ck ho
 unfold FZ wpOpIn
 simp only [hR]
 rw [haf.wanted R o,hgd,hg]
 simp only [if_true]
 refine ⟨Bn,?_⟩
 show o.uponIn (FW none) 0 P a _ _ ((execOp a.eval o).run P w)
 rw [Ce,haf.evalF,hop,hty,DQ hf hok ha]
 simp only [Oper.uponIn]
 refine ⟨(fun h=>by cases h),(D8 hc).mono ?_⟩
 rintro e w' ⟨r,F',L',rfl,h1,h2⟩
 simp only
 rw [h0] at hS
 have hS':DZ Fs Lc Lz zd w':=hS.keep h1.keep
 rw [hl,hd,hzd]
 exact ⟨hS',k r F' w' L' (hs.callO h1) h1.le h2 hokR hns (by rw [hzd];exact hS') _ (haf.put (by rw [<-hd];exact DX hokR hR) r)⟩
theorem Aw.callS {Fs:Mem} {Lc Lz:Own} {f0:Operand} {aos:Array Operand} {ats:Array TypeId} {fid:FuncId} {first cap:Array Value} {args:List Value} {S:Ending->World->Prop}
  (hl:l.set i true=l') (hzd:l'.toArray.getD z true=zd)
  (ho:opq R i=some (dst,.call {callee:=.value f0,args:=aos,argTypes:=ats},ty,g)) (hg:gd R f g=true) (hf:fev f f0=.func (.func fid) first cap) (hok:Aj P fid)
  (ha:first.toList++aos.toList.map (fev f)++cap.toList=args) (hc:Calls P fid args.toArray w S)
  (k:∀ e w',S e w'->∃ v,e=.returned v/\DZ Fs Lc Lz zd w'/\DWP P n R PQ Post z (DZ Fs Lc Lz) fuel l' (A0 f dst v) w'):Aw P n R PQ Post z (DZ Fs Lc Lz) fuel l i f w:=by
 intro hokR hns hS a haf
 obtain ⟨o,hR,hd,hop,hty,hgd⟩:=Ck ho
 unfold FZ wpOpIn
 simp only [hR]
 rw [haf.wanted R o,hgd,hg]
 simp only [if_true]
 refine ⟨Bn,?_⟩
 show o.uponIn (FW none) 0 P a _ _ ((execOp a.eval o).run P w)
 rw [Ce,haf.evalF,hop,hty,DQ hf hok ha]
 simp only [Oper.uponIn]
 refine ⟨(fun h=>by cases h),(D8 hc).mono ?_⟩
 intro e w' he
 obtain ⟨v,rfl,hS',hk⟩:=k e w' he
 simp only
 rw [hl,hd,hzd]
 exact ⟨hS',hk hokR hns (by rw [hzd];exact hS') _ (haf.put (by rw [<-hd];exact DX hokR hR) v)⟩
theorem Aw.callLentP {w0:World} {F0 F Fs:Mem} {L Lc Lz:List (Option Nat×Obj)} {f0:Operand} {aos:Array Operand} {ats:Array TypeId} {fid:FuncId} {first cap:Array Value} {args:List Value} {q:Nat} {e:Option Nat×Obj} {v0:Value}
  (hl:l.set i true=l') (hzd:l'.toArray.getD z true=zd) (h0:l.toArray.getD z true=zd)
  (ho:opq R i=some (dst,.call {callee:=.value f0,args:=aos,argTypes:=ats},ty,g)) (hg:gd R f g=true) (hf:fev f f0=.func (.func fid) first cap) (hok:Aj P fid)
  (ha:first.toList++aos.toList.map (fev f)++cap.toList=args) (hs:HS w0 F0 w F L) (hk:L[q]? =some e) (hc:Calls P fid args.toArray w (AA w (Hy F e) fun _ v=>v=v0))
  (k:∀ F1 w1,HS w0 F0 w1 F1 L->Xq F F1->DWP P n R PQ Post z (DZ Fs Lc Lz) fuel l' (A0 f dst v0) w1):Aw P n R PQ Post z (DZ Fs Lc Lz) fuel l i f w:=by
 intro hokR hns hS a haf
 obtain ⟨o,hR,hd,hop,hty,hgd⟩:=Ck ho
 unfold FZ wpOpIn
 simp only [hR]
 rw [haf.wanted R o,hgd,hg]
 simp only [if_true]
 refine ⟨Bn,?_⟩
 show o.uponIn (FW none) 0 P a _ _ ((execOp a.eval o).run P w)
 rw [Ce,haf.evalF,hop,hty,DQ hf hok ha]
 simp only [Oper.uponIn]
 refine ⟨(fun h=>by cases h),(D8 hc).mono ?_⟩
 rintro e' w' ⟨_,F',rfl,h1,rfl⟩
 simp only
 rw [h0] at hS
 have hS':DZ Fs Lc Lz zd w':=hS.keep h1.keep
 obtain ⟨h6,h7⟩:=hs.lentCall hk h1
 rw [hl,hd,hzd]
 exact ⟨hS',k _ w' h6 h7 hokR hns (by rw [hzd];exact hS') _ (haf.put (by rw [<-hd];exact DX hokR hR) _)⟩
end
section
variable {P : Program} {n : Nat} {R : Array Oper} {Q : Exit -> Fr -> World -> Prop} {w w0 : World} {F0 F : Mem} {L : Own} {f : Fr} {i : Nat} {rest : List Nat} {dst : Option Nat} {ty : TypeId} {g : Option (Nat × Bool)} {ro : Option Nat}
theorem RWP.callLentP {f0:Operand} {aos:Array Operand} {ats:Array TypeId} {fid:FuncId} {first cap:Array Value} {args:List Value} {q:Nat} {e:Option Nat×Obj} {v0:Value}
  (ho:opq R i=some (dst,.call {callee:=.value f0,args:=aos,argTypes:=ats},ty,g)) (hg:gd R f g=true) (hf:fev f f0=.func (.func fid) first cap) (hok:Aj P fid)
  (ha:first.toList++aos.toList.map (fev f)++cap.toList=args) (hs:HS w0 F0 w F L) (hk:L[q]? =some e)
  (hc:Calls P fid args.toArray w (AA w (Hy F e) fun _ v=>v=v0))
  (k:∀ F1 w1,HS w0 F0 w1 F1 L->Xq F F1->RWP P ro n R Q rest (A0 f dst v0) w1):RWP P ro n R Q (i::rest) f w:=by
 refine Xo ho hg (DQ hf hok ha) hc ?_
 rintro e w' ⟨_,F',rfl,h1,rfl⟩
 obtain ⟨h6,h7⟩:=hs.lentCall hk h1
 exact k _ w' h6 h7
end
section
variable {P : Program} {w : World} {ρ : Operand -> Value} {ty : TypeId}
theorem OE {mt k vt:TypeId} {d:TypeDesc} {m x:Operand} {b clk:Nat} {es:Array MapEntry} {kv v:Value} {j:Nat} (hm:ρ m=.map (some b)) (hx:ρ x=kv) (hu:P.underlying mt=some (.map k vt)) (hk:P.underlying k=some d) (hkey:MapKept.IsKey d kv)
  (hb:w.heap[b]? =some (.map es clk)) (hf:Instr.findNow d kv es.toList 0=some (some (j,v))):(Ak ρ (.lookup mt m x true) ty).run P w=.ok (.value (.tuple #[v,.bool true])) w:=by
 have e:Ak ρ (.lookup mt m x true) ty=(do pure (Next.value (<-Instr.lookup mt (ρ m) (ρ x) true))):=rfl
 rw [e,hm,hx]
 simp [Instr.lookup,run_underlying hu,MapKept.run_getObj_map hb,MapKept.run_checkKey hk hkey,MapKept.run_findKey hk hf,Result.andThen]
theorem Wo {x c:Int} {v:Value} {clk i:Nat} {es:List MapEntry} (h:(x==c)=true):Instr.findNow (.int .i64) (.int .i64 x) (⟨.int .i64 c,v,clk⟩::es) i=some (some (i,v)):=by
 simp [Instr.findNow,Instr.sameNow,h]
end
section
variable {P : Program} {w0 w : World} {F0 F : Mem} {L : List (Option Nat × Obj)} {α : Type} {T : Ty α} {E : TypeId} {l m : List α} {b cap : Nat} {C : Array Value}
theorem Rj {t t2 ty:TypeId} {by_ c2:Nat} {a2:XM} (he:Bi P t=some (E,T.sz,by_)) (hni:Nc P t2=true)
  (h1:T.One) (hs:HS w0 F0 w F L) {k:Nat} (hk:L[k]? =some (some b,.cells C E (0,0))) (hr:As T E F (some ⟨b,0,none⟩) cap l (some b,.cells C E (0,0))) (hm:Rd T F w a2 m) (hfit:l.length + m.length<=cap) (hlen:l.length + m.length < 4398046511104):
  ∃ C',C'.size=C.size/\(Builtin.append_ #[t,t2] ty #[.slice (some ⟨b,0,none⟩) l.length cap,.slice a2 m.length c2]).run P w=.ok (.slice (some ⟨b,0,none⟩) (l++m).length cap) (B4 w b (.cells C' E (0,0)))/\As T E F (some ⟨b,0,none⟩) cap (l++m) (some b,.cells C' E (0,0)):=by
 obtain ⟨i,hu,hi,his,hib⟩:=Gm he
 obtain ⟨new,hnew,hload⟩:=hm.load (P:=P) c2
 have hnl:=hnew.len
 obtain ⟨E2,hd⟩:∃ E2,P.underlying t2=some (.slice E2):=by
  unfold Nc at hni
  split at hni
  ·rename_i E2 h;exact ⟨E2,h⟩
  ·cases hni
 unfold Builtin.append_
 simp only [List.getElem?_toArray,List.getElem?_cons_zero,List.getElem?_cons_succ,Sem.run_bind,run_underlying hu,Result.andThen_ok,DP hi,his]
 simp only [run_underlying hd,Result.andThen_ok,Sem.run_pure,Bool.false_eq_true,if_false,Builtin.lenOf]
 simp only [pure_bind]
 rw [if_pos hfit]
 simp only [Bool.not_false,if_true,Sem.run_bind,hload,Result.andThen_ok]
 rcases hr.2 with ⟨h,_⟩ | ⟨b',C0,hb',hc',hlc,hC,hx⟩
 ·cases h
 ·cases hb'
  cases hc'
  have hC1:l.length * T.sz + new.length<=C.size:=by rw [hC,hnl,<-Nat.add_mul];exact Nat.mul_le_mul_right _ hfit
  have hst:=Db (P:=P) E new w b (l.length * T.sz) 0 C (hs.ownAt hk) (by simpa using hC1) (hnew.one h1)
  refine ⟨CZ C (l.length * T.sz) new,FA _ _ _,?_,?_⟩
  ·simp only [Addr.add_lit,Nat.zero_add]
   simp only [Nat.add_zero] at hst
   rw [hst]
   simp
  ·have hrow:DN T F l (Ao C 0 (l.length * T.sz)):=by
    by_cases hl:l=[]
    ·subst hl;simp [DN,Ao]
    ·exact Hr hl (fun i x hi=>by rw [Nat.zero_add];exact hx i x hi)
   have hlr:=hrow.len
   refine ⟨by simpa using hlen,.inr ⟨b,_,rfl,rfl,by simpa using hfit,by rw [FA,hC],fun i x hix=>?_⟩⟩
   have:=(DN.append hrow hnew).get i x hix
   have hii:i < (l++m).length:=by
    rcases Nat.lt_or_ge i (l++m).length with h' | h'
    ·exact h'
    ·rw [List.getElem?_eq_none h'] at hix;cases hix
   have hle:i * T.sz + T.sz<=(Ao C 0 (l.length * T.sz)++new).length:=by
    rw [List.length_append,hlr,hnl,<-Nat.add_mul,<-Nat.succ_mul]
    exact Nat.mul_le_mul_right _ (Nat.succ_le_of_lt (by simpa using hii))
   have e1:Ao C 0 (l.length * T.sz)=C.toList.take (l.length * T.sz):=by simp [Ao]
   unfold Ao
   rw [IY hC1]
   rw [e1] at this hle
   rw [List.drop_append_of_le_length (by omega),List.take_append_of_le_length (by simp only [List.length_drop];omega)]
   exact this
theorem MN {t t2:TypeId} {by_ c2:Nat} {a2:XM} (he:Bi P t=some (E,T.sz,by_)) (hni:Nc P t2=true)
  (h1:T.One) (hs:HS w0 F0 w F L) {k:Nat} (hk:L[k]? =some (some b,.cells C E (0,0))) (hr:As T E F (some ⟨b,0,none⟩) cap l (some b,.cells C E (0,0))) (hm:Rd T F w a2 m) (hfit:l.length + m.length<=cap) (hlen:l.length + m.length < 4398046511104):
  ∃ C',C'.size=C.size/\As T E F (some ⟨b,0,none⟩) cap (l++m) (some b,.cells C' E (0,0))/\ ∀ {ρ:Operand->Value} {x y:Operand} {ty:TypeId},ρ x=.slice (some ⟨b,0,none⟩) l.length cap->ρ y=.slice a2 m.length c2->
   (Ak ρ (.call {callee:=.builtin .append,args:=#[x,y],argTypes:=#[t,t2]}) ty).run P w=.ok (.value (.slice (some ⟨b,0,none⟩) (l++m).length cap)) (B4 w b (.cells C' E (0,0))):=by
 have key:=fun ty=>Rj (ty:=ty) (c2:=c2) he hni h1 hs hk hr hm hfit hlen
 obtain ⟨C',h2,h3,h4⟩:=key 0
 refine ⟨C',h2,h4,fun {ρ x y ty} hx hy=>?_⟩
 have h5:(Builtin.append_ #[t,t2] ty #[.slice (some ⟨b,0,none⟩) l.length cap,.slice a2 m.length c2]).run P w=.ok (.slice (some ⟨b,0,none⟩) (l++m).length cap) (B4 w b (.cells C' E (0,0))):=h3
 have e1:Ak ρ (.call {callee:=.builtin .append,args:=#[x,y],argTypes:=#[t,t2]}) ty=(do pure (Next.value (<-Builtin.append_ #[t,t2] ty (Array.map ρ #[x,y])))):=rfl
 rw [e1,map_toArray]
 simp only [List.map_cons,List.map_nil,hx,hy]
 rw [Sem.run_bind,h5]
 rfl
theorem Pg {o i:Nat} {vs:List Value} (ho:o + vs.length<=C.size) (hi:i * T.sz + T.sz<=o):Ao (CZ C o vs) (i * T.sz) T.sz=Ao C (i * T.sz) T.sz:=by
 unfold Ao
 rw [IY ho,List.append_assoc,List.drop_append_of_le_length (by simp;omega),List.take_append_of_le_length (by simp;omega),List.drop_take,List.take_take,Nat.min_eq_left (by omega)]
theorem OI {t:TypeId} {by_ j k c:Nat} {z:Value} (he:Bi P t=some (E,T.sz,by_)) (hz:BN P E=some z) (hzs:z.cells.size=T.sz) (h0:z.cells.toList.all (·.oneCell')=true)
  (hb:w.heap[b]? =some (.cells C E (0,0))) (hk:0 < k) (hfit:j * T.sz + k * T.sz<=C.size):
  ∃ vs,vs.length=k * T.sz/\ ∀ {ρ:Operand->Value} {x:Operand} {ty:TypeId},ρ x=.slice (some ⟨b,j * T.sz,none⟩) k c->(Ak ρ (.call {callee:=.builtin .clear,args:=#[x],argTypes:=#[t]}) ty).run P w=.ok (.value (.tuple #[])) (B4 w b (.cells (CZ C (j * T.sz) vs) E (0,0))):=by
 obtain ⟨i,hu,hi,his,hib⟩:=Gm he
 have hzv:(zeroValue E).run P w=.ok z w:=by
  unfold BN at hz;rw [hi] at hz
  simp [zeroValue,typeInfo,hi,hz]
 have hsz:(Builtin.zeroCells z.cells k).toList.length=k * T.sz:=by simp [Builtin.zeroCells,hzs]
 have hone:(Builtin.zeroCells z.cells k).toList.all (·.oneCell')=true:=by
  rw [List.all_eq_true] at h0 ⊢
  intro v hv
  simp only [Builtin.zeroCells,Array.toList_map,List.mem_map] at hv
  obtain ⟨q,hq,rfl⟩:=hv
  have hq':q < k * z.cells.size:=by simpa using hq
  have hpos:0 < z.cells.size:=by
   rcases Nat.eq_zero_or_pos z.cells.size with h | h
   ·rw [h] at hq';simp at hq'
   ·exact h
  have hlt:=Nat.mod_lt q hpos
  rw [getElem!_pos z.cells _ hlt]
  exact h0 _ (by simp)
 have hst:=Db (P:=P) E (Builtin.zeroCells z.cells k).toList w b (j * T.sz) 0 C hb (by rw [hsz];simpa using hfit) hone
 refine ⟨(Builtin.zeroCells z.cells k).toList,hsz,fun {ρ x ty} hx=>?_⟩
 have e:Ak ρ (.call {callee:=.builtin .clear,args:=#[x],argTypes:=#[t]}) ty=(do pure (Next.value (<-Builtin.clear_ #[t] ty (Array.map ρ #[x])))):=rfl
 rw [e,map_toArray]
 simp only [List.map_cons,List.map_nil,hx]
 obtain ⟨k',rfl⟩:∃ k',k=k' + 1:=⟨k - 1,by omega⟩
 simp only [Nat.add_zero] at hst
 simp [Builtin.clear_,run_underlying hu,hzv,hst,Result.andThen]
end
abbrev Q5 (x:(XL×Bool)):List Value:=[(.string ⟨(x.1).toArray⟩),(.bool x.2)]
abbrev Tq (_:Mem) (_:(XL×Bool)):Prop:=True
abbrev Tf (x:(XL×Bool)):(XL×Bool):=x
theorem kl9:KL Tryz.prog 9 AN:=KL.ofString (by kernel_rfl)
def VE (x:Ad):Value:=.agg #[(.int .i64 x.at_),(.int .i64 x.stage_),(.int .i64 x.num_),(.int .i64 x.minute_)]
def Uf (x y:Ad):Bool:=((x.at_==y.at_)&&((x.stage_==y.stage_)&&((x.num_==y.num_)&&((x.minute_==y.minute_)&&true))))
theorem Wv (x y:Ad):Uf x y=decide (x=y):=by
 rw [Bool.eq_iff_iff];unfold Uf
 simp only [Bool.and_eq_true,beq_iff_eq,decide_eq_true_eq,and_true]
 constructor
 ·intro h
  obtain ⟨_,_,_,_⟩:=x;obtain ⟨_,_,_,_⟩:=y
  simp_all [Ad.mk.injEq]
 ·rintro rfl
  simp
set_option maxRecDepth 100000 in
theorem VI:KL Tryz.prog 143 Ax:=KL.ofStruct (d:=8) (by decide) VE (fun h=>by obtain ⟨_,rfl,rfl⟩:=h;rfl) (by kernel_rfl) (fun x=>by kernel_rfl) Uf (fun x y=>by kernel_rfl) Wv (fun x=>by simp [VE,Instr.sameBits,beq_toListBytes])
def AH (N:Nat) (x0:(List AJ)) (x1:(AJ->Option Bool)):Int->Option (BC Int Int):=fun h0=>
 (bif (decide (h0 < (x0.length:Int))) then ((idx x0 h0).bind fun h1=>((x1 h1).bind fun h2=>(bif h2 then some (.ret h0) else some (.next (W64 (h0 + 1)))))) else some (.done h0))
def Bw (N:Nat) (x0:(List AJ)) (x1:(AJ->Option Bool)):Option Int:=
 ((AU (AH N x0 x1) N 0).bind fun o=>o.k (fun r=>some r) (fun h0=>some (-1)))
theorem DH:Aj Tryz.prog 183:=fun _ _=>by kernel_rfl
theorem DI (N:Nat) (w0:World) (F0:Mem) (hF:XN w0 F0) (x0:(List AJ)) (h4:XM) (h5:Nat) (b9:LC x0.length h5) (he:SlA II F0 h4 x0) (h1:FuncId) (h6 h7:List Value) (x1:AJ->Option Bool) (hf:Aj Tryz.prog h1) (hg:Qp F0 h1 h6 h7 x1) (r:Int) (h:Bw N x0 x1=some r):
  Calls Tryz.prog 183 ([(sL h4 x0 h5),(.func (.func h1) h6.toArray h7.toArray)]:List Value).toArray w0 (AA w0 F0 fun F' v=>v=(vi r)):=by
 have hh:=Xs hF
 refine Go 19 Tryz.func183<|Sq (Rg [0] ?_)
 refine Vs 1<|Nss<|Sq (Rg [0,1,2] ?_)
 refine Vs 3<|Nt ?_
 obtain ⟨h9,hl,ha⟩:=bS h
 refine Xx (fun f w=>∃ (hb:Int) (F2:Mem),h9=.done hb/\HS w0 F0 w F2 []/\Xq F0 F2/\FI f [] []) ?_ ?_
 ·refine Bk ?_
  refine Xp (by kernel_rfl) (fun m f w=>∃ (h0:Int) (F1:Mem),AU (AH N x0 x1) m h0=some h9/\HS w0 F0 w F1 []/\Xq F0 F1/\FI f [] [(0,(sL h4 x0 h5)),(1,(.func (.func h1) h6.toArray h7.toArray)),(7,(vi (x0.length:Int))),(8,(vi h0))]) N ⟨0,F0,hl,hh,(Xr _),fI⟩ ?_
  rintro ba f hm ⟨h0,F1,hn,h2,h3,⟨_,rfl⟩⟩
  obtain ⟨ho,bb,rfl,hp,h8⟩:=AV hn
  refine Sq (Rg [0] ?_)
  refine Vs 1<|Nss<|Cd hp (fun hq hr=>?_) (fun hq ht=>?_)
  ·refine Sc ?_
   refine Ab<|Sq<|Bk<|Sq (Rg [0,1] ?_)
   refine Vs 2<|Nss (Rg (rG 6) ?_)
   refine Vs 3 ?_
   obtain ⟨hu,hv,hw⟩:=bS hr
   obtain ⟨hx,hx48'⟩:=Ap hv
   obtain ⟨bc,bd,be,bf,bg,rfl,hF57,hE58⟩:=Xy (Xt he h3) hx48'
   have hy:=hE58 _ _ hx48'
   refine Ix hx<|Lx 0 (h2.pers _ _ hF57) hy ?_
   obtain ⟨bh,hz,b0⟩:=bS hw
   refine Cq hf h2 (hg hm F1 hu _ h3 h2.pers hz) ?_
   rintro _ F3 bi hc b1 rfl
   refine Nt<|Cd b0 (fun b2 b3=>?_) (fun b2 b4=>?_)
   ·refine Sq (Rg [0,1] ?_)
    refine Vs 2<|Nt<|Rt<|Ay<|Af<|Af<|Ay ?_
    have hret:=CV b3 h8
    subst hret
    refine .inr<|Af ?_
    obtain rfl:=Aa ha
    exact Re [(vi h0)] hc rfl
   ·refine Sc ?_
    refine Av<|Ab<|Rg [0,1]<|Vs 2<|Xm ?_
    have b5:=AW b4 h8
    exact ⟨ho,Nat.lt_succ_self _,(W64 (h0 + 1)),F3,b5,hc,(h3.t b1),fI⟩
  ·refine Ex ?_
   refine Au<|Au<|AB rfl ?_
   have b6:=AX ht h8
   exact .inl ⟨rfl,h0,F1,b6,h2,h3,fI⟩
 ·rintro f bj ⟨hb,F2,rfl,b7,bk,⟨_,rfl⟩⟩
  have b8:=BX ha
  refine Ab<|Sq (Rg [0] ?_)
  refine Vs 1<|Nt<|Rt ?_
  obtain rfl:=Aa b8
  exact Re [(vi (-1))] b7 rfl
def AZ (N:Nat) (x0:(List AJ)) (x1:(AJ->Option Bool)):Option Bool:=
 ((Bw N x0 x1).bind fun h0=>some (decide (h0>=0)))
theorem C6:Aj Tryz.prog 137:=fun _ _=>by kernel_rfl
theorem Da (N:Nat) (w0:World) (F0:Mem) (hF:XN w0 F0) (x0:(List AJ)) (h1:XM) (h2:Nat) (h6:LC x0.length h2) (h7:SlA II F0 h1 x0) (h0:FuncId) (h3 h4:List Value) (x1:AJ->Option Bool) (h8:Aj Tryz.prog h0) (h9:Qp F0 h0 h3 h4 x1) (r:Bool) (h:AZ N x0 x1=some r):
  Calls Tryz.prog 137 ([(sL h1 x0 h2),(.func (.func h0) h3.toArray h4.toArray)]:List Value).toArray w0 (AA w0 F0 fun F' v=>v=(.bool r)):=by
 have h5:=Xs hF
 refine Go 9 Tryz.func137<|Sq (Rg [0] ?_)
 refine Vs 1<|Nss (Rg (rG 5) ?_)
 refine Vs 2 ?_
 obtain ⟨ha,hb,hc⟩:=bS h
 refine Cl' DH h5 (DI N w0 F0 h5.pers x0 h1 h2 h6 h7 h0 h3 h4 x1 h8 (fun w1 F1 y0 r he hf hg=>h9 w1 F1 y0 r he hf hg) _ hb) ?_
 rintro _ F1 hl hh hm rfl
 refine Vs 2<|Nt<|Rt ?_
 obtain rfl:=Aa hc
 exact Re [(.bool (decide (ha>=0)))] hh rfl
def CK (N:Nat) (x0:Ac) (x1:Ae):Option (List AJ):=
 some [({has_:=x0.Report,n_:=x1.Report,most_:=599,digits_:=1}:AJ),({has_:=x0.Serial,n_:=x1.Serial,most_:=99999,digits_:=3}:AJ),({has_:=x0.Zone,n_:=x1.Zone,most_:=99,digits_:=2}:AJ)]
theorem Ez:Aj Tryz.prog 138:=fun _ _=>by kernel_rfl
theorem E9 (N:Nat) (w0:World) (F0:Mem) (hF:XN w0 F0) (x0:Ac) (x1:Ae) (r:(List AJ)) (h:CK N x0 x1=some r):
  Calls Tryz.prog 138 ([(.agg (Al x0)),(.agg (B2 x1))]:List Value).toArray w0 (AA w0 F0 fun F' v=>∃ (h2:XM) (h3:Nat),v=(sL h2 r h3)/\LC r.length h3/\SlA II F' h2 r):=by
 have h5:=Xs hF
 refine Go 21 Tryz.func138<|Sq (Rg [0,1,2] ?_)
 refine Bx' 23 (Al x0) h5 (fun hb hc h6=>?_)
 refine Bx' 32 (B2 x1) h6 (fun he hf h0=>?_)
 refine Vs 1<|Nss (Rg (rG 17) ?_)
 refine Vs 1<|Ld h0.at1<|Vs 1<|Ld h0.at0<|Vs 2<|Ld h0.at1<|Vs 1<|Ld h0.at0<|Vs 2<|Ld h0.at1<|Vs 1<|Ld h0.at0<|Vs 1<|Bs 180 [(.bool x0.Report),(vi x1.Report),(vi 599),(vi 1),(.bool x0.Serial),(vi x1.Serial),(vi 99999),(vi 3),(.bool x0.Zone),(vi x1.Zone),(vi 99),(vi 2)] h0 (fun h1 hg h7=>?_)
 have h4:As II 180 F0 (some ⟨h1,0,none⟩) 3 [({has_:=x0.Report,n_:=x1.Report,most_:=599,digits_:=1}:AJ),({has_:=x0.Serial,n_:=x1.Serial,most_:=99999,digits_:=3}:AJ),({has_:=x0.Zone,n_:=x1.Zone,most_:=99,digits_:=2}:AJ)] (some h1,.cells ([(.bool x0.Report),(vi x1.Report),(vi 599),(vi 1),(.bool x0.Serial),(vi x1.Serial),(vi 99999),(vi 3),(.bool x0.Zone),(vi x1.Zone),(vi 99),(vi 2)]:List Value).toArray 180 (0,0)):=XG ⟨rfl,⟨rfl,⟨rfl,rfl⟩⟩⟩ (by simp)
 refine Vs 1<|Nt<|Rt ?_
 have h8:=XE h4
 obtain ⟨F1,h9,hh,ha⟩:=h7.fr0 h4
 obtain rfl:=Aa h
 exact Re [(.slice (some ⟨h1,0,none⟩) [({has_:=x0.Report,n_:=x1.Report,most_:=599,digits_:=1}:AJ),({has_:=x0.Serial,n_:=x1.Serial,most_:=99999,digits_:=3}:AJ),({has_:=x0.Zone,n_:=x1.Zone,most_:=99,digits_:=2}:AJ)].length 3)] h9 ⟨(some ⟨h1,0,none⟩),3,rfl,h8,ha⟩
def FR (N:Nat) (x0 x1 x2:Int):Option Bool:=
 some ((decide (x0>=x1))&&(decide (x0<=x2)))
theorem GG:Aj Tryz.prog 140:=fun _ _=>by kernel_rfl
theorem Hu (N:Nat) (w0:World) (F0:Mem) (hF:XN w0 F0) (x0 x1 x2:Int) (r:Bool) (h:FR N x0 x1 x2=some r):
  Calls Tryz.prog 140 ([(vi x0),(vi x1),(vi x2)]:List Value).toArray w0 (AA w0 F0 fun F' v=>v=(.bool r)):=by
 have h1:=Xs hF
 refine Go 15 Tryz.func140<|Sq (Rg [0] ?_)
 refine Vs 1<|Nss (Rg (rG 9) ?_)
 refine Xw (fun f w=>∃ (F1:Mem),HS w0 F0 w F1 []/\Xq F0 F1/\FI f [] [(6,(.bool ((decide (x0>=x1))&&(decide (x0<=x2)))))]) ?_ ?_
 ·refine Vs 4 ?_
  refine Xv (decide (x0>=x1)) (fun h0=>?_) (fun h0=>?_)
  ·refine Vgs h0 3 ?_
   refine Pk1 h0<|Vs 1 ?_
   exact Xm ⟨rfl,F0,h1,(Xr _),(fJ ⟨(congrArg Value.bool (Ot h0 rfl)),trivial⟩)⟩
  ·refine Ss h0 3 ?_
   refine Pk0 h0<|Vs 1 ?_
   exact Xm ⟨rfl,F0,h1,(Xr _),(fJ ⟨(congrArg Value.bool (Ou h0 rfl)),trivial⟩)⟩
 ·rintro f h3 ⟨F1,h2,h4,⟨_,rfl⟩⟩
  refine Ab<|Rt ?_
  obtain rfl:=Aa h
  exact Re [(.bool ((decide (x0>=x1))&&(decide (x0<=x2))))] h2 rfl
def BZ (N:Nat) (x0:AJ):Option Bool:=
 (((FR N x0.n_ 1 x0.most_).bind fun h0=>(bif (!(x0.has_==h0)) then some true else (bif (!x0.has_) then some (x0.n_ !=0) else some false))).bind fun h1=>some h1)
theorem Hq:Aj Tryz.prog 139:=fun _ _=>by kernel_rfl
theorem HU (N:Nat) (w0:World) (F0:Mem) (hF:XN w0 F0) (x0:AJ) (r:Bool) (h:BZ N x0=some r):
  Calls Tryz.prog 139 ([(.agg (IP x0))]:List Value).toArray w0 (AA w0 F0 fun F' v=>v=(.bool r)):=by
 have h7:=Xs hF
 refine Go 21 Tryz.func139<|Sq (Rg [0,1] ?_)
 refine Bx' 180 (IP x0) h7 (fun h1 hn h8=>?_)
 refine Vs 1<|Nss ?_
 obtain ⟨h5,h9,ha⟩:=bS h
 refine RD 19 19 [(sb h1 (IP x0) 180)] [] h8 (fun f w=>∃ (F1:Mem),HS w0 F0 w F1 []/\Xq F0 F1/\FI f [] [(2,(.bool h5))]) (fun hb h6=>?_) ?_
 ·refine Dvl [0] (tf 1 18) ?_
  refine Dl 1 (fun _ hq=>(hq.1.2 0 _ _ rfl))<|Dvl [2] (tf 3 16)<|Dl 3 (fun _ hq=>(hq.1.2 0 _ _ rfl))<|Dvl [4] (tf 5 14)<|Dl 5 (fun _ hq=>(hq.1.2 0 _ _ rfl))<|D1 6 ?_
  obtain ⟨ho,hc,he⟩:=bS h9
  refine DCl GG h6 (Hu N hb F0 h6.pers x0.n_ 1 x0.most_ _ hc) ?_
  rintro _ F2 hp h3 h4 rfl
  refine Dvl [7,8] (tf 9 10)<|Sd he (fun h0 hf=>?_) (fun h0 hg=>?_)
  ·refine Dkl [(9,12),(10,13),(11,14),(12,15)] 8 false 11 h0 (tf 13 6) ?_
   refine Dul [(13,16),(14,17),(15,18)] 12 true 15 (tf 16 3)<|Dkl [(16,19)] 8 false 11 h0 (tf 17 2)<|Dtl 17 20 4 _ (tf 18 1) (fun _ hq=>p1 11 (.const (.bool true)) (.tmp 19) (.bool true) h0)<|Dvl [18] (tf 19 0) ?_
   obtain rfl:=Aa hf
   exact XD (by kernel_rfl) ⟨F2,h3.dr0,h4,fI⟩
  ·refine Dgl 9 12 0 (pt h1 0) (tf 10 9) 8 false 11 h0 (fun _ hq=>fa 180 1 0 0 1 h1 0 0) ?_
   refine Dgl 10 13 4 _ (tf 11 8) 8 false 11 h0 (fun _ hq=>ld 4 12 h1 0 false 1 (.bool x0.has_) (hq.1.2 0 _ _ rfl))<|Dgl 11 14 4 (.bool (!x0.has_)) (tf 12 7) 8 false 11 h0 (fun _ hq=>OB (t:=4) (x:=(.tmp 13)) (a:=x0.has_) rfl)<|Dgl 12 15 4 _ (tf 13 6) 8 false 11 h0 (fun _ hq=>mv 14 (.bool (!x0.has_)))<|Sd hg (fun h2 hh=>?_) (fun h2 hl=>?_)
   ·refine Dgl 13 16 0 (pt h1 1) (tf 14 5) 12 true 15 h2 (fun _ hq=>fa 180 1 1 1 1 h1 0 1) ?_
    refine Dgl 14 17 3 _ (tf 15 4) 12 true 15 h2 (fun _ hq=>ld 3 16 h1 1 false 1 (vi x0.n_) (hq.1.2 0 _ _ rfl))<|Dgl 15 18 4 (.bool (x0.n_ !=0)) (tf 16 3) 12 true 15 h2 (fun _ hq=>Mi (t:=3) (t':=3) (x:=(.tmp 17)) (y:=(.const (vi 0))) (k:=.i64) (a:=x0.n_) (b:=0) rfl rfl)<|Dgl 16 19 4 _ (tf 17 2) 8 false 11 h0 (fun _ hq=>p1 15 (.tmp 18) (.const (.bool false)) (.bool (x0.n_ !=0)) h2)<|Dtl 17 20 4 _ (tf 18 1) (fun _ hq=>p0 11 (.const (.bool true)) (.tmp 19) (.bool (x0.n_ !=0)) h0)<|Dvl [18] (tf 19 0) ?_
    obtain rfl:=Aa hh
    exact XD (by kernel_rfl) ⟨F2,h3.dr0,h4,fI⟩
   ·refine Dkl [(13,16),(14,17),(15,18)] 12 true 15 h2 (tf 16 3) ?_
    refine Dgl 16 19 4 _ (tf 17 2) 8 false 11 h0 (fun _ hq=>p0 15 (.tmp 18) (.const (.bool false)) (.bool false) h2)<|Dtl 17 20 4 _ (tf 18 1) (fun _ hq=>p0 11 (.const (.bool true)) (.tmp 19) (.bool false) h0)<|Dvl [18] (tf 19 0) ?_
    obtain rfl:=Aa hl
    exact XD (by kernel_rfl) ⟨F2,h3.dr0,h4,fI⟩
 ·rintro f hr ⟨F1,hm,ht,⟨_,rfl⟩⟩
  refine Ab<|Rt ?_
  obtain rfl:=Aa ha
  exact Re [(.bool h5)] hm rfl
def BW (N:Nat) (x0:Ac) (x1:Ae):Option Bool:=
 ((CK N ({Report:=x0.Report,Serial:=x0.Serial,Zone:=x0.Zone}:Ac) ({Report:=x1.Report,Serial:=x1.Serial,Zone:=x1.Zone}:Ae)).bind fun h0=>((AZ N h0 (fun y0=>BZ N y0)).bind fun h1=>some (!h1)))
theorem Dm:Aj Tryz.prog 75:=fun _ _=>by kernel_rfl
theorem DK (N:Nat) (w0:World) (F0:Mem) (hF:XN w0 F0) (x0:Ac) (x1:Ae) (r:Bool) (h:BW N x0 x1=some r):
  Calls Tryz.prog 75 ([(.agg (Al x0)),(.agg (B2 x1))]:List Value).toArray w0 (AA w0 F0 fun F' v=>v=(.bool r)):=by
 have h2:=Xs hF
 refine Go 10 Tryz.func75<|Sq (Rg [0,1,2] ?_)
 refine Bx' 23 (Al x0) h2 (fun hn ho h3=>?_)
 refine Bx' 32 (B2 x1) h3 (fun hp h4 h0=>?_)
 refine Vs 1<|Nss (Rg (rG 6) ?_)
 refine Ld h0.at1<|Ld h0.at0 ?_
 obtain ⟨h5,h6,h7⟩:=bS h
 refine Cl' Ez h0 (E9 N h4 F0 h0.pers (({Report:=x0.Report,Serial:=x0.Serial,Zone:=x0.Zone}:Ac)) (({Report:=x1.Report,Serial:=x1.Serial,Zone:=x1.Zone}:Ae)) _ h6) ?_
 rintro _ F1 h8 h1 hq ⟨h9,ha,rfl,hb,hc⟩
 obtain ⟨he,hf,hg⟩:=bS h7
 refine Cl' C6 h1 (Da N h8 F1 h1.pers h5 h9 ha hb hc 139 [] [] (fun y0=>BZ N y0) Hq (fun w1 F1 y0 r hr hh hl=>HU N w1 F1 hh y0 r hl) _ hf) ?_
 rintro _ F2 ht hm hu rfl
 refine Vs 2<|Nt<|Rt ?_
 obtain rfl:=Aa hg
 exact Re [(.bool (!he))] hm rfl



def Fa (N:Nat) (x0:XL) (x1:Int) (x2:(Int->Option Bool)):Nat->Option (BC Bool Nat):=fun h0=>
 (bif (decide (h0 < (x0).length)) then ((x2 ((Jv x0 h0).1:Int)).bind fun h1=>(bif (!h1) then some (.ret false) else some (.next (h0 + (Jv x0 h0).2)))) else some (.done h0))
def Fc (N:Nat) (x0:XL) (x1:Int) (x2:(Int->Option Bool)):Option Bool:=
 ((AU (Fa N x0 x1 x2) N 0).bind fun o=>o.k (fun r=>some r) (fun h1=>((FR N (x0.length:Int) 1 x1).bind fun h0=>some h0)))
theorem E8:Aj Tryz.prog 198:=fun _ _=>by kernel_rfl
theorem FN (N:Nat) (w0:World) (F0:Mem) (hF:XN w0 F0) (x0:XL) (x1:Int) (h2:FuncId) (h3 h4:List Value) (x2:Int->Option Bool) (hh:Aj Tryz.prog h2) (hl:LM F0 h2 h3 h4 x2) (r:Bool) (h:Fc N x0 x1 x2=some r):
  Calls Tryz.prog 198 ([(sv x0),(vi x1),(.func (.func h2) h3.toArray h4.toArray)]:List Value).toArray w0 (AA w0 F0 fun F' v=>v=(.bool r)):=by
 have hm:=Xs hF
 refine Go 22 Tryz.func198<|Sq (Rg [0] ?_)
 refine Vs 1<|Nss<|Sq (Rg [0,1] ?_)
 refine Vs 1<|RWP.srange (dst:=(some 10)) (ty:=0) (g:=none) (by kernel_rfl) rfl (t:=9) (x:=(.tmp 9)) (a:=x0) rfl (by kernel_rfl) hm (fun h1 hn (ho:HS w0 F0 hn F0 [(some h1,(.stringIter ⟨(x0).toArray⟩ 0))])=>?_)
 refine Nt ?_
 obtain ⟨h9,hp,ha⟩:=bS h
 refine Xx (fun f w=>∃ (hb:Nat) (F2:Mem),h9=.done hb/\HS w0 F0 w F2 []/\Xq F0 F2/\FI f [] [(0,(sv x0)),(1,(vi x1))]) ?_ ?_
 ·refine Bk ?_
  refine Xp (by kernel_rfl) (fun m f w=>∃ (h0:Nat) (F1:Mem),AU (Fa N x0 x1 x2) m h0=some h9/\HS w0 F0 w F1 [(some h1,(.stringIter ⟨(x0).toArray⟩ h0))]/\Xq F0 F1/\FI f [] [(0,(sv x0)),(1,(vi x1)),(2,(.func (.func h2) h3.toArray h4.toArray)),(10,(pt h1 0))]) N ⟨0,F0,hp,ho,(Xr _),fI⟩ ?_
  rintro ba f bb ⟨h0,F1,hq,h5,h6,⟨_,rfl⟩⟩
  obtain ⟨hr,bc,rfl,ht,h7⟩:=AV hq
  refine Sq (Rg [0,1] ?_)
  refine Sp ht (fun h8 hu=>?_) (fun h8 hv=>?_)
  ·refine RWP.snext1 (dst:=(some 11)) (ty:=0) (g:=none) (by kernel_rfl) rfl (x:=(.tmp 10)) (b:=h1) (a:=x0) (pos:=h0) (k:=0) rfl h5 rfl h8 (fun hc (he:HS w0 F0 hc F1 [(some h1,(.stringIter ⟨(x0).toArray⟩ (h0 + (Jv x0 h0).2)))])=>?_)
   refine Vs 1<|Nss<|C1 (rfl:true=true)<|Sc<|Ab<|Bk<|Sq (Rg [0,1] ?_)
   refine Vs 2<|Nss (Rg (rG 4) ?_)
   refine Vs 2 ?_
   obtain ⟨bd,hw,hx⟩:=bS hu
   refine Cq hh he (hl hc F1 (((Jv x0 h0).1:Int)) _ h6 he.pers hw) ?_
   rintro _ F3 be hf hy rfl
   refine Vs 1<|Nt<|Cd hx (fun hz b0=>?_) (fun hz b1=>?_)
   ·refine Sq (Rg [0] ?_)
    refine Vs 1<|Nt<|Rt<|Ay<|Af<|Ay ?_
    have hret:=CV b0 h7
    subst hret
    refine .inr<|Af ?_
    obtain rfl:=Aa ha
    exact Re [(.bool false)] hf rfl
   ·refine Sc ?_
    refine Av ?_
    have b2:=AW b1 h7
    exact ⟨hr,Nat.lt_succ_self _,(h0 + (Jv x0 h0).2),F3,b2,hf,(h6.t hy),fI⟩
  ·refine RWP.snext0 (dst:=(some 11)) (ty:=0) (g:=none) (by kernel_rfl) rfl (x:=(.tmp 10)) (b:=h1) (a:=x0) (pos:=h0) (k:=0) rfl h5 rfl h8 ?_
   refine Vs 1<|Nss<|C0 (rfl:false=false)<|Ex<|Au<|Au<|AB rfl ?_
   have b3:=AX hv h7
   exact .inl ⟨rfl,h0,F1,b3,h5.dr0,h6,fI⟩
 ·rintro f b4 ⟨hb,F2,rfl,hg,bf,⟨_,rfl⟩⟩
  have b5:=BX ha
  refine Ab<|Sq (Rg (rG 5) ?_)
  refine Vs 3 ?_
  obtain ⟨b6,b7,b8⟩:=bS b5
  refine Cl' GG hg (Hu N b4 F2 hg.pers ((x0.length:Int)) 1 x1 _ b7) ?_
  rintro _ F4 bg b9 bh rfl
  refine Vs 1<|Nt<|Rt ?_
  obtain rfl:=Aa b8
  exact Re [(.bool b6)] b9 rfl
def Bj (N:Nat) (x0:Int):Option Bool:=
 some ((decide (x0>=48))&&(decide (x0<=57)))
theorem Ft:Aj Tryz.prog 199:=fun _ _=>by kernel_rfl
theorem Gs (N:Nat) (w0:World) (F0:Mem) (hF:XN w0 F0) (x0:Int) (r:Bool) (h:Bj N x0=some r):
  Calls Tryz.prog 199 ([(.int .i32 x0)]:List Value).toArray w0 (AA w0 F0 fun F' v=>v=(.bool r)):=by
 have h1:=Xs hF
 refine Go 9 Tryz.func199<|Sq (Rg [0] ?_)
 refine Vs 1<|Nss (Rg (rG 7) ?_)
 refine Xw (fun f w=>∃ (F1:Mem),HS w0 F0 w F1 []/\Xq F0 F1/\FI f [] [(2,(.bool ((decide (x0>=48))&&(decide (x0<=57)))))]) ?_ ?_
 ·refine Vs 3 ?_
  refine Xv (decide (x0>=48)) (fun h0=>?_) (fun h0=>?_)
  ·refine Vgs h0 2 ?_
   refine Pk1 h0<|Vs 1 ?_
   exact Xm ⟨rfl,F0,h1,(Xr _),(fJ ⟨(congrArg Value.bool (Ot h0 rfl)),trivial⟩)⟩
  ·refine Ss h0 2 ?_
   refine Pk0 h0<|Vs 1 ?_
   exact Xm ⟨rfl,F0,h1,(Xr _),(fJ ⟨(congrArg Value.bool (Ou h0 rfl)),trivial⟩)⟩
 ·rintro f h3 ⟨F1,h2,h4,⟨_,rfl⟩⟩
  refine Ab<|Rt ?_
  obtain rfl:=Aa h
  exact Re [(.bool ((decide (x0>=48))&&(decide (x0<=57))))] h2 rfl
def BR (N:Nat) (x0:Int):Option Bool:=
 some ((decide (x0>=65))&&(decide (x0<=90)))
theorem ET:Aj Tryz.prog 264:=fun _ _=>by kernel_rfl
theorem Fw (N:Nat) (w0:World) (F0:Mem) (hF:XN w0 F0) (x0:Int) (r:Bool) (h:BR N x0=some r):
  Calls Tryz.prog 264 ([(.int .i32 x0)]:List Value).toArray w0 (AA w0 F0 fun F' v=>v=(.bool r)):=by
 have h1:=Xs hF
 refine Go 9 Tryz.func264<|Sq (Rg [0] ?_)
 refine Vs 1<|Nss (Rg (rG 7) ?_)
 refine Xw (fun f w=>∃ (F1:Mem),HS w0 F0 w F1 []/\Xq F0 F1/\FI f [] [(2,(.bool ((decide (x0>=65))&&(decide (x0<=90)))))]) ?_ ?_
 ·refine Vs 3 ?_
  refine Xv (decide (x0>=65)) (fun h0=>?_) (fun h0=>?_)
  ·refine Vgs h0 2 ?_
   refine Pk1 h0<|Vs 1 ?_
   exact Xm ⟨rfl,F0,h1,(Xr _),(fJ ⟨(congrArg Value.bool (Ot h0 rfl)),trivial⟩)⟩
  ·refine Ss h0 2 ?_
   refine Pk0 h0<|Vs 1 ?_
   exact Xm ⟨rfl,F0,h1,(Xr _),(fJ ⟨(congrArg Value.bool (Ou h0 rfl)),trivial⟩)⟩
 ·rintro f h3 ⟨F1,h2,h4,⟨_,rfl⟩⟩
  refine Ab<|Rt ?_
  obtain rfl:=Aa h
  exact Re [(.bool ((decide (x0>=65))&&(decide (x0<=90))))] h2 rfl
def Dw (N:Nat) (x0:Int):Option Bool:=
 (((BR N x0).bind fun h0=>(bif h0 then some true else ((Bj N x0).bind fun h1=>some h1))).bind fun h2=>some h2)
theorem NQ:Aj Tryz.prog 265:=fun _ _=>by kernel_rfl
theorem Pj (N:Nat) (w0:World) (F0:Mem) (hF:XN w0 F0) (x0:Int) (r:Bool) (h:Dw N x0=some r):
  Calls Tryz.prog 265 ([(.int .i32 x0)]:List Value).toArray w0 (AA w0 F0 fun F' v=>v=(.bool r)):=by
 have h2:=Xs hF
 refine Go 9 Tryz.func265<|Sq (Rg [0] ?_)
 refine Vs 1<|Nss (Rg (rG 7) ?_)
 obtain ⟨h3,h5,h6⟩:=bS h
 refine Xw (fun f w=>∃ (F1:Mem),HS w0 F0 w F1 []/\Xq F0 F1/\FI f [] [(2,(.bool h3))]) ?_ ?_
 ·refine Vs 1 ?_
  obtain ⟨hl,h7,h8⟩:=bS h5
  refine Cl' ET h2 (Fw N w0 F0 h2.pers x0 _ h7) ?_
  rintro _ F2 h9 h1 h4 rfl
  refine Vs 1<|Sp h8 (fun h0 ha=>?_) (fun h0 hb=>?_)
  ·refine Ss h0 2 ?_
   refine Pk1 h0<|Vs 1 ?_
   obtain rfl:=Aa ha
   exact Xm ⟨rfl,F2,h1,h4,fI⟩
  ·refine Vgs h0 1 ?_
   obtain ⟨hm,hc,he⟩:=bS hb
   refine Cg h0 Ft h1 (Gs N h9 F2 h1.pers x0 _ hc) ?_
   rintro _ F3 hn hf hg rfl
   refine Pk0 h0<|Vs 1 ?_
   obtain rfl:=Aa he
   exact Xm ⟨rfl,F3,hf,(h4.t hg),fI⟩
 ·rintro f ho ⟨F1,hh,hp,⟨_,rfl⟩⟩
  refine Ab<|Rt ?_
  obtain rfl:=Aa h6
  exact Re [(.bool h3)] hh rfl
section
open Go.Proofs Go.RowKit Go.Sort Go.Lib
def Ff (p:Int->Option Bool) (x:Nat):Bool:=(p (x:Int)).getD false
def Pn (p:Int->Option Bool):Prop:=∀ x:Nat,x<=1114111->(p (x:Int)).isSome=true
def J4 (p:Int->Option Bool):Bool:=(List.range 1114112).all fun x=>(p (x:Int)).isSome
theorem H0 {p:Int->Option Bool}:J4 p=true ↔ Pn p:=by
 unfold J4 Pn
 rw [List.all_eq_true]
 exact ⟨fun h x hx=>h x (by rw [List.mem_range];omega),fun h x hx=>h x (by rw [List.mem_range] at hx;omega)⟩
theorem Oa {w:World} {F:Mem} (hF:∀ b o,F b=some o->w.heap[b]? =some o) {gq:FuncId} {k:List Value} {p:Int->Option Bool} (h:LM F gq [] k p) (ha:Pn p):PredGrows Tryz.prog gq k.toArray (Ff p) w:=by
 intro W x hx hb
 have hr:=ha x hx
 obtain ⟨r,hr'⟩:=Option.isSome_iff_exists.1 hr
 have:=h W F (x:Int) r (Xr F) (Below.pers hF hb) hr'
 have e:Ff p x=r:=by unfold Ff;rw [hr'];rfl
 rw [e]
 have he:(#[encR x]++k.toArray:Array Value)=(([]:List Value)++(([.int .i32 (x:Int)]:List Value)++k)).toArray:=by
  apply Array.ext';simp [encR]
 rw [he]
 refine this.mono ?_
 rintro e w' ⟨v,F',rfl,hs,rfl⟩
 exact ⟨rfl,hs.fix.1,hs.fix.2.2,hs.fix.2.1,hs.size,hs.keep⟩
def Cj (_N:Nat) (x0:XL) (x1:Int->Option Bool):Option Int:=
 if J4 x1=true then some (Go.Lib.idxFunc (Ff x1) true ⟨x0.toArray⟩) else none
theorem Im:Aj Tryz.prog 266:=fun _ _=>by kernel_rfl
theorem I8 (N:Nat) (w0:World) (F0:Mem) (hF:XN w0 F0) (x0:XL) (h0:FuncId) (h1:List Value) (x1:Int->Option Bool) (h2:Aj Tryz.prog h0) (h3:LM F0 h0 [] h1 x1) (r:Int) (h:Cj N x0 x1=some r):
  Calls Tryz.prog 266 ([(.string ⟨(x0).toArray⟩),(.func (.func h0) ([]:List Value).toArray h1.toArray)]:List Value).toArray w0 (AA w0 F0 fun _ v=>v=(.int .i64 r)):=by
 unfold Cj at h
 split at h
 ·rename_i ha
  cases h
  exact XI hF (Tryz.strings_IndexFunc_grows h0 h1.toArray h2 _ _ w0 (Oa hF h3 (H0.1 ha))) rfl
 ·cases h
def B7 (_N:Nat) (x0:XL) (x1:Int->Option Bool) (x2:Bool):Option Int:=
 if J4 x1=true/\x0.length<=9223372036854775807 then some (Go.Lib.lastIdxFunc (Ff x1) x2 ⟨x0.toArray⟩) else none
theorem GA:Aj Tryz.prog 284:=fun _ _=>by kernel_rfl
theorem GV (N:Nat) (w0:World) (F0:Mem) (hF:XN w0 F0) (hG:BB F0) (x0:XL) (h0:FuncId) (h1:List Value) (x1:Int->Option Bool) (h2:Aj Tryz.prog h0) (h3:LM F0 h0 [] h1 x1) (x2:Bool) (r:Int) (h:B7 N x0 x1 x2=some r):
  Calls Tryz.prog 284 ([(.string ⟨(x0).toArray⟩),(.func (.func h0) ([]:List Value).toArray h1.toArray),(.bool x2)]:List Value).toArray w0 (AA w0 F0 fun _ v=>v=(.int .i64 r)):=by
 unfold B7 at h
 split at h
 ·rename_i ha
  cases h
  exact XI hF (Tryz.strings_lastIndexFunc_grows h0 h1.toArray h2 _ _ _ w0 (by simpa [ByteArray.size] using ha.2) (hG w0 hF).2.1 (Oa hF h3 (H0.1 ha.1))) rfl
 ·cases h
def Oy (s sep:XL):List XL:=(Go.Lib.splitB ⟨sep.toArray⟩ 0 (Go.Lib.countB ⟨s.toArray⟩ ⟨sep.toArray⟩) ⟨s.toArray⟩).map (·.data.toList)
def strings_Split (_N:Nat) (s sep:XL):Option (List XL):=if s.length < 4294967281/\1<=sep.length then some (Oy s sep) else none
theorem CF:Aj Tryz.prog 93:=fun _ _=>by kernel_rfl
theorem CX (N:Nat) (w0:World) (F0:Mem) (hF:XN w0 F0) (hG:BB F0) (x0 x1:XL) (r:List XL) (h:strings_Split N x0 x1=some r):
  Calls Tryz.prog 93 ([(.string ⟨(x0).toArray⟩),(.string ⟨(x1).toArray⟩)]:List Value).toArray w0 (AA w0 F0 fun F' v=>∃ (h0:XM) (h2:Nat),v=(.slice h0 r.length h2)/\LC r.length h2/\SlA AN F' h0 r):=by
 unfold strings_Split at h
 split at h
 ·rename_i ha
  cases h
  obtain ⟨m,hm⟩:=(hG w0 hF).2.2.1
  have hs:(⟨x0.toArray⟩:ByteArray).size < 4294967281:=by simpa [ByteArray.size] using ha.1
  have h1:1<=(⟨x1.toArray⟩:ByteArray).size:=by simpa [ByteArray.size] using ha.2
  have hle:=Go.Lib.countB_le ⟨x1.toArray⟩ h1 _ ⟨x0.toArray⟩ (Nat.le_refl _)
  exact AA.strs hF (Tryz.strings_Split _ _ m w0 hs hm h1) (Go.Lib.splitB_all ⟨x1.toArray⟩ h1 0 _ _ rfl) (by omega)
 ·cases h
def strings_Cut (_N:Nat) (s sep:XL):Option (XL×XL×Bool):=if s.length < 4294967281 then some (Go.Lib.cut s sep) else none
theorem Io:Aj Tryz.prog 164:=fun _ _=>by kernel_rfl
theorem Jq (N:Nat) (w0:World) (F0:Mem) (hF:XN w0 F0) (hG:BB F0) (x0 x1:XL) (r:XL×XL×Bool) (h:strings_Cut N x0 x1=some r):
  Calls Tryz.prog 164 ([(.string ⟨(x0).toArray⟩),(.string ⟨(x1).toArray⟩)]:List Value).toArray w0 (AA w0 F0 fun _ v=>v=(.tuple #[(.string ⟨(r.1).toArray⟩),(.string ⟨(r.2.1).toArray⟩),(.bool r.2.2)])):=by
 unfold strings_Cut at h
 split at h
 ·rename_i ha
  cases h
  obtain ⟨m,hm⟩:=(hG w0 hF).2.2.1
  refine XI hF ((Tryz.strings_Cut ⟨x0.toArray⟩ ⟨x1.toArray⟩ m w0 (by simpa [ByteArray.size] using ha) hm).mono ?_) rfl
  rintro e w' ⟨rfl,n,rfl⟩
  exact ⟨rfl,Qi _ _⟩
 ·cases h
def strings_Repeat (_N:Nat) (s:XL) (n:Int):Option XL:=if 0<=n/\n<=9223372036854775807/\s.length * n.toNat<=140737488355328 then some (Go.Lib.repeatL s n.toNat) else none
theorem Kp:Aj Tryz.prog 186:=fun _ _=>by kernel_rfl
theorem K7 (N:Nat) (w0:World) (F0:Mem) (hF:XN w0 F0) (x0:XL) (x1:Int) (r:XL) (h:strings_Repeat N x0 x1=some r):
  Calls Tryz.prog 186 ([(.string ⟨(x0).toArray⟩),(.int .i64 x1)]:List Value).toArray w0 (AA w0 F0 fun _ v=>v=(.string ⟨(r).toArray⟩)):=by
 unfold strings_Repeat at h
 split at h
 ·rename_i ha
  cases h
  have e:(x1.toNat:Int)=x1:=by omega
  have:=Tryz.strings_Repeat ⟨x0.toArray⟩ x1.toNat w0 (by omega) (by simpa [ByteArray.size] using ha.2.2)
  rw [e] at this
  exact XI hF this rfl
 ·cases h
def strings_Join (_N:Nat) (l:List XL) (sep:XL):Option XL:=if l.length<=140737488355328/\(Go.Lib.join l sep).length<=140737488355328 then some (Go.Lib.join l sep) else none
theorem Cf:Aj Tryz.prog 84:=fun _ _=>by kernel_rfl
theorem CI (N:Nat) (w0:World) (F0:Mem) (hF:XN w0 F0) (x0:(List XL)) (h1:XM) (h0:Nat) (h2:LC x0.length h0) (h3:SlA AN F0 h1 x0) (x1 r:XL) (h:strings_Join N x0 x1=some r):
  Calls Tryz.prog 84 ([(.slice h1 x0.length h0),(.string ⟨(x1).toArray⟩)]:List Value).toArray w0 (AA w0 F0 fun _ v=>v=(.string ⟨(r).toArray⟩)):=by
 unfold strings_Join at h
 split at h
 ·rename_i ha
  cases h
  rcases h3 with rfl | ⟨b,o,C,E,fz,rfl,hC,hx⟩
  ·refine XI hF ((Tryz.strings_Join_none h1 h0 ⟨x1.toArray⟩ w0).mono ?_) rfl
   rintro e w' ⟨rfl,rfl⟩
   exact ⟨rfl,Below.refl _ _⟩
  ·have hb:=hF _ _ hC
   have hmap:(x0.map fun l=>(⟨l.toArray⟩:ByteArray)).map (·.data.toList)=x0:=by
    rw [List.map_map];conv=>rhs;rw [<-List.map_id x0]
    exact List.map_congr_left fun l _=>by simp
   have:=Tryz.strings_Join b o h0 (x0.map fun l=>⟨l.toArray⟩) ⟨x1.toArray⟩ w0 (fun j x hj=>by
    rw [List.getElem?_map] at hj
    cases hl:x0[j]? with
    | none=>rw [hl] at hj;cases hj
    | some l=>
     rw [hl] at hj
     cases hj
     have hc:Ao C (o + j * 1) 1=[.string ⟨l.toArray⟩]:=hx j l hl
     rw [Nat.mul_one] at hc
     have:=Iv.1 hc
     simp [World.cell?,hb,this]) (Bb hb) (by simpa using ha.1) (by simpa using h2.1) (by rw [hmap];exact ha.2)
   rw [hmap,List.length_map] at this
   exact XI hF this rfl
 ·cases h
def strconv_Itoa (_N:Nat) (n:Int):Option XL:=if -9223372036854775808<=n/\n<=9223372036854775807 then some (Go.Lib.itoa n) else none
theorem Bt:Aj Tryz.prog 85:=fun _ _=>by kernel_rfl
theorem BE (N:Nat) (w0:World) (F0:Mem) (hF:XN w0 F0) (hG:BB F0) (x0:Int) (r:XL) (h:strconv_Itoa N x0=some r):
  Calls Tryz.prog 85 ([(.int .i64 x0)]:List Value).toArray w0 (AA w0 F0 fun _ v=>v=(.string ⟨(r).toArray⟩)):=by
 unfold strconv_Itoa at h
 split at h
 ·rename_i ha
  cases h
  refine XI hF ((Tryz.strconv_Itoa x0 ha.1 ha.2 w0 (hG w0 hF).1).mono ?_) rfl
  rintro e w' ⟨rfl,k,os,rfl⟩
  exact ⟨rfl,rfl,rfl,rfl,by simp [grow,World.drewN],fun j hj=>by
   show ((w0.drewN k).heap++os)[j]? =_
   rw [Array.getElem?_append_left (show j < (w0.drewN k).heap.size from hj)];rfl⟩
 ·cases h
def B0 (_N:Nat) (s:XL):Option (Int×Bool):=if s.length<=281474976710656 then (match Go.Lib.atoiAll s with
 | .ok v=>some (v,false)
 | .range=>some (Go.Lib.atoiSat s,true)
 | _=>some (0,true)) else none
theorem HE:Aj Tryz.prog 163:=fun _ _=>by kernel_rfl
theorem Iz (N:Nat) (w0:World) (F0:Mem) (hF:XN w0 F0) (hG:BB F0) (x0:XL) (r:Int×Bool) (h:B0 N x0=some r):
  Calls Tryz.prog 163 ([(.string ⟨(x0).toArray⟩)]:List Value).toArray w0 (AA w0 F0 fun _ v=>∃ (h0:Value),v=(.tuple #[(.int .i64 r.1),h0])/\W3 r.2 h0):=by
 unfold B0 at h
 split at h
 ·rename_i ha
  have hsz:(⟨x0.toArray⟩:ByteArray).size<=281474976710656:=by simpa [ByteArray.size] using ha
  cases hv:Go.Lib.atoiAll x0 with
  | ok v=>
   rw [hv] at h
   cases h
   refine XI hF ((Tryz.strconv_Atoi_ok ⟨x0.toArray⟩ (by omega) v (by simpa using hv) w0).mono ?_) ⟨.nilIface,rfl,rfl⟩
   rintro e w' ⟨rfl,(rfl | ⟨t,rfl⟩)⟩
   ·exact ⟨rfl,Below.refl _ _⟩
   ·exact ⟨rfl,rfl,rfl,rfl,by rw [Go.Lib.bytesWorld_size];omega,fun j hj=>Go.Lib.bytesWorld_at_old w0 _ _ j hj⟩
  | range=>
   rw [hv] at h
   cases h
   obtain ⟨tp,p,hvar⟩:=(hG w0 hF).2.2.2.1
   refine (Tryz.strconv_Atoi_range_var ⟨x0.toArray⟩ hsz (by simpa using hv) tp p w0 hvar).mono ?_
   rintro e w' ⟨n,rfl,_,_,hb⟩
   exact ⟨_,F0,rfl,HS.below hF hb,_,rfl,_,_,rfl⟩
  | _=>
   rw [hv] at h
   cases h
   obtain ⟨tp,p,hvar⟩:=(hG w0 hF).2.2.2.2
   refine (Tryz.strconv_Atoi_syntax_var ⟨x0.toArray⟩ hsz (by simpa using hv) tp p w0 hvar).mono ?_
   rintro e w' ⟨n,rfl,_,_,hb⟩
   exact ⟨_,F0,rfl,HS.below hF hb,_,rfl,_,_,rfl⟩
 ·cases h
def strings_Index (_N:Nat) (s sub:XL):Option Int:=if s.length < 4294967281 then some (Go.Lib.index s sub) else none
theorem GS:Aj Tryz.prog 98:=fun _ _=>by kernel_rfl
theorem HI (N:Nat) (w0:World) (F0:Mem) (hF:XN w0 F0) (hG:BB F0) (x0 x1:XL) (r:Int) (h:strings_Index N x0 x1=some r):
  Calls Tryz.prog 98 ([(.string ⟨(x0).toArray⟩),(.string ⟨(x1).toArray⟩)]:List Value).toArray w0 (AA w0 F0 fun _ v=>v=(.int .i64 r)):=by
 unfold strings_Index at h
 split at h
 ·rename_i ha
  cases h
  obtain ⟨m,hm⟩:=(hG w0 hF).2.2.1
  exact XI hF ((Tryz.strings_Index ⟨x0.toArray⟩ ⟨x1.toArray⟩ m w0 (by simpa [ByteArray.size] using ha) hm).mono fun e w' ⟨he,hw⟩=>⟨he,hw ▸ Below.refl _ _⟩) rfl
 ·cases h
def strings_CutPrefix (_N:Nat) (s p:XL):Option (XL×Bool):=some (Go.Lib.trimPrefix s p,Go.Lib.hasPrefix s p)
theorem A4:Aj Tryz.prog 189:=fun _ _=>by kernel_rfl
theorem Ba (N:Nat) (w0:World) (F0:Mem) (hF:XN w0 F0) (x0 x1:XL) (r:XL×Bool) (h:strings_CutPrefix N x0 x1=some r):
  Calls Tryz.prog 189 ([(.string ⟨(x0).toArray⟩),(.string ⟨(x1).toArray⟩)]:List Value).toArray w0 (AA w0 F0 fun _ v=>v=(.tuple #[(.string ⟨(r.1).toArray⟩),(.bool r.2)])):=by
 cases h
 exact XI hF ((Tryz.strings_CutPrefix ⟨x0.toArray⟩ ⟨x1.toArray⟩ w0).mono fun e w' ⟨he,hw⟩=>⟨he,hw ▸ Below.refl _ _⟩) rfl
def strings_TrimSuffix (_N:Nat) (s p:XL):Option XL:=if s.length<=9223372036854775807 then some (Go.Lib.trimSuffix s p) else none
theorem HO:Aj Tryz.prog 117:=fun _ _=>by kernel_rfl
theorem Iy (N:Nat) (w0:World) (F0:Mem) (hF:XN w0 F0) (x0 x1 r:XL) (h:strings_TrimSuffix N x0 x1=some r):
  Calls Tryz.prog 117 ([(.string ⟨(x0).toArray⟩),(.string ⟨(x1).toArray⟩)]:List Value).toArray w0 (AA w0 F0 fun _ v=>v=(.string ⟨(r).toArray⟩)):=by
 unfold strings_TrimSuffix at h
 split at h
 ·rename_i ha
  cases h
  exact XI hF ((Tryz.strings_TrimSuffix ⟨x0.toArray⟩ ⟨x1.toArray⟩ w0 (by simpa [ByteArray.size] using ha)).mono fun e w' ⟨he,hw⟩=>⟨he,hw ▸ Below.refl _ _⟩) rfl
 ·cases h
end
def Fd (N:Nat) (x0:XL):Option Bool:=
 (((Fc N x0 4 (fun y0=>Dw N y0)).bind fun h0=>(bif h0 then ((Cj N x0 (fun y0=>BR N y0)).bind fun h1=>some (decide (h1>=0))) else some false)).bind fun h2=>some h2)
theorem Iu:Aj Tryz.prog 225:=fun _ _=>by kernel_rfl
theorem JQ (N:Nat) (w0:World) (F0:Mem) (hF:XN w0 F0) (x0:XL) (r:Bool) (h:Fd N x0=some r):
  Calls Tryz.prog 225 ([(sv x0)]:List Value).toArray w0 (AA w0 F0 fun F' v=>v=(.bool r)):=by
 have h4:=Xs hF
 refine Go 10 Tryz.func225<|Sq (Rg [0] ?_)
 refine Vs 1<|Nss (Rg (rG 8) ?_)
 obtain ⟨h5,h7,h8⟩:=bS h
 refine Xw (fun f w=>∃ (F1:Mem),HS w0 F0 w F1 []/\Xq F0 F1/\FI f [] [(2,(.bool h5))]) ?_ ?_
 ·refine Vs 1 ?_
  obtain ⟨ho,h9,ha⟩:=bS h7
  refine Cl' E8 h4 (FN N w0 F0 h4.pers x0 4 265 [] [] (fun y0=>Dw N y0) NQ (fun w1 F1 y0 r hb h1 h2=>Pj N w1 F1 h1 y0 r h2) _ h9) ?_
  rintro _ F2 hc h3 h6 rfl
  refine Vs 1<|Sp ha (fun h0 he=>?_) (fun h0 hf=>?_)
  ·refine Vgs h0 1 ?_
   obtain ⟨hp,hg,hh⟩:=bS he
   refine Cg h0 Im h3 (I8 N hc F2 h3.pers x0 264 [] (fun y0=>BR N y0) ET (fun w1 F1 y0 r hb h1 h2=>Fw N w1 F1 h1 y0 r h2) _ hg) ?_
   rintro _ F3 hq hl hm rfl
   refine Vgs h0 1<|Pk1 h0<|Vs 1 ?_
   obtain rfl:=Aa hh
   exact Xm ⟨rfl,F3,hl,(h6.t hm),fI⟩
  ·refine Ss h0 3 ?_
   refine Pk0 h0<|Vs 1 ?_
   obtain rfl:=Aa hf
   exact Xm ⟨rfl,F2,h3,h6,fI⟩
 ·rintro f hr ⟨F1,hn,ht,⟨_,rfl⟩⟩
  refine Ab<|Rt ?_
  obtain rfl:=Aa h8
  exact Re [(.bool h5)] hn rfl
def BM (N:Nat) (x0:XL) (x1:(Int->Option Bool)):Option Int:=
 ((B7 N x0 x1 true).bind fun h0=>some h0)
theorem GB:Aj Tryz.prog 263:=fun _ _=>by kernel_rfl
theorem GW (N:Nat) (w0:World) (F0:Mem) (hF:XN w0 F0) (hG:BB F0) (x0:XL) (h0:FuncId) (h1:List Value) (x1:Int->Option Bool) (h3:Aj Tryz.prog h0) (h4:LM F0 h0 [] h1 x1) (r:Int) (h:BM N x0 x1=some r):
  Calls Tryz.prog 263 ([(sv x0),(.func (.func h0) ([]:List Value).toArray h1.toArray)]:List Value).toArray w0 (AA w0 F0 fun F' v=>v=(vi r)):=by
 have h2:=Xs hF
 refine Go 8 Tryz.func263<|Sq (Rg [0] ?_)
 refine Vs 1<|Nss (Rg (rG 4) ?_)
 refine Vs 2 ?_
 obtain ⟨h5,h6,h7⟩:=bS h
 refine Cl' GA h2 (GV N w0 F0 h2.pers hG x0 h0 h1 x1 h3 (fun w1 F1 y0 r h8 h9 ha=>h4 w1 F1 y0 r h8 h9 ha) true _ h6) ?_
 rintro _ F1 hc hb he rfl
 refine Vs 1<|Nt<|Rt ?_
 obtain rfl:=Aa h7
 exact Re [(vi h5)] hb rfl
def KK (N:Nat) (x0:XL):Option (XL×XL×Bool):=
 ((BM N x0 (fun y0=>Bj N y0)).bind fun h1=>(((MC x0 0 (W64 (h1 + 1))).bind fun h2=>((MC x0 (W64 (h1 + 1)) (x0.length:Int)).bind fun h3=>some (h2,h3))).bind fun h0=>((bif (decide ((W64 (h1 + 1)) > 0)) then ((Fd N h0.1).bind fun h4=>(bif h4 then ((Fc N h0.2 4 (fun y0=>BR N y0)).bind fun h5=>some h5) else some false)) else some false).bind fun h6=>some (h0.1,h0.2,h6))))
theorem P9:Aj Tryz.prog 222:=fun _ _=>by kernel_rfl
theorem Ra (N:Nat) (w0:World) (F0:Mem) (hF:XN w0 F0) (hG:BB F0) (x0:XL) (r:(XL×XL×Bool)) (h:KK N x0=some r):
  Calls Tryz.prog 222 ([(sv x0)]:List Value).toArray w0 (AA w0 F0 fun F' v=>v=(.tuple #[(sv r.1),(sv r.2.1),(.bool r.2.2)])):=by
 have h8:=Xs hF
 refine Go 27 Tryz.func222<|Sq (Rg [0,1,2] ?_)
 refine Vs 3<|Nss (Rg (rG 4) ?_)
 refine Vs 1 ?_
 obtain ⟨h3,he,hf⟩:=bS h
 refine Cl' GB h8 (GW N w0 F0 h8.pers hG x0 199 [] (fun y0=>Bj N y0) Ft (fun w1 F1 y0 r hg h4 h5=>Gs N w1 F1 h4 y0 r h5) _ he) ?_
 rintro _ F1 b9 hh ba rfl
 refine Vs 2<|Nss ?_
 obtain ⟨h0,hl,hm⟩:=bS hf
 refine RD 8 8 [] [] hh (fun f w=>∃ (F2:Mem),HS w0 F0 w F2 []/\Xq F1 F2/\FI f [] [(2,(sv h0.1)),(3,(sv h0.2)),(5,(vi (W64 (h3 + 1))))]) (fun bb hn=>?_) ?_
 ·refine Dv [0,1] ?_
  obtain ⟨h9,ho,hp⟩:=bS hl
  refine Dt 2 11 9 (sv h9) (fun _ hq=>JZ (t:=9) (x:=(.tmp 9)) (lo:=none) (hi:=(some (.tmp 10))) (a:=x0) (il:=0) (ih:=(W64 (h3 + 1))) (v:=h9) rfl (by kernel_rfl) rfl rfl ho)<|Dv [3,4] ?_
  obtain ⟨ha,hr,ht⟩:=bS hp
  refine Dt 5 14 9 (sv ha) (fun _ hq=>JZ (t:=9) (x:=(.tmp 12)) (lo:=(some (.tmp 13))) (hi:=none) (a:=x0) (il:=(W64 (h3 + 1))) (ih:=(x0.length:Int)) (v:=ha) rfl (by kernel_rfl) rfl rfl hr)<|Dv [6,7] ?_
  obtain rfl:=Aa ht
  exact XD (by kernel_rfl) ⟨F1,hn,(Xr _),fI⟩
 ·rintro f hu ⟨F2,h6,bc,⟨_,rfl⟩⟩
  refine Ab<|Sq (Rg (rG 15) ?_)
  obtain ⟨hb,hv,hw⟩:=bS hm
  refine Xw (fun f w=>∃ (F3:Mem),HS w0 F0 w F3 []/\Xq F2 F3/\FI f [] [(2,(sv h0.1)),(3,(sv h0.2)),(4,(.bool hb))]) ?_ ?_
  ·refine Vs 5 ?_
   refine Sp hv (fun h1 hx=>?_) (fun h1 hy=>?_)
   ·refine Vgs h1 1 ?_
    obtain ⟨bd,hz,b0⟩:=bS hx
    refine Cg h1 Iu h6 (JQ N hu F2 h6.pers h0.1 _ hz) ?_
    rintro _ F4 b1 h7 hc rfl
    refine Pk1 h1<|Vs 1<|Sp b0 (fun h2 b2=>?_) (fun h2 b3=>?_)
    ·refine Vgs h2 1 ?_
     obtain ⟨be,b4,b5⟩:=bS b2
     refine Cg h2 E8 h7 (FN N b1 F4 h7.pers h0.2 4 264 [] [] (fun y0=>BR N y0) ET (fun w1 F1 y0 r hg h4 h5=>Fw N w1 F1 h4 y0 r h5) _ b4) ?_
     rintro _ F5 bf b6 b7 rfl
     refine Pk1 h2<|Vs 3 ?_
     obtain rfl:=Aa b5
     exact Xm ⟨rfl,F5,b6,(hc.t b7),fI⟩
    ·refine Ss h2 2 ?_
     refine Pk0 h2<|Vs 3 ?_
     obtain rfl:=Aa b3
     exact Xm ⟨rfl,F4,h7,hc,fI⟩
   ·refine Ss h1 2 ?_
    refine Pk0 h1<|Vs 1<|Ss (rfl:false=false) 2<|Pk0 (rfl:false=false)<|Vs 3 ?_
    obtain rfl:=Aa hy
    exact Xm ⟨rfl,F2,h6,(Xr _),fI⟩
  ·rintro f bg ⟨F3,b8,bh,⟨_,rfl⟩⟩
   refine Ab<|Rt ?_
   obtain rfl:=Aa hw
   exact Re [(sv h0.1),(sv h0.2),(.bool hb)] b8 rfl
def Az (N:Nat) (x0:XL):Option (Bg×Bool):=
 ((KK N x0).bind fun h0=>some (({Area:=([]:XL),Prefix:=h0.1,Suffix:=h0.2.1,Stroke:=([]:XL)}:Bg),h0.2.2))
theorem EA:Aj Tryz.prog 221:=fun _ _=>by kernel_rfl
theorem EW (N:Nat) (w0:World) (F0:Mem) (hF:XN w0 F0) (hG:BB F0) (x0:XL) (r:(Bg×Bool)) (h:Az N x0=some r):
  Calls Tryz.prog 221 ([(sv x0)]:List Value).toArray w0 (AA w0 F0 fun F' v=>v=(.tuple #[(.agg (CQ r.1)),(.bool r.2)])):=by
 have h3:=Xs hF
 refine Go 17 Tryz.func221<|Sq (Rg [0,1] ?_)
 refine Al' 186 #[(sv (([]:XL))),(sv (([]:XL))),(sv (([]:XL))),(sv (([]:XL)))] h3 (fun h4 h5 h1=>?_)
 refine Vs 1<|Nss (Rg (rG 9) ?_)
 refine Vs 1 ?_
 obtain ⟨h0,h6,h7⟩:=bS h
 refine Cl' P9 h1 (Ra N h5 F0 h1.pers hG x0 _ h6) ?_
 rintro _ F1 h9 h8 ha rfl
 refine Vs 7<|Nss (Rg (rG 6) ?_)
 refine Vs 4<|St0 #[(sv (([]:XL))),(sv h0.1),(sv h0.2.1),(sv (([]:XL)))] h8 (fun hb h2=>?_)
 refine Vs 1<|Nt<|Rt ?_
 obtain rfl:=Aa h7
 exact ⟨rfl,(.tuple #[(.agg #[(sv (([]:XL))),(sv h0.1),(sv h0.2.1),(sv (([]:XL)))]),(.bool h0.2.2)]),AR (l:=[.cell 2 186,.tmp 3]) (by kernel_rfl) (vs:=[(.agg #[(sv (([]:XL))),(sv h0.1),(sv h0.2.1),(sv (([]:XL)))]),(.bool h0.2.2)]) ⟨h4,0,rfl,Am (t:=186) (g:=true) (s:=4) (by kernel_rfl) h2.at0 rfl (by decide),⟨rfl,trivial⟩⟩,(.tuple #[(.agg #[(sv (([]:XL))),(sv h0.1),(sv h0.2.1),(sv (([]:XL)))]),(.bool h0.2.2)]),F1,rfl,h2.clear,rfl⟩
def Ds (N:Nat) (x0:(List XL)) (z0:(XL->Option (Bg×Bool))):Option (Bg×Bool):=
 (((idx x0 0).bind fun h2=>((z0 h2).bind fun h0=>some (h0.2,h0.1.Area,h0.1.Prefix,h0.1.Suffix,h0.1.Stroke))).bind fun h1=>some (({Area:=h1.2.1,Prefix:=h1.2.2.1,Suffix:=h1.2.2.2.1,Stroke:=h1.2.2.2.2}:Bg),h1.1))
theorem Nv:Aj Tryz.prog 223:=fun _ _=>by kernel_rfl
theorem NX (N:Nat) (w0:World) (F0:Mem) (hF:XN w0 F0) (x0:(List XL)) (h6:XM) (h7:Nat) (b0:LC x0.length h7) (hc:SlA AN F0 h6 x0) (h8:Nat) (z0:(XL->Option (Bg×Bool))) (h3:FuncId) (h1 h2:List Value) (he:Aj Tryz.prog h3) (hf:IH F0 h3 h1 h2 z0) (hg:F0 h8=some (oc #[(.func (.func h3) h1.toArray h2.toArray)] 188)) (r:(Bg×Bool)) (h:Ds N x0 z0=some r):
  Calls Tryz.prog 223 ([(sL h6 x0 h7),(pt h8 0)]:List Value).toArray w0 (AA w0 F0 fun F' v=>v=(.tuple #[(.agg (CQ r.1)),(.bool r.2)])):=by
 have hh:=Xs hF
 refine Go 12 Tryz.func223<|Sq (Rg [0,1] ?_)
 refine Al' 186 #[(sv (([]:XL))),(sv (([]:XL))),(sv (([]:XL))),(sv (([]:XL)))] hh (fun h4 b1 hl=>?_)
 refine Vs 1<|Nss ?_
 obtain ⟨h0,hm,hn⟩:=bS h
 refine RD 9 9 [] [] hl (fun f w=>∃ (F1:Mem),HS w0 F0 w F1 [(sb h4 #[(sv h0.2.1),(sv h0.2.2.1),(sv h0.2.2.2.1),(sv h0.2.2.2.2)] 186)]/\Xq F0 F1/\FI f [] [(3,(pt h4 0)),(4,(.bool h0.1))]) (fun ho h9=>?_) ?_
 ·refine Dl 0 (fun _ hq=>(hq.1.1 _ _ hg)) ?_
  refine Dv [1] ?_
  obtain ⟨h5,hp,hr⟩:=bS hm
  obtain ⟨ht,hx36'⟩:=Ap hp
  obtain ⟨b2,b3,b4,b5,b6,rfl,hF45,hE46⟩:=Xy hc hx36'
  have hu:=hE46 _ _ hx36'
  refine Di 2 ht<|Dx 3 0 (fun _ hq=>hq.1.1 _ _ hF45) hu<|D1 4 ?_
  obtain ⟨hv,hw,hx⟩:=bS hr
  refine XC (l':=[true,true,true,true,true,false,false,false,false]) (zd:=true) (by kernel_rfl) (by kernel_rfl) (by kernel_rfl) (dst:=(some 9)) (ty:=187) (g:=none) (by kernel_rfl) rfl (f0:=(.tmp 5)) (aos:=#[(.tmp 8)]) (ats:=#[9]) (fid:=h3) (first:=h1.toArray) (cap:=h2.toArray) (args:=(h1++(([(sv h5)]:List Value)++h2))) rfl he (Ee (l:=[(sv h5)]) (fi:=h1) (k:=h2) rfl) h9 (hf ho F0 h5 _ (Xr _) h9.pers hw) ?_
  rintro _ F2 b7 hy ha rfl
  refine Dv [5,6]<|D1 7<|GJ (CQ hv.1) hy ha (fun b8 hz=>?_)
  refine Dv [8] ?_
  obtain rfl:=Aa hx
  exact XD (by kernel_rfl) ⟨F2,hz,ha,fI⟩
 ·rintro f b9 ⟨F1,hb,ba,⟨_,rfl⟩⟩
  refine Ab<|Rt ?_
  obtain rfl:=Aa hn
  exact ⟨rfl,(.tuple #[(.agg #[(sv h0.2.1),(sv h0.2.2.1),(sv h0.2.2.2.1),(sv h0.2.2.2.2)]),(.bool h0.1)]),AR (l:=[.cell 3 186,.tmp 4]) (by kernel_rfl) (vs:=[(.agg #[(sv h0.2.1),(sv h0.2.2.1),(sv h0.2.2.2.1),(sv h0.2.2.2.2)]),(.bool h0.1)]) ⟨h4,0,rfl,Am (t:=186) (g:=true) (s:=4) (by kernel_rfl) hb.at0 rfl (by decide),⟨rfl,trivial⟩⟩,(.tuple #[(.agg #[(sv h0.2.1),(sv h0.2.2.1),(sv h0.2.2.2.1),(sv h0.2.2.2.2)]),(.bool h0.1)]),F1,rfl,hb.clear,rfl⟩
def Dr (N:Nat) (x0:(List XL)) (z0:(XL->Option (Bg×Bool))):Option (Bg×Bool):=
 (((idx x0 1).bind fun h4=>((z0 h4).bind fun h1=>some (h1.2,h1.1.Area,h1.1.Prefix,h1.1.Suffix,h1.1.Stroke))).bind fun h0=>((idx x0 0).bind fun h3=>((bif h0.1 then ((idx x0 0).bind fun h5=>((Fd N h5).bind fun h6=>(bif h6 then ((idx x0 0).bind fun h7=>((idx x0 1).bind fun h8=>some ((decide ((h7.length:Int) < (h8.length:Int))),h3,h0.2.2.1,h0.2.2.2.1,h0.2.2.2.2))) else some (false,h3,h0.2.2.1,h0.2.2.2.1,h0.2.2.2.2)))) else some (false,h3,h0.2.2.1,h0.2.2.2.1,h0.2.2.2.2)).bind fun h2=>some (({Area:=h2.2.1,Prefix:=h2.2.2.1,Suffix:=h2.2.2.2.1,Stroke:=h2.2.2.2.2}:Bg),h2.1))))
theorem Nu:Aj Tryz.prog 224:=fun _ _=>by kernel_rfl
theorem NW (N:Nat) (w0:World) (F0:Mem) (hF:XN w0 F0) (x0:(List XL)) (hl:XM) (h8:Nat) (cn:LC x0.length h8) (hr:SlA AN F0 hl x0) (ht:Nat) (z0:(XL->Option (Bg×Bool))) (he:FuncId) (h5 h6:List Value) (hu:Aj Tryz.prog he) (hv:IH F0 he h5 h6 z0) (b2:F0 ht=some (oc #[(.func (.func he) h5.toArray h6.toArray)] 188)) (r:(Bg×Bool)) (h:Dr N x0 z0=some r):
  Calls Tryz.prog 224 ([(sL hl x0 h8),(pt ht 0)]:List Value).toArray w0 (AA w0 F0 fun F' v=>v=(.tuple #[(.agg (CQ r.1)),(.bool r.2)])):=by
 have b3:=Xs hF
 refine Go 38 Tryz.func224<|Sq (Rg [0,1] ?_)
 refine Al' 186 #[(sv (([]:XL))),(sv (([]:XL))),(sv (([]:XL))),(sv (([]:XL)))] b3 (fun h9 co b4=>?_)
 refine Vs 1<|Nss ?_
 obtain ⟨h0,b5,b6⟩:=bS h
 refine RD 11 11 [(sb h9 #[(sv (([]:XL))),(sv (([]:XL))),(sv (([]:XL))),(sv (([]:XL)))] 186)] [] b4 (fun f w=>∃ (F1:Mem) (hg:Nat),HS w0 F0 w F1 [(sb hg #[(sv h0.2.1),(sv h0.2.2.1),(sv h0.2.2.2.1),(sv h0.2.2.2.2)] 186),(sb h9 #[(sv (([]:XL))),(sv (([]:XL))),(sv (([]:XL))),(sv (([]:XL)))] 186)]/\Xq F0 F1/\FI f [] [(0,(sL hl x0 h8)),(3,(pt h9 0)),(5,(pt hg 0)),(6,(.bool h0.1))]) (fun b7 hm=>?_) ?_
 ·refine Dl 0 (fun _ hq=>(hq.1.1 _ _ b2)) ?_
  refine Dv [1] ?_
  obtain ⟨ha,b8,hw⟩:=bS b5
  obtain ⟨b9,hx39'⟩:=Ap b8
  obtain ⟨cp,cq,cr,ct,cu,rfl,hF48,hE49⟩:=Xy hr hx39'
  have ba:=hE49 _ _ hx39'
  refine Di 2 b9<|Dx 3 0 (fun _ hq=>hq.1.1 _ _ hF48) ba<|Xz (i:=4) (j:=8) (by kernel_rfl) ?_ ?_
  ·obtain ⟨bb,bc,bd⟩:=bS hw
   refine XC (l':=[true,true,true,true,true,false,false,false,false,false,false]) (zd:=true) (by kernel_rfl) (by kernel_rfl) (by kernel_rfl) (dst:=(some 12)) (ty:=187) (g:=none) (by kernel_rfl) rfl (f0:=(.tmp 8)) (aos:=#[(.tmp 11)]) (ats:=#[9]) (fid:=he) (first:=h5.toArray) (cap:=h6.toArray) (args:=(h5++(([(sv ha)]:List Value)++h6))) rfl hu (Ee (l:=[(sv ha)]) (fi:=h5) (k:=h6) rfl) hm (hv b7 F0 ha _ (Xr _) hm.pers bc) ?_
   rintro _ F2 cv be hn rfl
   refine Dv [5,6,7]<|D1 8<|DAl 186 #[(sv (([]:XL))),(sv (([]:XL))),(sv (([]:XL))),(sv (([]:XL)))] be hn (fun bf cw bg=>?_)
   refine D1 9<|GJ (CQ bb.1) bg hn (fun cx bh=>?_)
   refine Dv [10] ?_
   obtain rfl:=Aa bd
   exact XD (by kernel_rfl) ⟨F2,bf,bh,hn,fI⟩
  ·refine DAl 186 #[(sv (([]:XL))),(sv (([]:XL))),(sv (([]:XL))),(sv (([]:XL)))] hm (Xr _) (fun bi bj hx=>?_)
   refine D1 4 ?_
   obtain ⟨bk,bl,bm⟩:=bS hw
   refine XC (l':=[true,true,true,true,true,false,false,false,true,false,false]) (zd:=true) (by kernel_rfl) (by kernel_rfl) (by kernel_rfl) (dst:=(some 12)) (ty:=187) (g:=none) (by kernel_rfl) rfl (f0:=(.tmp 8)) (aos:=#[(.tmp 11)]) (ats:=#[9]) (fid:=he) (first:=h5.toArray) (cap:=h6.toArray) (args:=(h5++(([(sv ha)]:List Value)++h6))) rfl hu (Ee (l:=[(sv ha)]) (fi:=h5) (k:=h6) rfl) hx (hv bj F0 ha _ (Xr _) hx.pers bl) ?_
   rintro _ F3 cy bn hy rfl
   refine Dv [5,6,7]<|D1 9<|GJ (CQ bk.1) bn hy (fun cz bo=>?_)
   refine Dv [10] ?_
   obtain rfl:=Aa bm
   exact XD (by kernel_rfl) ⟨F3,bi,bo,hy,fI⟩
 ·rintro f d0 ⟨F1,hg,hz,bp,⟨_,rfl⟩⟩
  refine Ab<|Sq (Rg (rG 5) ?_)
  refine Vs 1 ?_
  obtain ⟨hf,bq,br⟩:=bS b6
  obtain ⟨bs,hx79'⟩:=Ap bq
  obtain ⟨h3,h4,d1,d2,d3,rfl,hF88,hE89⟩:=Xy (Xt hr bp) hx79'
  have bt:=hE89 _ _ hx79'
  refine Ix bs<|Lx 0 (hz.pers _ _ hF88) bt<|Vs 1<|St0 #[(sv hf),(sv h0.2.2.1),(sv h0.2.2.2.1),(sv h0.2.2.2.2)] hz (fun d4 bu=>?_)
  refine Nss ?_
  obtain ⟨h1,bv,bw⟩:=bS br
  refine RD 21 21 [(sb hg #[(sv hf),(sv h0.2.2.1),(sv h0.2.2.2.1),(sv h0.2.2.2.2)] 186)] [] bu (fun f w=>∃ (F4:Mem),HS w0 F0 w F4 [(sb h9 #[(sv h1.2.1),(sv h1.2.2.1),(sv h1.2.2.2.1),(sv h1.2.2.2.2)] 186)]/\Xq F1 F4/\FI f [] [(3,(pt h9 0)),(4,(.bool h1.1))]) (fun bx ho=>?_) ?_
  ·refine Dl 0 (fun _ hq=>(hq.1.2 0 _ _ rfl)) ?_
   refine Dvl [1,2] (tf 3 18)<|Sd bv (fun h7 bz=>?_) (fun h7 c0=>?_)
   ·refine Dgl 3 22 55 _ (tf 4 17) 2 true 21 h7 (fun _ hq=>mv 0 (.slice (some ⟨h3,h4,none⟩) x0.length h8)) ?_
    obtain ⟨hp,c1,c3⟩:=bS bz
    obtain ⟨c4,hx109'⟩:=Ap c1
    have c5:=hE89 _ _ hx109'
    refine Dgl 4 23 0 (.pointer (some ⟨h3,(h4 + (0:Int).toNat * 1),none⟩)) (tf 5 16) 2 true 21 h7 (fun _ hq=>Ca (t:=55) (x:=(.tmp 22)) (y:=(.const (vi 0))) (b:=h3) (o:=h4) (E:=9) (s:=1) (by_:=16) rfl rfl (by kernel_rfl) c4)<|Dgl 5 24 9 _ (tf 6 15) 2 true 21 h7 (fun _ hq=>lx 9 23 0 1 false 1 (sv hp) (hq.1.1 _ _ hF88) c5)<|D1 6 ?_
    obtain ⟨c6,c7,c8⟩:=bS c3
    refine XC (l':=[true,true,true,true,true,true,true,false,false,false,false,false,false,false,false,false,false,false,false,false,false]) (zd:=true) (by kernel_rfl) (by kernel_rfl) (by kernel_rfl) (dst:=(some 25)) (ty:=4) (g:=(some (2,true))) (by kernel_rfl) (Ih (d:=21) (by kernel_rfl) rfl h7) (f0:=(.func 225)) (aos:=#[(.tmp 24)]) (ats:=#[9]) (fid:=225) (first:=#[]) (cap:=#[]) (args:=[(sv hp)]) rfl Iu rfl ho (JQ N bx F1 ho.pers hp _ c7) ?_
    rintro _ F5 d6 b0 hh rfl
    refine Dtl 7 26 4 _ (tf 8 13) (fun _ hq=>p1 21 (.tmp 25) (.const (.bool false)) (.bool c6) h7)<|Dvl [8] (tf 9 12)<|Sd c8 (fun h2 c9=>?_) (fun h2 ca=>?_)
    ·refine Dgl 9 28 55 _ (tf 10 11) 8 true 27 h2 (fun _ hq=>mv 0 (.slice (some ⟨h3,h4,none⟩) x0.length h8)) ?_
     obtain ⟨hb,cb,cc⟩:=bS c9
     obtain ⟨cd,hx126'⟩:=Ap cb
     have ce:=hE89 _ _ hx126'
     refine Dgl 10 29 0 (.pointer (some ⟨h3,(h4 + (0:Int).toNat * 1),none⟩)) (tf 11 10) 8 true 27 h2 (fun _ hq=>Ca (t:=55) (x:=(.tmp 28)) (y:=(.const (vi 0))) (b:=h3) (o:=h4) (E:=9) (s:=1) (by_:=16) rfl rfl (by kernel_rfl) cd)<|Dgl 11 30 9 _ (tf 12 9) 8 true 27 h2 (fun _ hq=>lx 9 29 0 1 false 1 (sv hb) (hq.1.1 _ _ hF88) ce)<|Dgl 12 31 3 (vi (hb.length:Int)) (tf 13 8) 8 true 27 h2 (fun _ hq=>MJ (x:=(.tmp 30)) (ats:=#[9]) (t:=9) (a:=hb) rfl rfl (by kernel_rfl))<|Dgl 13 32 55 _ (tf 14 7) 8 true 27 h2 (fun _ hq=>mv 0 (.slice (some ⟨h3,h4,none⟩) x0.length h8)) ?_
     obtain ⟨hc,cf,cg⟩:=bS cc
     obtain ⟨ch,hx132'⟩:=Ap cf
     have ci:=hE89 _ _ hx132'
     refine Dgl 14 33 0 (.pointer (some ⟨h3,(h4 + (1:Int).toNat * 1),none⟩)) (tf 15 6) 8 true 27 h2 (fun _ hq=>Ca (t:=55) (x:=(.tmp 32)) (y:=(.const (vi 1))) (b:=h3) (o:=h4) (E:=9) (s:=1) (by_:=16) rfl rfl (by kernel_rfl) ch)<|Dgl 15 34 9 _ (tf 16 5) 8 true 27 h2 (fun _ hq=>lx 9 33 0 1 false 1 (sv hc) (hq.1.1 _ _ hF88) ci)<|Dgl 16 35 3 (vi (hc.length:Int)) (tf 17 4) 8 true 27 h2 (fun _ hq=>MJ (x:=(.tmp 34)) (ats:=#[9]) (t:=9) (a:=hc) rfl rfl (by kernel_rfl))<|Dgl 17 36 4 (.bool (decide ((hb.length:Int) < (hc.length:Int)))) (tf 18 3) 8 true 27 h2 (fun _ hq=>J0 (t:=3) (t':=3) (x:=(.tmp 31)) (y:=(.tmp 35)) (k:=.i64) (a:=(hb.length:Int)) (b:=(hc.length:Int)) rfl rfl)<|Dtl 18 37 4 _ (tf 19 2) (fun _ hq=>p1 27 (.tmp 36) (.const (.bool false)) (.bool (decide ((hb.length:Int) < (hc.length:Int)))) h2)<|D1 19<|Mh #[(sv hf),(sv h0.2.2.1),(sv h0.2.2.2.1),(sv h0.2.2.2.2)] b0 hh (fun d7 cj=>?_)
     refine Dvl [20] (tf 21 0) ?_
     obtain rfl:=Aa cg
     exact XD (by kernel_rfl) ⟨F5,cj.dr0,hh,fI⟩
    ·refine Dkl [(9,28),(10,29),(11,30),(12,31),(13,32),(14,33)] 8 true 27 h2 (tf 15 6) ?_
     refine Dkl [(15,34),(16,35),(17,36)] 8 true 27 h2 (tf 18 3)<|Dtl 18 37 4 _ (tf 19 2) (fun _ hq=>p0 27 (.tmp 36) (.const (.bool false)) (.bool false) h2)<|D1 19<|Mh #[(sv hf),(sv h0.2.2.1),(sv h0.2.2.2.1),(sv h0.2.2.2.2)] b0 hh (fun d8 cl=>?_)
     refine Dvl [20] (tf 21 0) ?_
     obtain rfl:=Aa ca
     exact XD (by kernel_rfl) ⟨F5,cl.dr0,hh,fI⟩
   ·refine Dkl [(3,22),(4,23),(5,24),(6,25)] 2 true 21 h7 (tf 7 14) ?_
    refine Dtl 7 26 4 _ (tf 8 13) (fun _ hq=>p0 21 (.tmp 25) (.const (.bool false)) (.bool false) h7)<|Dvl [8] (tf 9 12)<|Dkl [(9,28),(10,29),(11,30),(12,31),(13,32),(14,33)] 8 true 27 rfl (tf 15 6)<|Dkl [(15,34),(16,35),(17,36)] 8 true 27 rfl (tf 18 3)<|Dtl 18 37 4 _ (tf 19 2) (fun _ hq=>p0 27 (.tmp 36) (.const (.bool false)) (.bool false) rfl)<|D1 19<|Mh #[(sv hf),(sv h0.2.2.1),(sv h0.2.2.2.1),(sv h0.2.2.2.2)] ho (Xr _) (fun d9 cm=>?_)
    refine Dvl [20] (tf 21 0) ?_
    obtain rfl:=Aa c0
    exact XD (by kernel_rfl) ⟨F1,cm.dr0,(Xr _),fI⟩
  ·rintro f da ⟨F4,b1,db,⟨_,rfl⟩⟩
   refine Ab<|Rt ?_
   obtain rfl:=Aa bw
   exact ⟨rfl,(.tuple #[(.agg #[(sv h1.2.1),(sv h1.2.2.1),(sv h1.2.2.2.1),(sv h1.2.2.2.2)]),(.bool h1.1)]),AR (l:=[.cell 3 186,.tmp 4]) (by kernel_rfl) (vs:=[(.agg #[(sv h1.2.1),(sv h1.2.2.1),(sv h1.2.2.2.1),(sv h1.2.2.2.2)]),(.bool h1.1)]) ⟨h9,0,rfl,Am (t:=186) (g:=true) (s:=4) (by kernel_rfl) b1.at0 rfl (by decide),⟨rfl,trivial⟩⟩,(.tuple #[(.agg #[(sv h1.2.1),(sv h1.2.2.1),(sv h1.2.2.2.1),(sv h1.2.2.2.2)]),(.bool h1.1)]),F4,rfl,b1.clear,rfl⟩
def D9 (N:Nat) (x0:XL):Option Bool:=
 (((Fc N x0 4 (fun y0=>BR N y0)).bind fun h0=>(bif h0 then some true else ((Fc N x0 1 (fun y0=>Bj N y0)).bind fun h1=>some h1))).bind fun h2=>some h2)
theorem Jp:Aj Tryz.prog 227:=fun _ _=>by kernel_rfl
theorem KH (N:Nat) (w0:World) (F0:Mem) (hF:XN w0 F0) (x0:XL) (r:Bool) (h:D9 N x0=some r):
  Calls Tryz.prog 227 ([(sv x0)]:List Value).toArray w0 (AA w0 F0 fun F' v=>v=(.bool r)):=by
 have h4:=Xs hF
 refine Go 9 Tryz.func227<|Sq (Rg [0] ?_)
 refine Vs 1<|Nss (Rg (rG 7) ?_)
 obtain ⟨h5,h7,h8⟩:=bS h
 refine Xw (fun f w=>∃ (F1:Mem),HS w0 F0 w F1 []/\Xq F0 F1/\FI f [] [(2,(.bool h5))]) ?_ ?_
 ·refine Vs 1 ?_
  obtain ⟨ho,h9,ha⟩:=bS h7
  refine Cl' E8 h4 (FN N w0 F0 h4.pers x0 4 264 [] [] (fun y0=>BR N y0) ET (fun w1 F1 y0 r hb h1 h2=>Fw N w1 F1 h1 y0 r h2) _ h9) ?_
  rintro _ F2 hc h3 h6 rfl
  refine Vs 1<|Sp ha (fun h0 he=>?_) (fun h0 hf=>?_)
  ·refine Ss h0 2 ?_
   refine Pk1 h0<|Vs 1 ?_
   obtain rfl:=Aa he
   exact Xm ⟨rfl,F2,h3,h6,fI⟩
  ·refine Vgs h0 1 ?_
   obtain ⟨hp,hg,hh⟩:=bS hf
   refine Cg h0 E8 h3 (FN N hc F2 h3.pers x0 1 199 [] [] (fun y0=>Bj N y0) Ft (fun w1 F1 y0 r hb h1 h2=>Gs N w1 F1 h1 y0 r h2) _ hg) ?_
   rintro _ F3 hq hl hm rfl
   refine Pk0 h0<|Vs 1 ?_
   obtain rfl:=Aa hh
   exact Xm ⟨rfl,F3,hl,(h6.t hm),fI⟩
 ·rintro f hr ⟨F1,hn,ht,⟨_,rfl⟩⟩
  refine Ab<|Rt ?_
  obtain rfl:=Aa h8
  exact Re [(.bool h5)] hn rfl
def Dq (N:Nat) (x0:(List XL)) (z0:(XL->Option (Bg×Bool))):Option (Bg×Bool):=
 (((idx x0 0).bind fun h4=>((z0 h4).bind fun h1=>some (h1.2,h1.1.Area,h1.1.Prefix,h1.1.Suffix,h1.1.Stroke))).bind fun h0=>((idx x0 1).bind fun h3=>((bif h0.1 then ((idx x0 1).bind fun h5=>((D9 N h5).bind fun h6=>some (h6,h0.2.1,h0.2.2.1,h0.2.2.2.1,h3))) else some (false,h0.2.1,h0.2.2.1,h0.2.2.2.1,h3)).bind fun h2=>some (({Area:=h2.2.1,Prefix:=h2.2.2.1,Suffix:=h2.2.2.2.1,Stroke:=h2.2.2.2.2}:Bg),h2.1))))
theorem Ns:Aj Tryz.prog 226:=fun _ _=>by kernel_rfl
theorem NV (N:Nat) (w0:World) (F0:Mem) (hF:XN w0 F0) (x0:(List XL)) (hb:XM) (h8:Nat) (c8:LC x0.length h8) (hm:SlA AN F0 hb x0) (hn:Nat) (z0:(XL->Option (Bg×Bool))) (h7:FuncId) (h2 h3:List Value) (ho:Aj Tryz.prog h7) (hp:IH F0 h7 h2 h3 z0) (hy:F0 hn=some (oc #[(.func (.func h7) h2.toArray h3.toArray)] 188)) (r:(Bg×Bool)) (h:Dq N x0 z0=some r):
  Calls Tryz.prog 226 ([(sL hb x0 h8),(pt hn 0)]:List Value).toArray w0 (AA w0 F0 fun F' v=>v=(.tuple #[(.agg (CQ r.1)),(.bool r.2)])):=by
 have hz:=Xs hF
 refine Go 27 Tryz.func226<|Sq (Rg [0,1] ?_)
 refine Al' 186 #[(sv (([]:XL))),(sv (([]:XL))),(sv (([]:XL))),(sv (([]:XL)))] hz (fun h5 c9 b0=>?_)
 refine Vs 1<|Nss ?_
 obtain ⟨h1,b1,b2⟩:=bS h
 refine RD 11 11 [(sb h5 #[(sv (([]:XL))),(sv (([]:XL))),(sv (([]:XL))),(sv (([]:XL)))] 186)] [] b0 (fun f w=>∃ (F1:Mem) (h9:Nat),HS w0 F0 w F1 [(sb h9 #[(sv h1.2.1),(sv h1.2.2.1),(sv h1.2.2.2.1),(sv h1.2.2.2.2)] 186),(sb h5 #[(sv (([]:XL))),(sv (([]:XL))),(sv (([]:XL))),(sv (([]:XL)))] 186)]/\Xq F0 F1/\FI f [] [(0,(sL hb x0 h8)),(3,(pt h5 0)),(5,(pt h9 0)),(6,(.bool h1.1))]) (fun b3 hc=>?_) ?_
 ·refine Dl 0 (fun _ hq=>(hq.1.1 _ _ hy)) ?_
  refine Dv [1] ?_
  obtain ⟨h6,b4,hr⟩:=bS b1
  obtain ⟨b5,hx39'⟩:=Ap b4
  obtain ⟨ca,cb,cc,cd,ce,rfl,hF48,hE49⟩:=Xy hm hx39'
  have b6:=hE49 _ _ hx39'
  refine Di 2 b5<|Dx 3 0 (fun _ hq=>hq.1.1 _ _ hF48) b6<|Xz (i:=4) (j:=8) (by kernel_rfl) ?_ ?_
  ·obtain ⟨b7,b8,b9⟩:=bS hr
   refine XC (l':=[true,true,true,true,true,false,false,false,false,false,false]) (zd:=true) (by kernel_rfl) (by kernel_rfl) (by kernel_rfl) (dst:=(some 12)) (ty:=187) (g:=none) (by kernel_rfl) rfl (f0:=(.tmp 8)) (aos:=#[(.tmp 11)]) (ats:=#[9]) (fid:=h7) (first:=h2.toArray) (cap:=h3.toArray) (args:=(h2++(([(sv h6)]:List Value)++h3))) rfl ho (Ee (l:=[(sv h6)]) (fi:=h2) (k:=h3) rfl) hc (hp b3 F0 h6 _ (Xr _) hc.pers b8) ?_
   rintro _ F2 cf ba he rfl
   refine Dv [5,6,7]<|D1 8<|DAl 186 #[(sv (([]:XL))),(sv (([]:XL))),(sv (([]:XL))),(sv (([]:XL)))] ba he (fun bb cg bc=>?_)
   refine D1 9<|GJ (CQ b7.1) bc he (fun ch bd=>?_)
   refine Dv [10] ?_
   obtain rfl:=Aa b9
   exact XD (by kernel_rfl) ⟨F2,bb,bd,he,fI⟩
  ·refine DAl 186 #[(sv (([]:XL))),(sv (([]:XL))),(sv (([]:XL))),(sv (([]:XL)))] hc (Xr _) (fun be bf ht=>?_)
   refine D1 4 ?_
   obtain ⟨bg,bh,bi⟩:=bS hr
   refine XC (l':=[true,true,true,true,true,false,false,false,true,false,false]) (zd:=true) (by kernel_rfl) (by kernel_rfl) (by kernel_rfl) (dst:=(some 12)) (ty:=187) (g:=none) (by kernel_rfl) rfl (f0:=(.tmp 8)) (aos:=#[(.tmp 11)]) (ats:=#[9]) (fid:=h7) (first:=h2.toArray) (cap:=h3.toArray) (args:=(h2++(([(sv h6)]:List Value)++h3))) rfl ho (Ee (l:=[(sv h6)]) (fi:=h2) (k:=h3) rfl) ht (hp bf F0 h6 _ (Xr _) ht.pers bh) ?_
   rintro _ F3 ci bj hu rfl
   refine Dv [5,6,7]<|D1 9<|GJ (CQ bg.1) bj hu (fun cj bk=>?_)
   refine Dv [10] ?_
   obtain rfl:=Aa bi
   exact XD (by kernel_rfl) ⟨F3,be,bk,hu,fI⟩
 ·rintro f cl ⟨F1,h9,hv,bl,⟨_,rfl⟩⟩
  refine Ab<|Sq (Rg (rG 5) ?_)
  refine Vs 1 ?_
  obtain ⟨ha,bm,bn⟩:=bS b2
  obtain ⟨bo,hx79'⟩:=Ap bm
  obtain ⟨hf,hg,cm,cn,co,rfl,hF88,hE89⟩:=Xy (Xt hm bl) hx79'
  have bp:=hE89 _ _ hx79'
  refine Ix bo<|Lx 0 (hv.pers _ _ hF88) bp<|Vs 1<|St0 #[(sv h1.2.1),(sv h1.2.2.1),(sv h1.2.2.2.1),(sv ha)] hv (fun cp bq=>?_)
  refine Nss ?_
  obtain ⟨h0,br,bs⟩:=bS bn
  refine RD 10 10 [(sb h9 #[(sv h1.2.1),(sv h1.2.2.1),(sv h1.2.2.2.1),(sv ha)] 186)] [] bq (fun f w=>∃ (F4:Mem),HS w0 F0 w F4 [(sb h5 #[(sv h0.2.1),(sv h0.2.2.1),(sv h0.2.2.2.1),(sv h0.2.2.2.2)] 186)]/\Xq F1 F4/\FI f [] [(3,(pt h5 0)),(4,(.bool h0.1))]) (fun bt hh=>?_) ?_
  ·refine Dl 0 (fun _ hq=>(hq.1.2 0 _ _ rfl)) ?_
   refine Dv [1,2]<|Sd br (fun h4 bu=>?_) (fun h4 bv=>?_)
   ·refine Dg 3 22 55 _ 2 true 21 h4 (fun _ hq=>mv 0 (.slice (some ⟨hf,hg,none⟩) x0.length h8)) ?_
    obtain ⟨hl,bw,bx⟩:=bS bu
    obtain ⟨bz,hx109'⟩:=Ap bw
    have c0:=hE89 _ _ hx109'
    refine Dg 4 23 0 (.pointer (some ⟨hf,(hg + (1:Int).toNat * 1),none⟩)) 2 true 21 h4 (fun _ hq=>Ca (t:=55) (x:=(.tmp 22)) (y:=(.const (vi 1))) (b:=hf) (o:=hg) (E:=9) (s:=1) (by_:=16) rfl rfl (by kernel_rfl) bz)<|Dg 5 24 9 _ 2 true 21 h4 (fun _ hq=>lx 9 23 0 1 false 1 (sv hl) (hq.1.1 _ _ hF88) c0)<|D1 6 ?_
    obtain ⟨c1,c3,c4⟩:=bS bx
    refine XC (l':=[true,true,true,true,true,true,true,false,false,false]) (zd:=true) (by kernel_rfl) (by kernel_rfl) (by kernel_rfl) (dst:=(some 25)) (ty:=4) (g:=(some (2,true))) (by kernel_rfl) (Ih (d:=21) (by kernel_rfl) rfl h4) (f0:=(.func 227)) (aos:=#[(.tmp 24)]) (ats:=#[9]) (fid:=227) (first:=#[]) (cap:=#[]) (args:=[(sv hl)]) rfl Jp rfl hh (KH N bt F1 hh.pers hl _ c3) ?_
    rintro _ F5 cq c5 hw rfl
    refine Dt 7 26 4 _ (fun _ hq=>p1 21 (.tmp 25) (.const (.bool false)) (.bool c1) h4)<|D1 8<|Mh #[(sv h1.2.1),(sv h1.2.2.1),(sv h1.2.2.2.1),(sv ha)] c5 hw (fun cr c6=>?_)
    refine Dv [9] ?_
    obtain rfl:=Aa c4
    exact XD (by kernel_rfl) ⟨F5,c6.dr0,hw,fI⟩
   ·refine Dk [(3,22),(4,23),(5,24),(6,25)] 2 true 21 h4 ?_
    refine Dt 7 26 4 _ (fun _ hq=>p0 21 (.tmp 25) (.const (.bool false)) (.bool false) h4)<|D1 8<|Mh #[(sv h1.2.1),(sv h1.2.2.1),(sv h1.2.2.2.1),(sv ha)] hh (Xr _) (fun ct c7=>?_)
    refine Dv [9] ?_
    obtain rfl:=Aa bv
    exact XD (by kernel_rfl) ⟨F1,c7.dr0,(Xr _),fI⟩
  ·rintro f cu ⟨F4,hx,cv,⟨_,rfl⟩⟩
   refine Ab<|Rt ?_
   obtain rfl:=Aa bs
   exact ⟨rfl,(.tuple #[(.agg #[(sv h0.2.1),(sv h0.2.2.1),(sv h0.2.2.2.1),(sv h0.2.2.2.2)]),(.bool h0.1)]),AR (l:=[.cell 3 186,.tmp 4]) (by kernel_rfl) (vs:=[(.agg #[(sv h0.2.1),(sv h0.2.2.1),(sv h0.2.2.2.1),(sv h0.2.2.2.2)]),(.bool h0.1)]) ⟨h5,0,rfl,Am (t:=186) (g:=true) (s:=4) (by kernel_rfl) hx.at0 rfl (by decide),⟨rfl,trivial⟩⟩,(.tuple #[(.agg #[(sv h0.2.1),(sv h0.2.2.1),(sv h0.2.2.2.1),(sv h0.2.2.2.2)]),(.bool h0.1)]),F4,rfl,hx.clear,rfl⟩
def Dp (N:Nat) (x0:(List XL)) (z0:(XL->Option (Bg×Bool))):Option (Bg×Bool):=
 (((idx x0 1).bind fun h4=>((z0 h4).bind fun h2=>some (h2.2,h2.1.Area,h2.1.Prefix,h2.1.Suffix,h2.1.Stroke))).bind fun h0=>(((idx x0 0).bind fun h5=>((idx x0 2).bind fun h6=>some (h5,h6))).bind fun h1=>((bif h0.1 then ((idx x0 0).bind fun h7=>((Fd N h7).bind fun h8=>(bif h8 then ((idx x0 2).bind fun h9=>((D9 N h9).bind fun ha=>some (ha,h1.1,h0.2.2.1,h0.2.2.2.1,h1.2))) else some (false,h1.1,h0.2.2.1,h0.2.2.2.1,h1.2)))) else some (false,h1.1,h0.2.2.1,h0.2.2.2.1,h1.2)).bind fun h3=>some (({Area:=h3.2.1,Prefix:=h3.2.2.1,Suffix:=h3.2.2.2.1,Stroke:=h3.2.2.2.2}:Bg),h3.1))))
theorem Nr:Aj Tryz.prog 228:=fun _ _=>by kernel_rfl
theorem NU (N:Nat) (w0:World) (F0:Mem) (hF:XN w0 F0) (x0:(List XL)) (hb:XM) (h8:Nat) (d1:LC x0.length h8) (hh:SlA AN F0 hb x0) (ht:Nat) (z0:(XL->Option (Bg×Bool))) (hc:FuncId) (h4 h5:List Value) (hu:Aj Tryz.prog hc) (hv:IH F0 hc h4 h5 z0) (b3:F0 ht=some (oc #[(.func (.func hc) h4.toArray h5.toArray)] 188)) (r:(Bg×Bool)) (h:Dp N x0 z0=some r):
  Calls Tryz.prog 228 ([(sL hb x0 h8),(pt ht 0)]:List Value).toArray w0 (AA w0 F0 fun F' v=>v=(.tuple #[(.agg (CQ r.1)),(.bool r.2)])):=by
 have b4:=Xs hF
 refine Go 37 Tryz.func228<|Sq (Rg [0,1] ?_)
 refine Al' 186 #[(sv (([]:XL))),(sv (([]:XL))),(sv (([]:XL))),(sv (([]:XL)))] b4 (fun h3 d2 b5=>?_)
 refine Vs 1<|Nss ?_
 obtain ⟨h0,b6,b7⟩:=bS h
 refine RD 11 11 [(sb h3 #[(sv (([]:XL))),(sv (([]:XL))),(sv (([]:XL))),(sv (([]:XL)))] 186)] [] b5 (fun f w=>∃ (F1:Mem) (h9:Nat),HS w0 F0 w F1 [(sb h9 #[(sv h0.2.1),(sv h0.2.2.1),(sv h0.2.2.2.1),(sv h0.2.2.2.2)] 186),(sb h3 #[(sv (([]:XL))),(sv (([]:XL))),(sv (([]:XL))),(sv (([]:XL)))] 186)]/\Xq F0 F1/\FI f [] [(0,(sL hb x0 h8)),(3,(pt h3 0)),(5,(pt h9 0)),(6,(.bool h0.1))]) (fun b8 hl=>?_) ?_
 ·refine Dl 0 (fun _ hq=>(hq.1.1 _ _ b3)) ?_
  refine Dv [1] ?_
  obtain ⟨ha,b9,hw⟩:=bS b6
  obtain ⟨ba,hx39'⟩:=Ap b9
  obtain ⟨d3,d4,d6,d7,d8,rfl,hF48,hE49⟩:=Xy hh hx39'
  have bb:=hE49 _ _ hx39'
  refine Di 2 ba<|Dx 3 0 (fun _ hq=>hq.1.1 _ _ hF48) bb<|Xz (i:=4) (j:=8) (by kernel_rfl) ?_ ?_
  ·obtain ⟨bc,bd,be⟩:=bS hw
   refine XC (l':=[true,true,true,true,true,false,false,false,false,false,false]) (zd:=true) (by kernel_rfl) (by kernel_rfl) (by kernel_rfl) (dst:=(some 12)) (ty:=187) (g:=none) (by kernel_rfl) rfl (f0:=(.tmp 8)) (aos:=#[(.tmp 11)]) (ats:=#[9]) (fid:=hc) (first:=h4.toArray) (cap:=h5.toArray) (args:=(h4++(([(sv ha)]:List Value)++h5))) rfl hu (Ee (l:=[(sv ha)]) (fi:=h4) (k:=h5) rfl) hl (hv b8 F0 ha _ (Xr _) hl.pers bd) ?_
   rintro _ F2 d9 bf hm rfl
   refine Dv [5,6,7]<|D1 8<|DAl 186 #[(sv (([]:XL))),(sv (([]:XL))),(sv (([]:XL))),(sv (([]:XL)))] bf hm (fun bg da bh=>?_)
   refine D1 9<|GJ (CQ bc.1) bh hm (fun db bi=>?_)
   refine Dv [10] ?_
   obtain rfl:=Aa be
   exact XD (by kernel_rfl) ⟨F2,bg,bi,hm,fI⟩
  ·refine DAl 186 #[(sv (([]:XL))),(sv (([]:XL))),(sv (([]:XL))),(sv (([]:XL)))] hl (Xr _) (fun bj bk hx=>?_)
   refine D1 4 ?_
   obtain ⟨bl,bm,bn⟩:=bS hw
   refine XC (l':=[true,true,true,true,true,false,false,false,true,false,false]) (zd:=true) (by kernel_rfl) (by kernel_rfl) (by kernel_rfl) (dst:=(some 12)) (ty:=187) (g:=none) (by kernel_rfl) rfl (f0:=(.tmp 8)) (aos:=#[(.tmp 11)]) (ats:=#[9]) (fid:=hc) (first:=h4.toArray) (cap:=h5.toArray) (args:=(h4++(([(sv ha)]:List Value)++h5))) rfl hu (Ee (l:=[(sv ha)]) (fi:=h4) (k:=h5) rfl) hx (hv bk F0 ha _ (Xr _) hx.pers bm) ?_
   rintro _ F3 dc bo hy rfl
   refine Dv [5,6,7]<|D1 9<|GJ (CQ bl.1) bo hy (fun dd bp=>?_)
   refine Dv [10] ?_
   obtain rfl:=Aa bn
   exact XD (by kernel_rfl) ⟨F3,bj,bp,hy,fI⟩
 ·rintro f de ⟨F1,h9,bq,hz,⟨_,rfl⟩⟩
  refine Ab<|Sq ?_
  obtain ⟨h2,br,bs⟩:=bS b7
  refine RD 9 10 [(sb h3 #[(sv (([]:XL))),(sv (([]:XL))),(sv (([]:XL))),(sv (([]:XL)))] 186)] [] bq (fun f w=>∃ (F4:Mem),HS w0 F0 w F4 [(sb h9 #[(sv h2.1),(sv h0.2.2.1),(sv h0.2.2.2.1),(sv h2.2)] 186),(sb h3 #[(sv (([]:XL))),(sv (([]:XL))),(sv (([]:XL))),(sv (([]:XL)))] 186)]/\Xq F1 F4/\FI f [] [(0,(sL hb x0 h8)),(3,(pt h3 0)),(5,(pt h9 0)),(6,(.bool h0.1))]) (fun df bt=>?_) ?_
  ·refine Dv [0] ?_
   obtain ⟨b0,bu,bv⟩:=bS br
   obtain ⟨bw,hx92'⟩:=Ap bu
   obtain ⟨dg,dh,di,dj,dk,rfl,hF101,hE102⟩:=Xy (Xt hh hz) hx92'
   have bx:=hE102 _ _ hx92'
   refine Di 1 bw<|Dx 2 0 (fun _ hq=>hq.1.1 _ _ hF101) bx<|Dv [3] ?_
   obtain ⟨bz,c0,c1⟩:=bS bv
   obtain ⟨c3,hx106'⟩:=Ap c0
   have c4:=hE102 _ _ hx106'
   refine Di 4 c3<|Dx 5 0 (fun _ hq=>hq.1.1 _ _ hF101) c4<|Dv [6]<|D1 7<|GJ #[(sv b0),(sv h0.2.2.1),(sv h0.2.2.2.1),(sv h0.2.2.2.2)] bt (Xr _) (fun dl c5=>?_)
   refine Dv [8]<|D1 9<|GJ #[(sv b0),(sv h0.2.2.1),(sv h0.2.2.2.1),(sv bz)] c5 (Xr _) (fun dm c6=>?_)
   obtain rfl:=Aa c1
   exact XD (by kernel_rfl) ⟨F1,c6,(Xr _),fI⟩
  ·rintro f dn ⟨F4,c7,c8,⟨_,rfl⟩⟩
   refine Ab<|Sq ?_
   obtain ⟨h1,c9,ca⟩:=bS bs
   refine RD 16 16 [(sb h9 #[(sv h2.1),(sv h0.2.2.1),(sv h0.2.2.2.1),(sv h2.2)] 186)] [] c7 (fun f w=>∃ (F5:Mem),HS w0 F0 w F5 [(sb h3 #[(sv h1.2.1),(sv h1.2.2.1),(sv h1.2.2.2.1),(sv h1.2.2.2.2)] 186)]/\Xq F4 F5/\FI f [] [(3,(pt h3 0)),(4,(.bool h1.1))]) (fun cb hn=>?_) ?_
   ·refine Dl 0 (fun _ hq=>(hq.1.2 0 _ _ rfl)) ?_
    refine Dv [1,2]<|Sd c9 (fun h6 cc=>?_) (fun h6 cd=>?_)
    ·refine Dg 3 26 55 _ 2 true 25 h6 (fun _ hq=>mv 0 (sL hb x0 h8)) ?_
     obtain ⟨ho,ce,cf⟩:=bS cc
     obtain ⟨cg,hx130'⟩:=Ap ce
     obtain ⟨he,hf,dp,dq,dr,rfl,hF139,hE140⟩:=Xy (Xt hh (hz.t c8)) hx130'
     have ch:=hE140 _ _ hx130'
     refine Dg 4 27 0 (.pointer (some ⟨he,(hf + (0:Int).toNat * 1),none⟩)) 2 true 25 h6 (fun _ hq=>Ca (t:=55) (x:=(.tmp 26)) (y:=(.const (vi 0))) (b:=he) (o:=hf) (E:=9) (s:=1) (by_:=16) rfl rfl (by kernel_rfl) cg)<|Dg 5 28 9 _ 2 true 25 h6 (fun _ hq=>lx 9 27 0 1 false 1 (sv ho) (hq.1.1 _ _ hF139) ch)<|D1 6 ?_
     obtain ⟨ci,cj,cl⟩:=bS cf
     refine XC (l':=[true,true,true,true,true,true,true,false,false,false,false,false,false,false,false,false]) (zd:=true) (by kernel_rfl) (by kernel_rfl) (by kernel_rfl) (dst:=(some 29)) (ty:=4) (g:=(some (2,true))) (by kernel_rfl) (Ih (d:=25) (by kernel_rfl) rfl h6) (f0:=(.func 225)) (aos:=#[(.tmp 28)]) (ats:=#[9]) (fid:=225) (first:=#[]) (cap:=#[]) (args:=[(sv ho)]) rfl Iu rfl hn (JQ N cb F4 hn.pers ho _ cj) ?_
     rintro _ F6 cm hp hg rfl
     refine Dt 7 30 4 _ (fun _ hq=>p1 25 (.tmp 29) (.const (.bool false)) (.bool ci) h6)<|Dv [8]<|Sd cl (fun h7 cn=>?_) (fun h7 co=>?_)
     ·refine Dg 9 32 55 _ 8 true 31 h7 (fun _ hq=>mv 0 (.slice (some ⟨he,hf,none⟩) x0.length h8)) ?_
      obtain ⟨hr,cp,cq⟩:=bS cn
      obtain ⟨cr,hx155'⟩:=Ap cp
      have ct:=hE140 _ _ hx155'
      refine Dg 10 33 0 (.pointer (some ⟨he,(hf + (2:Int).toNat * 1),none⟩)) 8 true 31 h7 (fun _ hq=>Ca (t:=55) (x:=(.tmp 32)) (y:=(.const (vi 2))) (b:=he) (o:=hf) (E:=9) (s:=1) (by_:=16) rfl rfl (by kernel_rfl) cr)<|Dg 11 34 9 _ 8 true 31 h7 (fun _ hq=>lx 9 33 0 1 false 1 (sv hr) (hq.1.1 _ _ hF139) ct)<|D1 12 ?_
      obtain ⟨cu,cv,cw⟩:=bS cq
      refine XC (l':=[true,true,true,true,true,true,true,true,true,true,true,true,true,false,false,false]) (zd:=true) (by kernel_rfl) (by kernel_rfl) (by kernel_rfl) (dst:=(some 35)) (ty:=4) (g:=(some (8,true))) (by kernel_rfl) (Ih (d:=31) (by kernel_rfl) rfl h7) (f0:=(.func 227)) (aos:=#[(.tmp 34)]) (ats:=#[9]) (fid:=227) (first:=#[]) (cap:=#[]) (args:=[(sv hr)]) rfl Jp rfl hp (KH N cm F6 hp.pers hr _ cv) ?_
      rintro _ F7 ds cx b1 rfl
      refine Dt 13 36 4 _ (fun _ hq=>p1 31 (.tmp 35) (.const (.bool false)) (.bool cu) h7)<|D1 14<|Mh #[(sv h2.1),(sv h0.2.2.1),(sv h0.2.2.2.1),(sv h2.2)] cx (hg.t b1) (fun dt cy=>?_)
      refine Dv [15] ?_
      obtain rfl:=Aa cw
      exact XD (by kernel_rfl) ⟨F7,cy.dr0,(hg.t b1),fI⟩
     ·refine Dk [(9,32),(10,33),(11,34),(12,35)] 8 true 31 h7 ?_
      refine Dt 13 36 4 _ (fun _ hq=>p0 31 (.tmp 35) (.const (.bool false)) (.bool false) h7)<|D1 14<|Mh #[(sv h2.1),(sv h0.2.2.1),(sv h0.2.2.2.1),(sv h2.2)] hp hg (fun du cz=>?_)
      refine Dv [15] ?_
      obtain rfl:=Aa co
      exact XD (by kernel_rfl) ⟨F6,cz.dr0,hg,fI⟩
    ·refine Dk [(3,26),(4,27),(5,28),(6,29)] 2 true 25 h6 ?_
     refine Dt 7 30 4 _ (fun _ hq=>p0 25 (.tmp 29) (.const (.bool false)) (.bool false) h6)<|Dv [8]<|Dk [(9,32),(10,33),(11,34),(12,35)] 8 true 31 rfl<|Dt 13 36 4 _ (fun _ hq=>p0 31 (.tmp 35) (.const (.bool false)) (.bool false) rfl)<|D1 14<|Mh #[(sv h2.1),(sv h0.2.2.1),(sv h0.2.2.2.1),(sv h2.2)] hn (Xr _) (fun dv d0=>?_)
     refine Dv [15] ?_
     obtain rfl:=Aa cd
     exact XD (by kernel_rfl) ⟨F4,d0.dr0,(Xr _),fI⟩
   ·rintro f dw ⟨F5,b2,dx,⟨_,rfl⟩⟩
    refine Ab<|Rt ?_
    obtain rfl:=Aa ca
    exact ⟨rfl,(.tuple #[(.agg #[(sv h1.2.1),(sv h1.2.2.1),(sv h1.2.2.2.1),(sv h1.2.2.2.2)]),(.bool h1.1)]),AR (l:=[.cell 3 186,.tmp 4]) (by kernel_rfl) (vs:=[(.agg #[(sv h1.2.1),(sv h1.2.2.1),(sv h1.2.2.2.1),(sv h1.2.2.2.2)]),(.bool h1.1)]) ⟨h3,0,rfl,Am (t:=186) (g:=true) (s:=4) (by kernel_rfl) b2.at0 rfl (by decide),⟨rfl,trivial⟩⟩,(.tuple #[(.agg #[(sv h1.2.1),(sv h1.2.2.1),(sv h1.2.2.2.1),(sv h1.2.2.2.2)]),(.bool h1.1)]),F5,rfl,b2.clear,rfl⟩
def Lj (N:Nat):Option (List BG):=
 some [({words_:=1,split_:=(fun y0=>Ds N y0 (fun y0=>Az N y0))}:BG),({words_:=2,split_:=(fun y0=>Dr N y0 (fun y0=>Az N y0))}:BG),({words_:=2,split_:=(fun y0=>Dq N y0 (fun y0=>Az N y0))}:BG),({words_:=3,split_:=(fun y0=>Dp N y0 (fun y0=>Az N y0))}:BG)]
theorem Pf:Aj Tryz.prog 184:=fun _ _=>by kernel_rfl
theorem Qh (N:Nat) (w0:World) (F0:Mem) (hF:XN w0 F0) (hG:BB F0) (r:(List BG)) (h:Lj N=some r):
  Calls Tryz.prog 184 ([]:List Value).toArray w0 (AA w0 F0 fun F' v=>∃ (ha:XM) (hb:Nat),v=(sL ha r hb)/\LC r.length hb/\SlA N1 F' ha r):=by
 have he:=Xs hF
 refine Go 11 Tryz.func184<|Sq (Rg [0] ?_)
 refine Vs 1<|Nss (Rg [0,1] ?_)
 refine Al' 188 #[.nilFunc] he (fun h1 hp hf=>?_)
 refine St0 #[(fV 221 #[])] hf (fun hq hg=>?_)
 refine Nss (Rg (rG 10) ?_)
 refine Vs 8 ?_
 obtain ⟨F1,hh,h8,hF28⟩:=hg.fc0
 refine Bs 228 [(vi 1),(fV 223 #[(pt h1 0)]),(vi 2),(fV 224 #[(pt h1 0)]),(vi 2),(fV 226 #[(pt h1 0)]),(vi 3),(fV 228 #[(pt h1 0)])] hh (fun h9 hr hl=>?_)
 have hc:As N1 228 F1 (some ⟨h9,0,none⟩) 4 [({words_:=1,split_:=(fun y0=>Ds N y0 (fun y0=>Az N y0))}:BG),({words_:=2,split_:=(fun y0=>Dr N y0 (fun y0=>Az N y0))}:BG),({words_:=2,split_:=(fun y0=>Dq N y0 (fun y0=>Az N y0))}:BG),({words_:=3,split_:=(fun y0=>Dp N y0 (fun y0=>Az N y0))}:BG)] (some h9,.cells ([(vi 1),(fV 223 #[(pt h1 0)]),(vi 2),(fV 224 #[(pt h1 0)]),(vi 2),(fV 226 #[(pt h1 0)]),(vi 3),(fV 228 #[(pt h1 0)])]:List Value).toArray 228 (0,0)):=XG ⟨⟨223,[],[(pt h1 0)],rfl,Nv,(fun w1 F1 y0 h4 h5 h6 h7 r h0 h2 h3=>NX N w1 F1 h2 y0 h4 h5 h6 h7 h1 (fun y0=>Az N y0) 221 [] [] EA (IH.mono (fun w1 F1 y0 r h0 h2 h3=>EW N w1 F1 h2 (hG.mono (h8.t h0)) y0 r h3) h0) (h0 _ _ hF28) r h3)⟩,⟨⟨224,[],[(pt h1 0)],rfl,Nu,(fun w1 F1 y0 h4 h5 h6 h7 r h0 h2 h3=>NW N w1 F1 h2 y0 h4 h5 h6 h7 h1 (fun y0=>Az N y0) 221 [] [] EA (IH.mono (fun w1 F1 y0 r h0 h2 h3=>EW N w1 F1 h2 (hG.mono (h8.t h0)) y0 r h3) h0) (h0 _ _ hF28) r h3)⟩,⟨⟨226,[],[(pt h1 0)],rfl,Ns,(fun w1 F1 y0 h4 h5 h6 h7 r h0 h2 h3=>NV N w1 F1 h2 y0 h4 h5 h6 h7 h1 (fun y0=>Az N y0) 221 [] [] EA (IH.mono (fun w1 F1 y0 r h0 h2 h3=>EW N w1 F1 h2 (hG.mono (h8.t h0)) y0 r h3) h0) (h0 _ _ hF28) r h3)⟩,⟨⟨228,[],[(pt h1 0)],rfl,Nr,(fun w1 F1 y0 h4 h5 h6 h7 r h0 h2 h3=>NU N w1 F1 h2 y0 h4 h5 h6 h7 h1 (fun y0=>Az N y0) 221 [] [] EA (IH.mono (fun w1 F1 y0 r h0 h2 h3=>EW N w1 F1 h2 (hG.mono (h8.t h0)) y0 r h3) h0) (h0 _ _ hF28) r h3)⟩,rfl⟩⟩⟩⟩ (by simp)
 refine Vs 1<|Nt<|Rt ?_
 have hm:=XE hc
 obtain ⟨F2,hn,ht,ho⟩:=hl.fr0 hc
 obtain rfl:=Aa h
 exact Re [(.slice (some ⟨h9,0,none⟩) [({words_:=1,split_:=(fun y0=>Ds N y0 (fun y0=>Az N y0))}:BG),({words_:=2,split_:=(fun y0=>Dr N y0 (fun y0=>Az N y0))}:BG),({words_:=2,split_:=(fun y0=>Dq N y0 (fun y0=>Az N y0))}:BG),({words_:=3,split_:=(fun y0=>Dp N y0 (fun y0=>Az N y0))}:BG)].length 4)] hn ⟨(some ⟨h9,0,none⟩),4,rfl,hm,ho⟩
def CT (N:Nat) (x0:XL) (h1:(List XL)) (h2:(List BG)):Int->Option (BC (Bg×Bool) Int):=fun h0=>
 (bif (decide (h0 < (h2.length:Int))) then ((idx h2 h0).bind fun h3=>(bif (h3.words_ !=(h1.length:Int)) then some (.next (W64 (h0 + 1))) else ((h3.split_ h1).bind fun h4=>(bif h4.2 then some (.ret (h4.1,true)) else some (.next (W64 (h0 + 1))))))) else some (.done h0))
def I0 (N:Nat) (x0:XL):Option (Bg×Bool):=
 (bif (decide ((x0.length:Int) > 16)) then some (({Area:=([]:XL),Prefix:=([]:XL),Suffix:=([]:XL),Stroke:=([]:XL)}:Bg),false) else ((strings_Split N x0 ([47]:XL)).bind fun h0=>((Lj N).bind fun h1=>((AU (CT N x0 h0 h1) N 0).bind fun o=>o.k (fun r=>some r) (fun h2=>some (({Area:=([]:XL),Prefix:=([]:XL),Suffix:=([]:XL),Stroke:=([]:XL)}:Bg),false))))))
theorem Pe:Aj Tryz.prog 143:=fun _ _=>by kernel_rfl
theorem Qg (N:Nat) (w0:World) (F0:Mem) (hF:XN w0 F0) (hG:BB F0) (x0:XL) (r:(Bg×Bool)) (h:I0 N x0=some r):
  Calls Tryz.prog 143 ([(sv x0)]:List Value).toArray w0 (AA w0 F0 fun F' v=>v=(.tuple #[(.agg (CQ r.1)),(.bool r.2)])):=by
 have hp:=Xs hF
 refine Go 37 Tryz.func143<|Sq (Rg [0,1] ?_)
 refine Al' 186 #[(sv (([]:XL))),(sv (([]:XL))),(sv (([]:XL))),(sv (([]:XL)))] hp (fun h0 hq h6=>?_)
 refine Vs 1<|Nss<|Sq (Rg [0,1,2] ?_)
 refine Vs 3<|Nt<|Cd h (fun hr ht=>?_) (fun hr hu=>?_)
 ·refine Sq (Rg [0,1,2] ?_)
  refine Vs 1<|St0 #[(sv (([]:XL))),(sv (([]:XL))),(sv (([]:XL))),(sv (([]:XL)))] h6 (fun c8 hb=>?_)
  refine Vs 1<|Nt<|Rt<|Af ?_
  obtain rfl:=Aa ht
  exact ⟨rfl,(.tuple #[(.agg #[(sv (([]:XL))),(sv (([]:XL))),(sv (([]:XL))),(sv (([]:XL)))]),(.bool false)]),AR (l:=[.cell 2 186,.tmp 3]) (by kernel_rfl) (vs:=[(.agg #[(sv (([]:XL))),(sv (([]:XL))),(sv (([]:XL))),(sv (([]:XL)))]),(.bool false)]) ⟨h0,0,rfl,Am (t:=186) (g:=true) (s:=4) (by kernel_rfl) hb.at0 rfl (by decide),⟨rfl,trivial⟩⟩,(.tuple #[(.agg #[(sv (([]:XL))),(sv (([]:XL))),(sv (([]:XL))),(sv (([]:XL)))]),(.bool false)]),F0,rfl,hb.clear,rfl⟩
 ·refine Sc ?_
  refine Ab<|Sq (Rg [0,1,2] ?_)
  refine Vs 1 ?_
  obtain ⟨h7,hv,hw⟩:=bS hu
  refine Cl' CF h6 (CX N hq F0 h6.pers hG x0 (([47]:XL)) _ hv) ?_
  rintro _ F1 hx hc hy ⟨he,hf,rfl,hz,b0⟩
  refine Vs 1<|Nss<|Sq (Rg [0,1,2] ?_)
  obtain ⟨h8,b1,b2⟩:=bS hw
  refine Cl' Pf hc (Qh N hx F1 hc.pers (hG.mono hy) _ b1) ?_
  rintro _ F2 c9 b3 b4 ⟨b5,b6,rfl,ca,b7⟩
  refine Vs 2<|Nt ?_
  obtain ⟨hg,b8,hh⟩:=bS b2
  refine Xx (fun f w=>∃ (hl:Int) (F4:Mem),hg=.done hl/\HS w0 F0 w F4 [(sb h0 #[(sv (([]:XL))),(sv (([]:XL))),(sv (([]:XL))),(sv (([]:XL)))] 186)]/\Xq F2 F4/\FI f [] [(2,(pt h0 0))]) ?_ ?_
  ·refine Bk ?_
   refine Xp (by kernel_rfl) (fun m f w=>∃ (h1:Int) (F3:Mem),AU (CT N x0 h7 h8) m h1=some hg/\HS w0 F0 w F3 [(sb h0 #[(sv (([]:XL))),(sv (([]:XL))),(sv (([]:XL))),(sv (([]:XL)))] 186)]/\Xq F2 F3/\FI f [] [(2,(pt h0 0)),(4,(sL he h7 hf)),(15,(sL b5 h8 b6)),(16,(vi (h8.length:Int))),(17,(vi h1))]) N ⟨0,F2,b8,b3,(Xr _),fI⟩ ?_
   rintro cb f cc ⟨h1,F3,b9,h9,h2,⟨_,rfl⟩⟩
   obtain ⟨hm,cd,rfl,ba,h5⟩:=AV b9
   refine Sq (Rg [0] ?_)
   refine Vs 1<|Nss<|Cd ba (fun bb bc=>?_) (fun bb bd=>?_)
   ·refine Sc ?_
    refine Ab<|Sq<|Bk<|Sq (Rg (rG 4) ?_)
    obtain ⟨be,bf,bg⟩:=bS bc
    obtain ⟨bh,hx74'⟩:=Ap bf
    obtain ⟨ce,cf,cg,ch,ci,rfl,hF83,hE84⟩:=Xy (Xt b7 h2) hx74'
    obtain ⟨bi,bj,bk,bl,bm,bn⟩:=hE84 _ _ hx74'
    refine Ix bh<|Lx 0 (h9.pers _ _ hF83) bl<|Al' 228 #[(vi 0),.nilFunc] h9 (fun cj cl bo=>?_)
    refine St0 #[(vi be.words_),(.func (.func bi) bj.toArray bk.toArray)] bo (fun bp h3=>?_)
    refine Nss<|Sq (Rg (rG 5) ?_)
    refine Vs 1<|Ld h3.at0<|Vs 3<|Nt<|Cd bg (fun bq br=>?_) (fun bq bs=>?_)
    ·refine Ex ?_
     refine Au<|AB rfl<|Ab<|Rg [0,1]<|Vs 2<|Xm ?_
     have bt:=AW br h5
     exact ⟨hm,Nat.lt_succ_self _,(W64 (h1 + 1)),F3,bt,h3.dr0,h2,fI⟩
    ·refine Sc ?_
     refine Ab<|Sq (Rg (rG 10) ?_)
     refine Vs 1<|Ld h3.at0<|Vs 1 ?_
     obtain ⟨h4,bu,bv⟩:=bS bs
     refine Cq bm h3 (bn bp F3 h7 he hf hz (Xt b0 (b4.t h2)) _ (Xr _) h3.pers bu) ?_
     rintro _ F5 cm bw bx rfl
     refine Vs 3<|Al' 186 #[(sv (([]:XL))),(sv (([]:XL))),(sv (([]:XL))),(sv (([]:XL)))] bw (fun cn co bz=>?_)
     refine St0 (CQ h4.1) bz (fun cp ha=>?_)
     refine Vs 1<|Nss (Rg [0] ?_)
     refine Vs 1<|Nt<|Cd bv (fun c0 c1=>?_) (fun c0 c3=>?_)
     ·refine Sq (Rg [0,1,2] ?_)
      refine Ld ha.at0<|St2 (CQ h4.1) ha (fun cq hn=>?_)
      refine Vs 1<|Nt<|Rt<|Ay<|Af<|Af<|Ay ?_
      have hret:=CV c1 h5
      subst hret
      refine .inr<|Af ?_
      obtain rfl:=Aa hh
      exact ⟨rfl,(.tuple #[(.agg (CQ h4.1)),(.bool true)]),AR (l:=[.cell 2 186,.tmp 3]) (by kernel_rfl) (vs:=[(.agg (CQ h4.1)),(.bool true)]) ⟨h0,0,rfl,Am (t:=186) (g:=true) (s:=4) (by kernel_rfl) hn.at2 rfl (by decide),⟨rfl,trivial⟩⟩,(.tuple #[(.agg (CQ h4.1)),(.bool true)]),F5,rfl,hn.clear,rfl⟩
     ·refine Sc ?_
      refine Av<|Ab<|Rg [0,1]<|Vs 2<|Xm ?_
      have c4:=AW c3 h5
      exact ⟨hm,Nat.lt_succ_self _,(W64 (h1 + 1)),F5,c4,ha.dr0.dr0,(h2.t bx),fI⟩
   ·refine Ex ?_
    refine Au<|Au<|AB rfl ?_
    have c5:=AX bd h5
    exact .inl ⟨rfl,h1,F3,c5,h9,h2,fI⟩
  ·rintro f cr ⟨hl,F4,rfl,c6,ct,⟨_,rfl⟩⟩
   have c7:=BX hh
   refine Ab<|Sq (Rg [0,1,2] ?_)
   refine Vs 1<|St0 #[(sv (([]:XL))),(sv (([]:XL))),(sv (([]:XL))),(sv (([]:XL)))] c6 (fun cu ho=>?_)
   refine Vs 1<|Nt<|Rt ?_
   obtain rfl:=Aa c7
   exact ⟨rfl,(.tuple #[(.agg #[(sv (([]:XL))),(sv (([]:XL))),(sv (([]:XL))),(sv (([]:XL)))]),(.bool false)]),AR (l:=[.cell 2 186,.tmp 3]) (by kernel_rfl) (vs:=[(.agg #[(sv (([]:XL))),(sv (([]:XL))),(sv (([]:XL))),(sv (([]:XL)))]),(.bool false)]) ⟨h0,0,rfl,Am (t:=186) (g:=true) (s:=4) (by kernel_rfl) ho.at0 rfl (by decide),⟨rfl,trivial⟩⟩,(.tuple #[(.agg #[(sv (([]:XL))),(sv (([]:XL))),(sv (([]:XL))),(sv (([]:XL)))]),(.bool false)]),F4,rfl,ho.clear,rfl⟩
def FS (N:Nat) (x0:XL):Option Bool:=
 ((I0 N x0).bind fun h0=>some h0.2)
theorem Kw:Aj Tryz.prog 79:=fun _ _=>by kernel_rfl
theorem Le (N:Nat) (w0:World) (F0:Mem) (hF:XN w0 F0) (hG:BB F0) (x0:XL) (r:Bool) (h:FS N x0=some r):
  Calls Tryz.prog 79 ([(sv x0)]:List Value).toArray w0 (AA w0 F0 fun F' v=>v=(.bool r)):=by
 have h0:=Xs hF
 refine Go 11 Tryz.func79<|Sq (Rg [0] ?_)
 refine Vs 1<|Nss (Rg (rG 8) ?_)
 refine Vs 1 ?_
 obtain ⟨h1,h2,h3⟩:=bS h
 refine Cl' Pe h0 (Qg N w0 F0 h0.pers hG x0 _ h2) ?_
 rintro _ F1 h7 h4 h8 rfl
 refine Vs 3<|Al' 186 #[(sv (([]:XL))),(sv (([]:XL))),(sv (([]:XL))),(sv (([]:XL)))] h4 (fun h9 ha h5=>?_)
 refine St0 (CQ h1.1) h5 (fun hb h6=>?_)
 refine Vs 1<|Nss (Rg [0,1] ?_)
 refine Vs 2<|Nt<|Rt ?_
 obtain rfl:=Aa h3
 exact Re [(.bool h1.2)] h6 rfl
def BQ (N:Nat) (x0 x1:Int):Option XL:=
 ((strconv_Itoa N x0).bind fun h0=>((strings_Repeat N ([48]:XL) (max 0 (W64 (x1 - (h0.length:Int))))).bind fun h1=>((Cv h1 h0).bind fun h2=>some h2)))
theorem GH:Aj Tryz.prog 146:=fun _ _=>by kernel_rfl
theorem Hv (N:Nat) (w0:World) (F0:Mem) (hF:XN w0 F0) (hG:BB F0) (x0 x1:Int) (r:XL) (h:BQ N x0 x1=some r):
  Calls Tryz.prog 146 ([(vi x0),(vi x1)]:List Value).toArray w0 (AA w0 F0 fun F' v=>v=(sv r)):=by
 have h0:=Xs hF
 refine Go 16 Tryz.func146<|Sq (Rg [0] ?_)
 refine Vs 1<|Nss (Rg [0,1,2] ?_)
 refine Vs 1 ?_
 obtain ⟨h1,h4,h5⟩:=bS h
 refine Cl' Bt h0 (BE N w0 F0 h0.pers hG x0 _ h4) ?_
 rintro _ F1 h6 h2 he rfl
 refine Vs 1<|Nss (Rg (rG 9) ?_)
 refine Vs 5 ?_
 obtain ⟨h7,h8,h9⟩:=bS h5
 refine Cl' Kp h2 (K7 N h6 F1 h2.pers (([48]:XL)) ((max 0 (W64 (x1 - (h1.length:Int))))) _ h8) ?_
 rintro _ F2 hf ha hg rfl
 refine Vs 1 ?_
 obtain ⟨h3,hb,hc⟩:=bS h9
 refine V 15 9 (AO (t:=9) (t':=9) (x:=(.tmp 13)) (y:=(.tmp 14)) (a:=h7) (b:=h1) (v:=h3) rfl rfl hb)<|Vs 1<|Nt<|Rt ?_
 obtain rfl:=Aa hc
 exact Re [(sv h3)] ha rfl
def Cu (N:Nat) (x0:Int):Option (XL×Int):=
 ((FR N x0 0 20000).bind fun h0=>(bif (!h0) then some (([]:XL),1) else ((strconv_Itoa N (W64 ((W64 (Int.tdiv x0 1440)) + 1))).bind fun h1=>((Cv h1 ([32]:XL)).bind fun h2=>((BQ N (Int.tmod (W64 (Int.tdiv x0 60)) 24) 2).bind fun h3=>((Cv h2 h3).bind fun h4=>((BQ N (Int.tmod x0 60) 2).bind fun h5=>((Cv h4 h5).bind fun h6=>some (h6,0)))))))))
theorem GU:Aj Tryz.prog 82:=fun _ _=>by kernel_rfl
theorem HK (N:Nat) (w0:World) (F0:Mem) (hF:XN w0 F0) (hG:BB F0) (x0:Int) (r:(XL×Int)) (h:Cu N x0=some r):
  Calls Tryz.prog 82 ([(vi x0)]:List Value).toArray w0 (AA w0 F0 fun F' v=>v=(.tuple #[(sv r.1),(vi r.2)])):=by
 have h2:=Xs hF
 refine Go 21 Tryz.func82<|Sq (Rg [0,1] ?_)
 refine Vs 2<|Nss<|Sq (Rg [0,1,2] ?_)
 refine Vs 1 ?_
 obtain ⟨b3,h9,ha⟩:=bS h
 refine Cl' GG h2 (Hu N w0 F0 h2.pers x0 0 20000 _ h9) ?_
 rintro _ F1 hb h0 h1 rfl
 refine Vs 1<|Nt<|Cd ha (fun hc he=>?_) (fun hc hf=>?_)
 ·refine Sq (Rg [0,1] ?_)
  refine Vs 2<|Nt<|Rt<|Af ?_
  obtain rfl:=Aa he
  exact Re [(sv (([]:XL))),(vi 1)] h0 rfl
 ·refine Sc ?_
  refine Ab<|Sq (Rg (rG 16) ?_)
  refine Vs 3 ?_
  obtain ⟨hg,hh,hl⟩:=bS hf
  refine Cl' Bt h0 (BE N hb F1 h0.pers (hG.mono h1) ((W64 ((W64 (Int.tdiv x0 1440)) + 1))) _ hh) ?_
  rintro _ F2 hm h3 h4 rfl
  obtain ⟨h5,hn,ho⟩:=bS hl
  refine V 11 9 (AO (t:=9) (t':=9) (x:=(.tmp 10)) (y:=(.const (sv ([32]:XL)))) (a:=hg) (b:=([32]:XL)) (v:=h5) rfl rfl hn)<|Vs 3 ?_
  obtain ⟨hp,hq,hr⟩:=bS ho
  refine Cl' GH h3 (Hv N hm F2 h3.pers (hG.mono (h1.t h4)) ((Int.tmod (W64 (Int.tdiv x0 60)) 24)) 2 _ hq) ?_
  rintro _ F3 ht h6 hu rfl
  obtain ⟨h7,hv,hw⟩:=bS hr
  refine V 16 9 (AO (t:=9) (t':=9) (x:=(.tmp 11)) (y:=(.tmp 15)) (a:=h5) (b:=hp) (v:=h7) rfl rfl hv)<|Vs 2 ?_
  obtain ⟨hx,hy,hz⟩:=bS hw
  refine Cl' GH h6 (Hv N ht F3 h6.pers (hG.mono ((h1.t h4).trans hu)) ((Int.tmod x0 60)) 2 _ hy) ?_
  rintro _ F4 b4 b0 b5 rfl
  obtain ⟨h8,b1,b2⟩:=bS hz
  refine V 20 9 (AO (t:=9) (t':=9) (x:=(.tmp 16)) (y:=(.tmp 19)) (a:=h7) (b:=hx) (v:=h8) rfl rfl b1)<|Vs 2<|Nt<|Rt ?_
  obtain rfl:=Aa b2
  exact Re [(sv h8),(vi 0)] b0 rfl
def CH (N:Nat) (x0:(List XL)):Int->Option (BC XL Int):=fun h0=>
 (bif (decide (h0 < (x0.length:Int))) then ((idx x0 h0).bind fun h1=>(bif (h1 !=([]:XL)) then some (.ret h1) else some (.next (W64 (h0 + 1))))) else some (.done h0))
def EU (N:Nat) (x0:(List XL)):Option XL:=
 ((AU (CH N x0) N 0).bind fun o=>o.k (fun r=>some r) (fun h0=>some ([]:XL)))
theorem K5:Aj Tryz.prog 147:=fun _ _=>by kernel_rfl
theorem Mf (N:Nat) (w0:World) (F0:Mem) (hF:XN w0 F0) (x0:(List XL)) (h2:XM) (h3:Nat) (hz:LC x0.length h3) (h9:SlA AN F0 h2 x0) (r:XL) (h:EU N x0=some r):
  Calls Tryz.prog 147 ([(sL h2 x0 h3)]:List Value).toArray w0 (AA w0 F0 fun F' v=>v=(sv r)):=by
 have ha:=Xs hF
 refine Go 18 Tryz.func147<|Sq (Rg [0] ?_)
 refine Vs 1<|Nss (Rg [0] ?_)
 refine Vs 1<|Nss<|Sq (Rg [0,1,2] ?_)
 refine Vs 3<|Nt ?_
 obtain ⟨h6,hb,h7⟩:=bS h
 refine Xx (fun f w=>∃ (h8:Int) (F2:Mem),h6=.done h8/\HS w0 F0 w F2 []/\Xq F0 F2/\FI f [] [(3,(sv (([]:XL))))]) ?_ ?_
 ·refine Bk ?_
  refine Xp (by kernel_rfl) (fun m f w=>∃ (h0:Int) (F1:Mem),AU (CH N x0) m h0=some h6/\HS w0 F0 w F1 []/\Xq F0 F1/\FI f [] [(3,(sv (([]:XL)))),(6,(sL h2 x0 h3)),(7,(vi (x0.length:Int))),(8,(vi h0))]) N ⟨0,F0,hb,ha,(Xr _),fI⟩ ?_
  rintro b0 f b1 ⟨h0,F1,hc,h1,h4,⟨_,rfl⟩⟩
  obtain ⟨he,b2,rfl,hf,h5⟩:=AV hc
  refine Sq (Rg [0] ?_)
  refine Vs 1<|Nss<|Cd hf (fun hg hh=>?_) (fun hg hl=>?_)
  ·refine Sc ?_
   refine Ab<|Sq<|Bk<|Sq (Rg [0,1,2] ?_)
   obtain ⟨hm,hn,ho⟩:=bS hh
   obtain ⟨hp,hx49'⟩:=Ap hn
   obtain ⟨b3,b4,b5,b6,b7,rfl,hF58,hE59⟩:=Xy (Xt h9 h4) hx49'
   have hq:=hE59 _ _ hx49'
   refine Ix hp<|Lx 0 (h1.pers _ _ hF58) hq<|Vs 1<|Nss (Rg [0,1,2] ?_)
   refine Vs 3<|Nt<|Cd ho (fun hr ht=>?_) (fun hr hu=>?_)
   ·refine Sq (Rg [0,1] ?_)
    refine Vs 2<|Nt<|Rt<|Ay<|Af<|Af<|Ay ?_
    have hret:=CV ht h5
    subst hret
    refine .inr<|Af ?_
    obtain rfl:=Aa h7
    exact Re [(sv hm)] h1 rfl
   ·refine Sc ?_
    refine Av<|Ab<|Rg [0,1]<|Vs 2<|Xm ?_
    have hv:=AW hu h5
    exact ⟨he,Nat.lt_succ_self _,(W64 (h0 + 1)),F1,hv,h1,h4,fI⟩
  ·refine Ex ?_
   refine Au<|Au<|AB rfl ?_
   have hw:=AX hl h5
   exact .inl ⟨rfl,h0,F1,hw,h1,h4,fI⟩
 ·rintro f b8 ⟨h8,F2,rfl,hx,b9,⟨_,rfl⟩⟩
  have hy:=BX h7
  refine Ab<|Sq (Rg [0,1] ?_)
  refine Vs 2<|Nt<|Rt ?_
  obtain rfl:=Aa hy
  exact Re [(sv (([]:XL)))] hx rfl
def BV (N:Nat) (x0:Ac) (x1:Ae) (h6:Bool) (h2:(List AJ)):(List XL×Int)->Option (BC (XL×Int) (List XL×Int)):=fun h0=>
 (bif (decide (h0.2 < (h2.length:Int))) then ((idx h2 h0.2).bind fun h1=>((bif h1.has_ then ((BQ N h1.n_ h1.digits_).bind fun h3=>((DM h0.1 [h3]).bind fun h4=>some h4)) else some h0.1).bind fun h5=>some (.next (h5,(W64 (h0.2 + 1)))))) else some (.done (h0.1,h0.2)))
def Bc (N:Nat) (x0:Ac) (x1:Ae):Option (XL×Int):=
 ((BW N ({Report:=x0.Report,Serial:=x0.Serial,Zone:=x0.Zone}:Ac) ({Report:=x1.Report,Serial:=x1.Serial,Zone:=x1.Zone}:Ae)).bind fun h0=>(bif (!h0) then some (([]:XL),1) else ((CK N ({Report:=x0.Report,Serial:=x0.Serial,Zone:=x0.Zone}:Ac) ({Report:=x1.Report,Serial:=x1.Serial,Zone:=x1.Zone}:Ae)).bind fun h1=>((AU (BV N x0 x1 h0 h1) N (([]:List XL),0)).bind fun o=>o.k (fun r=>some r) (fun h2=>((strings_Join N h2.1 ([32]:XL)).bind fun h3=>((EU N ([h3,([45]:XL)])).bind fun h4=>some (h4,0))))))))
theorem Dn:Aj Tryz.prog 83:=fun _ _=>by kernel_rfl
theorem DL (N:Nat) (w0:World) (F0:Mem) (hF:XN w0 F0) (hG:BB F0) (x0:Ac) (x1:Ae) (r:(XL×Int)) (h:Bc N x0 x1=some r):
  Calls Tryz.prog 83 ([(.agg (Al x0)),(.agg (B2 x1))]:List Value).toArray w0 (AA w0 F0 fun F' v=>v=(.tuple #[(sv r.1),(vi r.2)])):=by
 have b2:=Xs hF
 refine Go 36 Tryz.func83<|Sq (Rg (rG 4) ?_)
 refine Bx' 23 (Al x0) b2 (fun d6 d7 b3=>?_)
 refine Bx' 32 (B2 x1) b3 (fun d8 b4 h8=>?_)
 refine Vs 2<|Nss<|Sq (Rg (rG 4) ?_)
 refine Ld h8.at1<|Ld h8.at0 ?_
 obtain ⟨b5,b6,b7⟩:=bS h
 refine Cl' Dm h8 (DK N b4 F0 h8.pers (({Report:=x0.Report,Serial:=x0.Serial,Zone:=x0.Zone}:Ac)) (({Report:=x1.Report,Serial:=x1.Serial,Zone:=x1.Zone}:Ae)) _ b6) ?_
 rintro _ F1 b8 h2 b9 rfl
 refine Vs 1<|Nt<|Cd b7 (fun ba bb=>?_) (fun ba bc=>?_)
 ·refine Sq (Rg [0,1] ?_)
  refine Vs 2<|Nt<|Rt<|Af ?_
  obtain rfl:=Aa bb
  exact Re [(sv (([]:XL))),(vi 1)] h2 rfl
 ·refine Sc ?_
  refine Ab<|Sq (Rg [0] ?_)
  refine Vs 1<|Nss<|Sq (Rg (rG 5) ?_)
  refine Ld h2.at1<|Ld h2.at0 ?_
  obtain ⟨h3,bd,be⟩:=bS bc
  refine Cl' Ez h2 (E9 N b8 F1 h2.pers (({Report:=x0.Report,Serial:=x0.Serial,Zone:=x0.Zone}:Ac)) (({Report:=x1.Report,Serial:=x1.Serial,Zone:=x1.Zone}:Ae)) _ bd) ?_
  rintro _ F2 d9 bf bg ⟨bh,hr,rfl,da,bi⟩
  refine Vs 2<|Nt ?_
  have bj:=bf.dr0.dr0.dummy (oc #[] 0)
  obtain ⟨ht,bk,bl⟩:=bS be
  refine Xx (fun f w=>∃ (h4:(List XL×Int)) (F4:Mem) (h9:XM) (ha:Nat) (hh:Option Nat×Obj),ht=.done h4/\HS w0 F0 w F4 [hh]/\Xq F2 F4/\FI f [] [(6,(sL h9 h4.1 ha))]/\As AN 9 F4 h9 ha h4.1 hh) ?_ ?_
  ·refine Bk ?_
   refine Xp (by kernel_rfl) (fun m f w=>∃ (h0:(List XL×Int)) (F3:Mem) (h5:XM) (h6:Nat) (h7:Option Nat×Obj),AU (BV N x0 x1 b5 h3) m h0=some ht/\HS w0 F0 w F3 [h7]/\Xq F2 F3/\FI f [] [(6,(sL h5 h0.1 h6)),(15,(sL bh h3 hr)),(16,(vi (h3.length:Int))),(17,(vi h0.2))]/\As AN 9 F3 h5 h6 h0.1 h7) N ⟨(([]:List XL),0),F2,none,0,(none,.cells #[] 0 (0,0)),bk,bj,(Xr _),fI,(XF AN 9 F2 _)⟩ ?_
   rintro db f dc ⟨h0,F3,h5,h6,h7,bm,hl,hb,⟨_,rfl⟩,hm⟩
   obtain ⟨bn,dd,rfl,bo,hu⟩:=AV bm
   refine Sq (Rg [0] ?_)
   refine Vs 1<|Nss<|Cd bo (fun bp bq=>?_) (fun bp br=>?_)
   ·refine Sc ?_
    refine Ab<|Sq<|Bk<|Sq (Rg (rG 4) ?_)
    obtain ⟨hn,bs,bt⟩:=bS bq
    obtain ⟨bu,hx76'⟩:=Ap bs
    obtain ⟨bv,bw,de,df,dg,rfl,hF85,hE86⟩:=Xy (Xt bi hb) hx76'
    have bx:=hE86 _ _ hx76'
    refine Ix bu<|Lx 0 (hl.pers _ _ hF85) bx<|Al' 180 #[(.bool false),(vi 0),(vi 0),(vi 0)] hl (fun dh di bz=>?_)
    refine St0 (IP hn) bz (fun c0 h1=>?_)
    refine Nss (Rg [0,1] ?_)
    refine Vs 1<|Ld h1.at0<|Nt ?_
    obtain ⟨ho,c1,c3⟩:=bS bt
    refine Xx (fun f w=>∃ (F5:Mem) (hc:XM) (he:Nat) (hf:Option Nat×Obj),HS w0 F0 w F5 [hf]/\Xq F3 F5/\FI f [] [(6,(sL hc ho he)),(15,(.slice (some ⟨bv,bw,none⟩) h3.length hr)),(16,(vi (h3.length:Int))),(17,(vi h0.2))]/\As AN 9 F5 hc he ho hf) ?_ ?_
    ·refine Cd c1 (fun c4 c5=>?_) (fun c4 c6=>?_)
     ·refine Rg (rG 9) ?_
      refine Vs 2<|Ld h1.at0<|Vs 1<|Ld h1.at0 ?_
      obtain ⟨hp,c7,c8⟩:=bS c5
      refine Cl' GH h1 (Hv N c0 F3 h1.pers (hG.mono ((b9.t bg).trans hb)) hn.n_ hn.digits_ _ c7) ?_
      rintro _ F6 dj c9 hv rfl
      refine Bs 9 [(sv hp)] c9 (fun hw dk hx=>?_)
      have ca:As AN 9 F6 (some ⟨hw,0,none⟩) 1 [hp] (some hw,.cells ([(sv hp)]:List Value).toArray 9 (0,0)):=XG ⟨rfl,rfl⟩ (by simp)
      obtain ⟨dl,cb,cc⟩:=bS c8
      refine Ap2 WK hx (hm.mono hv) (hx.rd0 ca) cb (fun cd ce cf dm cg ch=>?_)
      refine Vs 1<|Xm ?_
      obtain rfl:=Aa cc
      exact .inl ⟨rfl,F6,cd,ce,cf,cg.dr0.dr0,hv,fI,ch⟩
     ·refine Sc ?_
      obtain rfl:=Aa c6
      exact .inl ⟨rfl,F3,h5,h6,h7,h1.dr0,(Xr _),fI,hm⟩
    ·rintro f dn ⟨F5,hc,he,hf,ci,cj,⟨_,rfl⟩,cl⟩
     refine Av<|Ab<|Rg [0,1]<|Vs 2<|Xm ?_
     have cm:=AW c3 hu
     exact ⟨bn,Nat.lt_succ_self _,(ho,(W64 (h0.2 + 1))),F5,hc,he,hf,cm,ci,(hb.t cj),fI,cl⟩
   ·refine Ex ?_
    refine Au<|Au<|AB rfl ?_
    have cn:=AX br hu
    exact .inl ⟨rfl,(h0.1,h0.2),F3,h5,h6,h7,cn,hl,hb,fI,hm⟩
  ·rintro f co ⟨h4,F4,h9,ha,hh,rfl,cp,dp,⟨_,rfl⟩,hy⟩
   have cq:=BX bl
   refine Ab<|Sq (Rg (rG 6) ?_)
   refine Vs 1 ?_
   have cr:=XE hy
   obtain ⟨F7,hz,dq,ct⟩:=cp.fr0 hy
   obtain ⟨hg,cu,cv⟩:=bS cq
   refine Cl' Cf hz (CI N co F7 hz.pers h4.1 h9 ha cr ct (([32]:XL)) _ cu) ?_
   rintro _ F8 dr cw ds rfl
   refine Bs 9 [(sv hg),(sv (([45]:XL)))] cw (fun hq cx cy=>?_)
   have b0:As AN 9 F8 (some ⟨hq,0,none⟩) 2 [hg,([45]:XL)] (some hq,.cells ([(sv hg),(sv (([45]:XL)))]:List Value).toArray 9 (0,0)):=XG ⟨rfl,⟨rfl,rfl⟩⟩ (by simp)
   have cz:=XE b0
   obtain ⟨F9,b1,dt,d0⟩:=cy.fr0 b0
   obtain ⟨d1,d2,d3⟩:=bS cv
   refine Cl' K5 b1 (Mf N cx F9 b1.pers ([hg,([45]:XL)]) (some ⟨hq,0,none⟩) 2 cz d0 _ d2) ?_
   rintro _ du dv d4 dw rfl
   refine Vs 2<|Nt<|Rt ?_
   obtain rfl:=Aa d3
   exact Re [(sv d1),(vi 0)] d4 rfl




def AG (N:Nat) (x0:(List XL)) (x1:XL):Int->Option (BC Int Int):=fun h0=>
 (bif (decide (h0 < (x0.length:Int))) then ((idx x0 h0).bind fun h1=>(bif (x1==h1) then some (.ret h0) else some (.next (W64 (h0 + 1))))) else some (.done h0))
def AP (N:Nat) (x0:(List XL)) (x1:XL):Option Int:=
 ((AU (AG N x0 x1) N 0).bind fun o=>o.k (fun r=>some r) (fun h0=>some (-1)))
theorem CO:Aj Tryz.prog 94:=fun _ _=>by kernel_rfl
theorem CY (N:Nat) (w0:World) (F0:Mem) (hF:XN w0 F0) (x0:(List XL)) (h2:XM) (h3:Nat) (hy:LC x0.length h3) (h9:SlA AN F0 h2 x0) (x1:XL) (r:Int) (h:AP N x0 x1=some r):
  Calls Tryz.prog 94 ([(sL h2 x0 h3),(sv x1)]:List Value).toArray w0 (AA w0 F0 fun F' v=>v=(vi r)):=by
 have ha:=Xs hF
 refine Go 19 Tryz.func94<|Sq (Rg [0] ?_)
 refine Vs 1<|Nss<|Sq (Rg [0,1,2] ?_)
 refine Vs 3<|Nt ?_
 obtain ⟨h6,hb,h7⟩:=bS h
 refine Xx (fun f w=>∃ (h8:Int) (F2:Mem),h6=.done h8/\HS w0 F0 w F2 []/\Xq F0 F2/\FI f [] []) ?_ ?_
 ·refine Bk ?_
  refine Xp (by kernel_rfl) (fun m f w=>∃ (h0:Int) (F1:Mem),AU (AG N x0 x1) m h0=some h6/\HS w0 F0 w F1 []/\Xq F0 F1/\FI f [] [(0,(sL h2 x0 h3)),(1,(sv x1)),(7,(vi (x0.length:Int))),(8,(vi h0))]) N ⟨0,F0,hb,ha,(Xr _),fI⟩ ?_
  rintro hz f b0 ⟨h0,F1,hc,h1,h4,⟨_,rfl⟩⟩
  obtain ⟨he,b1,rfl,hf,h5⟩:=AV hc
  refine Sq (Rg [0] ?_)
  refine Vs 1<|Nss<|Cd hf (fun hg hh=>?_) (fun hg hl=>?_)
  ·refine Sc ?_
   refine Ab<|Sq<|Bk<|Sq (Rg [0,1] ?_)
   refine Vs 2<|Nss (Rg (rG 6) ?_)
   refine Vs 3 ?_
   obtain ⟨b2,hm,hn⟩:=bS hh
   obtain ⟨ho,hx48'⟩:=Ap hm
   obtain ⟨b3,b4,b5,b6,b7,rfl,hF57,hE58⟩:=Xy (Xt h9 h4) hx48'
   have hp:=hE58 _ _ hx48'
   refine Ix ho<|Lx 0 (h1.pers _ _ hF57) hp<|Vs 1<|Nt<|Cd hn (fun hq hr=>?_) (fun hq ht=>?_)
   ·refine Sq (Rg [0,1] ?_)
    refine Vs 2<|Nt<|Rt<|Ay<|Af<|Af<|Ay ?_
    have hret:=CV hr h5
    subst hret
    refine .inr<|Af ?_
    obtain rfl:=Aa h7
    exact Re [(vi h0)] h1 rfl
   ·refine Sc ?_
    refine Av<|Ab<|Rg [0,1]<|Vs 2<|Xm ?_
    have hu:=AW ht h5
    exact ⟨he,Nat.lt_succ_self _,(W64 (h0 + 1)),F1,hu,h1,h4,fI⟩
  ·refine Ex ?_
   refine Au<|Au<|AB rfl ?_
   have hv:=AX hl h5
   exact .inl ⟨rfl,h0,F1,hv,h1,h4,fI⟩
 ·rintro f b8 ⟨h8,F2,rfl,hw,b9,⟨_,rfl⟩⟩
  have hx:=BX h7
  refine Ab<|Sq (Rg [0] ?_)
  refine Vs 1<|Nt<|Rt ?_
  obtain rfl:=Aa hx
  exact Re [(vi (-1))] hw rfl
def B6 (N:Nat) (x0:XL):Option Int:=
 ((Fc N x0 9 (fun y0=>Bj N y0)).bind fun h0=>(bif (!h0) then some (-1) else ((B0 N x0).bind fun h1=>some h1.1)))
theorem DU:Aj Tryz.prog 165:=fun _ _=>by kernel_rfl
theorem ED (N:Nat) (w0:World) (F0:Mem) (hF:XN w0 F0) (hG:BB F0) (x0:XL) (r:Int) (h:B6 N x0=some r):
  Calls Tryz.prog 165 ([(sv x0)]:List Value).toArray w0 (AA w0 F0 fun F' v=>v=(vi r)):=by
 have h1:=Xs hF
 refine Go 14 Tryz.func165<|Sq (Rg [0] ?_)
 refine Vs 1<|Nss<|Sq (Rg [0,1,2] ?_)
 refine Vs 1 ?_
 obtain ⟨hg,h2,h3⟩:=bS h
 refine Cl' E8 h1 (FN N w0 F0 h1.pers x0 9 199 [] [] (fun y0=>Bj N y0) Ft (fun w1 F1 y0 r hh h4 h5=>Gs N w1 F1 h4 y0 r h5) _ h2) ?_
 rintro _ F1 h6 h0 h7 rfl
 refine Vs 1<|Nt<|Cd h3 (fun h8 h9=>?_) (fun h8 ha=>?_)
 ·refine Sq (Rg [0] ?_)
  refine Vs 1<|Nt<|Rt<|Af ?_
  obtain rfl:=Aa h9
  exact Re [(vi (-1))] h0 rfl
 ·refine Sc ?_
  refine Ab<|Sq (Rg (rG 7) ?_)
  refine Vs 1 ?_
  obtain ⟨hb,hc,he⟩:=bS ha
  refine Cl' HE h0 (Iz N h6 F1 h0.pers (hG.mono h7) x0 _ hc) ?_
  rintro _ F2 hl hf hm ⟨hn,rfl,ho⟩
  refine Vs 5<|Nss (Rg [0,1] ?_)
  refine Vs 2<|Nt<|Rt ?_
  obtain rfl:=Aa he
  exact Re [(vi hb.1)] hf rfl
def FT (N:Nat) (x0:XL):Option (Int×Int):=
 ((strings_Cut N x0 ([32]:XL)).bind fun h2=>((B6 N h2.1).bind fun h1=>((B6 N h2.2.1).bind fun h0=>(bif ((decide (h1 < 1))||((decide (h1 > 20000))||(decide (h0 < 0)))) then some (0,13) else ((Cu N (W64 ((W64 ((W64 ((W64 (h1 - 1)) * 1440)) + (W64 ((W64 (Int.tdiv h0 100)) * 60)))) + (Int.tmod h0 100)))).bind fun h3=>(bif ((h3.2 !=0)||(h3.1 !=x0)) then some (0,13) else some ((W64 ((W64 ((W64 ((W64 (h1 - 1)) * 1440)) + (W64 ((W64 (Int.tdiv h0 100)) * 60)))) + (Int.tmod h0 100))),0)))))))
theorem Kx:Aj Tryz.prog 96:=fun _ _=>by kernel_rfl
theorem Lh (N:Nat) (w0:World) (F0:Mem) (hF:XN w0 F0) (hG:BB F0) (x0:XL) (r:(Int×Int)) (h:FT N x0=some r):
  Calls Tryz.prog 96 ([(sv x0)]:List Value).toArray w0 (AA w0 F0 fun F' v=>v=(.tuple #[(vi r.1),(vi r.2)])):=by
 have h9:=Xs hF
 refine Go 55 Tryz.func96<|Sq (Rg [0,1] ?_)
 refine Vs 2<|Nss (Rg (rG 9) ?_)
 refine Vs 1 ?_
 obtain ⟨ha,hh,hl⟩:=bS h
 refine Cl' Io h9 (Jq N w0 F0 h9.pers hG x0 (([32]:XL)) _ hh) ?_
 rintro _ F1 hm hb h5 rfl
 refine Vs 7<|Nss (Rg (rG 6) ?_)
 refine Vs 1 ?_
 obtain ⟨h0,hn,ho⟩:=bS hl
 refine Cl' DU hb (ED N hm F1 hb.pers (hG.mono h5) ha.1 _ hn) ?_
 rintro _ F2 hp hc he rfl
 refine Vs 1 ?_
 obtain ⟨h1,hq,hr⟩:=bS ho
 refine Cl' DU hc (ED N hp F2 hc.pers (hG.mono (h5.t he)) ha.2.1 _ hq) ?_
 rintro _ F3 b4 h6 ht rfl
 refine Vs 2<|Nss<|Sq (Rg (rG 10) ?_)
 refine Xw (fun f w=>∃ (F4:Mem),HS w0 F0 w F4 []/\Xq F3 F4/\FI f [] [(0,(sv x0)),(7,(vi h0)),(8,(vi h1)),(31,(.bool ((decide (h0 < 1))||((decide (h0 > 20000))||(decide (h1 < 0))))))]) ?_ ?_
 ·refine Vs 3 ?_
  refine Xv (decide (h0 < 1)) (fun h2=>?_) (fun h2=>?_)
  ·refine Ss h2 2 ?_
   refine Pk1 h2<|Vs 1<|Ss (rfl:true=true) 2<|Pk1 (rfl:true=true) ?_
   exact Xm ⟨rfl,F3,h6,(Xr _),(fJ ⟨rfl,rfl,rfl,(congrArg Value.bool (G9 h2 rfl)),trivial⟩)⟩
  ·refine Vgs h2 2 ?_
   refine Pk0 h2<|Vs 1<|Xv (decide (h0 > 20000)) (fun h3=>?_) (fun h3=>?_)
   ·refine Ss h3 2 ?_
    refine Pk1 h3 ?_
    exact Xm ⟨rfl,F3,h6,(Xr _),(fJ ⟨rfl,rfl,rfl,(congrArg Value.bool (C9 h2 (G9 h3 rfl))),trivial⟩)⟩
   ·refine Vgs h3 2 ?_
    refine Pk0 h3 ?_
    exact Xm ⟨rfl,F3,h6,(Xr _),(fJ ⟨rfl,rfl,rfl,(congrArg Value.bool (C9 h2 (C9 h3 rfl))),trivial⟩)⟩
 ·rintro f hu ⟨F4,h7,hv,⟨_,rfl⟩⟩
  refine Ab<|Cd hr (fun hw hx=>?_) (fun hw hy=>?_)
  ·refine Sq (Rg [0,1] ?_)
   refine Vs 2<|Nt<|Rt<|Af ?_
   obtain rfl:=Aa hx
   exact Re [(vi 0),(vi 13)] h7 rfl
  ·refine Sc ?_
   refine Ab<|Sq (Rg (rG 11) ?_)
   refine Vs 11<|Nss<|Sq (Rg (rG 7) ?_)
   refine Vs 1 ?_
   obtain ⟨h8,hz,b0⟩:=bS hy
   refine Cl' GU h7 (HK N hu F4 h7.pers (hG.mono (((h5.t he).trans ht).trans hv)) ((W64 ((W64 ((W64 ((W64 (h0 - 1)) * 1440)) + (W64 ((W64 (Int.tdiv h1 100)) * 60)))) + (Int.tmod h1 100)))) _ hz) ?_
   rintro _ F5 b5 hf b6 rfl
   refine Vs 5<|Nss (Rg (rG 7) ?_)
   refine Xw (fun f w=>∃ (F6:Mem),HS w0 F0 w F6 []/\Xq F5 F6/\FI f [] [(9,(vi (W64 ((W64 ((W64 ((W64 (h0 - 1)) * 1440)) + (W64 ((W64 (Int.tdiv h1 100)) * 60)))) + (Int.tmod h1 100))))),(53,(.bool ((h8.2 !=0)||(h8.1 !=x0))))]) ?_ ?_
   ·refine Vs 3 ?_
    refine Xv (h8.2 !=0) (fun h4=>?_) (fun h4=>?_)
    ·refine Ss h4 3 ?_
     refine Pk1 h4 ?_
     exact Xm ⟨rfl,F5,hf,(Xr _),(fJ ⟨rfl,(congrArg Value.bool (G9 h4 rfl)),trivial⟩)⟩
    ·refine Vgs h4 3 ?_
     refine Pk0 h4 ?_
     exact Xm ⟨rfl,F5,hf,(Xr _),(fJ ⟨rfl,(congrArg Value.bool (C9 h4 rfl)),trivial⟩)⟩
   ·rintro f b7 ⟨F6,hg,b8,⟨_,rfl⟩⟩
    refine Ab<|Cd b0 (fun b1 b2=>?_) (fun b1 b3=>?_)
    ·refine Sq (Rg [0,1] ?_)
     refine Vs 2<|Nt<|Rt<|Af ?_
     obtain rfl:=Aa b2
     exact Re [(vi 0),(vi 13)] hg rfl
    ·refine Sc ?_
     refine Ab<|Sq (Rg [0,1,2] ?_)
     refine Vs 3<|Nt<|Rt ?_
     obtain rfl:=Aa b3
     exact Re [(vi (W64 ((W64 ((W64 ((W64 (h0 - 1)) * 1440)) + (W64 ((W64 (Int.tdiv h1 100)) * 60)))) + (Int.tmod h1 100)))),(vi 0)] hg rfl
def Ea (N:Nat) (x0:Ac) (x1:XL):Option (Ae×Int):=
 ((strings_Split N x1 ([32]:XL)).bind fun h2=>(((CK N ({Report:=x0.Report,Serial:=x0.Serial,Zone:=x0.Zone}:Ac) ({Report:=0,Serial:=0,Zone:=0}:Ae)).bind fun h5=>((idx h5 0).bind fun h6=>(bif h6.has_ then some (decide ((h2.length:Int) > 0)) else some false))).bind fun h7=>((bif h7 then ((idx h2 0).bind fun h8=>((B6 N h8).bind fun h9=>((sub h2 1 (h2.length:Int)).bind fun ha=>some (ha,h9)))) else some (h2,0)).bind fun h0=>(((CK N ({Report:=x0.Report,Serial:=x0.Serial,Zone:=x0.Zone}:Ac) ({Report:=h0.2,Serial:=0,Zone:=0}:Ae)).bind fun hb=>((idx hb 1).bind fun hc=>(bif hc.has_ then some (decide ((h0.1.length:Int) > 0)) else some false))).bind fun he=>((bif he then ((idx h0.1 0).bind fun hf=>((B6 N hf).bind fun hg=>((sub h0.1 1 (h0.1.length:Int)).bind fun hh=>some (hh,hg)))) else some (h0.1,0)).bind fun h1=>(((CK N ({Report:=x0.Report,Serial:=x0.Serial,Zone:=x0.Zone}:Ac) ({Report:=h0.2,Serial:=h1.2,Zone:=0}:Ae)).bind fun hl=>((idx hl 2).bind fun hm=>(bif hm.has_ then some (decide ((h1.1.length:Int) > 0)) else some false))).bind fun hn=>((bif hn then ((idx h1.1 0).bind fun ho=>((B6 N ho).bind fun hp=>((sub h1.1 1 (h1.1.length:Int)).bind fun hq=>some (hq,hp)))) else some (h1.1,0)).bind fun h3=>((Bc N ({Report:=x0.Report,Serial:=x0.Serial,Zone:=x0.Zone}:Ac) ({Report:=h0.2,Serial:=h1.2,Zone:=h3.2}:Ae)).bind fun h4=>(bif ((h4.2 !=0)||(h4.1 !=x1)) then some (({Report:=0,Serial:=0,Zone:=0}:Ae),1) else some (({Report:=h0.2,Serial:=h1.2,Zone:=h3.2}:Ae),0))))))))))
theorem HP:Aj Tryz.prog 97:=fun _ _=>by kernel_rfl
theorem IC (N:Nat) (w0:World) (F0:Mem) (hF:XN w0 F0) (hG:BB F0) (x0:Ac) (x1:XL) (r:(Ae×Int)) (h:Ea N x0 x1=some r):
  Calls Tryz.prog 97 ([(.agg (Al x0)),(sv x1)]:List Value).toArray w0 (AA w0 F0 fun F' v=>v=(.tuple #[(.agg (B2 r.1)),(vi r.2)])):=by
 have bs:=Xs hF
 refine Go 60 Tryz.func97<|Sq (Rg [0,1,2] ?_)
 refine Bx' 23 (Al x0) bs (fun h5 gz bt=>?_)
 refine Al' 32 #[(vi 0),(vi 0),(vi 0)] bt (fun h4 bu bc=>?_)
 refine Vs 1<|Nss (Rg [0,1,2] ?_)
 refine Vs 1 ?_
 obtain ⟨hy,bv,bw⟩:=bS h
 refine Cl' CF bc (CX N bu F0 bc.pers hG x1 (([32]:XL)) _ bv) ?_
 rintro _ F1 i0 bx ht ⟨bd,hz,rfl,be,b0⟩
 refine Vs 1<|Nss (Rg [0] ?_)
 refine Al' 32 #[(vi 0),(vi 0),(vi 0)] bx (fun h0 i1 bz=>?_)
 refine Nss<|Sq (Rg (rG 6) ?_)
 refine Vs 3<|Bs 194 [(pt h0 0),(pt h0 1),(pt h0 2)] bz (fun h2 c0 he=>?_)
 refine Vs 2<|Nt<|Bk<|CWP.unroll (by kernel_rfl) 4<|URL.step<|Sq (Rg [0] ?_)
 refine Vs 1<|Nss<|C1 (rfl:true=true)<|Sc<|Ab<|Sq<|Bk<|Sq (Rg (rG 5) ?_)
 refine Vs 1<|V 22 0 (V0 (v1:=(pt h2 0)) (by rfl) (D4 (t:=200) (x:=(.tmp 17)) (y:=(.tmp 19)) (b:=h2) (nn:=3) (c:=3) (E:=194) (s:=1) (by_:=8) (j:=0) rfl rfl (by kernel_rfl) (by decide)))<|Ld he.at0<|Vs 2<|Nss (Rg (rG 12) ?_)
 obtain ⟨c1,c3,c4⟩:=bS bw
 refine Xw (fun f w=>∃ (F2:Mem),HS w0 F0 w F2 [(sb h2 #[(pt h0 0),(pt h0 1),(pt h0 2)] 194),(sb h0 #[(vi 0),(vi 0),(vi 0)] 32),(sb h4 #[(vi 0),(vi 0),(vi 0)] 32),(sb h5 (Al x0) 23)]/\Xq F1 F2/\FI f [] [(1,(sv x1)),(2,(pt h5 0)),(4,(pt h4 0)),(6,(sL bd hy hz)),(7,(pt h0 0)),(9,(pt h0 0)),(17,(.slice (some ⟨h2,0,none⟩) 3 3)),(18,(vi 3)),(19,(vi 0)),(35,(.bool c1))]) ?_ ?_
 ·refine Ld he.at3 ?_
  refine Ld he.at1 ?_
  obtain ⟨i2,c5,c6⟩:=bS c3
  refine Cl' Ez he (E9 N c0 F1 he.pers (({Report:=x0.Report,Serial:=x0.Serial,Zone:=x0.Zone}:Ac)) (({Report:=0,Serial:=0,Zone:=0}:Ae)) _ c5) ?_
  rintro _ F3 i3 b1 bf ⟨i4,i5,rfl,i6,c7⟩
  refine Vs 1 ?_
  obtain ⟨i7,c8,c9⟩:=bS c6
  obtain ⟨ca,hx67'⟩:=Ap c8
  obtain ⟨i8,i9,ia,ib,ic,rfl,hF76,hE77⟩:=Xy c7 hx67'
  have cb:=hE77 _ _ hx67'
  refine Ix ca<|Vs 1<|Lx 0 (b1.pers _ _ hF76) cb<|Vs 1<|Sp c9 (fun hf cc=>?_) (fun hf cd=>?_)
  ·refine Vgs hf 3 ?_
   refine Pk1 hf ?_
   obtain rfl:=Aa cc
   exact Xm ⟨rfl,F3,b1,bf,fI⟩
  ·refine Ss hf 3 ?_
   refine Pk0 hf ?_
   obtain rfl:=Aa cd
   exact Xm ⟨rfl,F3,b1,bf,fI⟩
 ·rintro f ce ⟨F2,hu,h7,⟨_,rfl⟩⟩
  refine Ab ?_
  obtain ⟨h1,cf,cg⟩:=bS c4
  refine Xx (fun f w=>∃ (F4:Mem) (hg:XM) (h9:Nat),HS w0 F0 w F4 [(sb h2 #[(pt h0 0),(pt h0 1),(pt h0 2)] 194),(sb h0 #[(vi h1.2),(vi 0),(vi 0)] 32),(sb h4 #[(vi 0),(vi 0),(vi 0)] 32),(sb h5 (Al x0) 23)]/\Xq F2 F4/\FI f [] [(1,(sv x1)),(2,(pt h5 0)),(4,(pt h4 0)),(6,(sL hg h1.1 h9)),(7,(pt h0 0)),(17,(.slice (some ⟨h2,0,none⟩) 3 3)),(18,(vi 3)),(19,(vi 0))]/\LC h1.1.length h9/\SlA AN F4 hg h1.1) ?_ ?_
  ·refine Cd cf (fun ch ci=>?_) (fun ch cj=>?_)
   ·refine Sq (Rg (rG 7) ?_)
    refine Vs 2 ?_
    obtain ⟨cl,cm,cn⟩:=bS ci
    obtain ⟨co,hx102'⟩:=Ap cm
    obtain ⟨cp,cq,ie,ig,ii,rfl,hF111,hE112⟩:=Xy (Xt b0 h7) hx102'
    have cr:=hE112 _ _ hx102'
    refine Ix co<|Lx 0 (hu.pers _ _ hF111) cr ?_
    obtain ⟨ct,cu,cv⟩:=bS cn
    refine Cl' DU hu (ED N ce F2 hu.pers (hG.mono (ht.t h7)) cl _ cu) ?_
    rintro _ F5 ij cw bg rfl
    refine Vs 1<|St1 #[(vi ct),(vi 0),(vi 0)] cw (fun ik cx=>?_)
    refine Nt<|Rg [0,1,2]<|Vs 1 ?_
    obtain ⟨cy,cz,d0⟩:=bS cv
    obtain ⟨d1,d2,d3,d4,d6⟩:=FE (P:=Tryz.prog) (T:=AN) (lo:=(some (.const (vi 1)))) (hi:=none) (mx:=none) (t:=55) (E:=9) (by_:=16) (c:=hz) (a:=(some ⟨cp,cq,none⟩)) (l:=hy) (r:=cy) (il:=1) (ih:=(hy.length:Int)) (im:=0) (by kernel_rfl) (by kernel_rfl) be (Xt b0 (h7.t bg)) (fun h=>by first | rfl | cases h) cz
    refine V 43 55 (d6 (x:=(.tmp 42)) rfl rfl rfl trivial)<|Vs 1<|Xm ?_
    obtain rfl:=Aa d0
    exact .inl ⟨rfl,F5,d1,d2,cx,bg,fI,d3,d4⟩
   ·refine Sc ?_
    obtain rfl:=Aa cj
    exact .inl ⟨rfl,F2,bd,hz,hu,(Xr _),fI,be,(Xt b0 h7)⟩
  ·rintro f d7 ⟨F4,hg,h9,hh,b2,⟨_,rfl⟩,bh,b3⟩
   refine Av<|Ab<|Rg [0,1]<|Vs 2<|Nt<|URL.step<|Sq (Rg [0] ?_)
   refine Vs 1<|Nss<|C1 (rfl:true=true)<|Sc<|Ab<|Sq<|Bk<|Sq (Rg (rG 5) ?_)
   refine Vs 1<|V 22 0 (V0 (v1:=(pt h2 1)) (by rfl) (D4 (t:=200) (x:=(.tmp 17)) (y:=(.tmp 19)) (b:=h2) (nn:=3) (c:=3) (E:=194) (s:=1) (by_:=8) (j:=1) rfl rfl (by kernel_rfl) (by decide)))<|Ld hh.at0<|Vs 2<|Nss (Rg (rG 12) ?_)
   obtain ⟨d8,d9,da⟩:=bS cg
   refine Xw (fun f w=>∃ (F6:Mem),HS w0 F0 w F6 [(sb h2 #[(pt h0 0),(pt h0 1),(pt h0 2)] 194),(sb h0 #[(vi h1.2),(vi 0),(vi 0)] 32),(sb h4 #[(vi 0),(vi 0),(vi 0)] 32),(sb h5 (Al x0) 23)]/\Xq F4 F6/\FI f [] [(1,(sv x1)),(2,(pt h5 0)),(4,(pt h4 0)),(6,(sL hg h1.1 h9)),(7,(pt h0 0)),(9,(pt h0 1)),(17,(.slice (some ⟨h2,0,none⟩) 3 3)),(18,(vi 3)),(19,(vi 1)),(35,(.bool d8))]) ?_ ?_
   ·refine Ld hh.at3 ?_
    refine Ld hh.at1 ?_
    obtain ⟨io,db,dc⟩:=bS d9
    refine Cl' Ez hh (E9 N d7 F4 hh.pers (({Report:=x0.Report,Serial:=x0.Serial,Zone:=x0.Zone}:Ac)) (({Report:=h1.2,Serial:=0,Zone:=0}:Ae)) _ db) ?_
    rintro _ F7 ip b4 bi ⟨iq,ir,rfl,it,dd⟩
    refine Vs 1 ?_
    obtain ⟨iu,de,df⟩:=bS dc
    obtain ⟨dg,hx159'⟩:=Ap de
    obtain ⟨iv,iw,iy,iz,j0,rfl,hF168,hE169⟩:=Xy dd hx159'
    have dh:=hE169 _ _ hx159'
    refine Ix dg<|Vs 1<|Lx 0 (b4.pers _ _ hF168) dh<|Vs 1<|Sp df (fun hl di=>?_) (fun hl dj=>?_)
    ·refine Vgs hl 3 ?_
     refine Pk1 hl ?_
     obtain rfl:=Aa di
     exact Xm ⟨rfl,F7,b4,bi,fI⟩
    ·refine Ss hl 3 ?_
     refine Pk0 hl ?_
     obtain rfl:=Aa dj
     exact Xm ⟨rfl,F7,b4,bi,fI⟩
   ·rintro f dk ⟨F6,hv,ha,⟨_,rfl⟩⟩
    refine Ab ?_
    obtain ⟨h3,dl,dm⟩:=bS da
    refine Xx (fun f w=>∃ (F8:Mem) (hm:XM) (hb:Nat),HS w0 F0 w F8 [(sb h2 #[(pt h0 0),(pt h0 1),(pt h0 2)] 194),(sb h0 #[(vi h1.2),(vi h3.2),(vi 0)] 32),(sb h4 #[(vi 0),(vi 0),(vi 0)] 32),(sb h5 (Al x0) 23)]/\Xq F6 F8/\FI f [] [(1,(sv x1)),(2,(pt h5 0)),(4,(pt h4 0)),(6,(sL hm h3.1 hb)),(7,(pt h0 0)),(17,(.slice (some ⟨h2,0,none⟩) 3 3)),(18,(vi 3)),(19,(vi 1))]/\LC h3.1.length hb/\SlA AN F8 hm h3.1) ?_ ?_
    ·refine Cd dl (fun dn dp=>?_) (fun dn dq=>?_)
     ·refine Sq (Rg (rG 7) ?_)
      refine Vs 2 ?_
      obtain ⟨dr,ds,dt⟩:=bS dp
      obtain ⟨du,hx194'⟩:=Ap ds
      obtain ⟨dv,dw,j1,j2,j3,rfl,hF203,hE204⟩:=Xy (Xt b3 ha) hx194'
      have dx:=hE204 _ _ hx194'
      refine Ix du<|Lx 0 (hv.pers _ _ hF203) dx ?_
      obtain ⟨dy,dz,e0⟩:=bS dt
      refine Cl' DU hv (ED N dk F6 hv.pers (hG.mono (((ht.t h7).trans b2).trans ha)) dr _ dz) ?_
      rintro _ F9 j4 e1 bj rfl
      refine Vs 1<|St1 #[(vi h1.2),(vi dy),(vi 0)] e1 (fun j5 e2=>?_)
      refine Nt<|Rg [0,1,2]<|Vs 1 ?_
      obtain ⟨e3,e4,e6⟩:=bS e0
      obtain ⟨e7,e8,e9,ea,eb⟩:=FE (P:=Tryz.prog) (T:=AN) (lo:=(some (.const (vi 1)))) (hi:=none) (mx:=none) (t:=55) (E:=9) (by_:=16) (c:=h9) (a:=(some ⟨dv,dw,none⟩)) (l:=h1.1) (r:=e3) (il:=1) (ih:=(h1.1.length:Int)) (im:=0) (by kernel_rfl) (by kernel_rfl) bh (Xt b3 (ha.t bj)) (fun h=>by first | rfl | cases h) e4
      refine V 43 55 (eb (x:=(.tmp 42)) rfl rfl rfl trivial)<|Vs 1<|Xm ?_
      obtain rfl:=Aa e6
      exact .inl ⟨rfl,F9,e7,e8,e2,bj,fI,e9,ea⟩
     ·refine Sc ?_
      obtain rfl:=Aa dq
      exact .inl ⟨rfl,F6,hg,h9,hv,(Xr _),fI,bh,(Xt b3 ha)⟩
    ·rintro f ec ⟨F8,hm,hb,hn,bk,⟨_,rfl⟩,bl,b5⟩
     refine Av<|Ab<|Rg [0,1]<|Vs 2<|Nt<|URL.step<|Sq (Rg [0] ?_)
     refine Vs 1<|Nss<|C1 (rfl:true=true)<|Sc<|Ab<|Sq<|Bk<|Sq (Rg (rG 5) ?_)
     refine Vs 1<|V 22 0 (V0 (v1:=(pt h2 2)) (by rfl) (D4 (t:=200) (x:=(.tmp 17)) (y:=(.tmp 19)) (b:=h2) (nn:=3) (c:=3) (E:=194) (s:=1) (by_:=8) (j:=2) rfl rfl (by kernel_rfl) (by decide)))<|Ld hn.at0<|Vs 2<|Nss (Rg (rG 12) ?_)
     obtain ⟨ed,ee,ef⟩:=bS dm
     refine Xw (fun f w=>∃ (hc:Mem),HS w0 F0 w hc [(sb h2 #[(pt h0 0),(pt h0 1),(pt h0 2)] 194),(sb h0 #[(vi h1.2),(vi h3.2),(vi 0)] 32),(sb h4 #[(vi 0),(vi 0),(vi 0)] 32),(sb h5 (Al x0) 23)]/\Xq F8 hc/\FI f [] [(1,(sv x1)),(2,(pt h5 0)),(4,(pt h4 0)),(6,(sL hm h3.1 hb)),(7,(pt h0 0)),(9,(pt h0 2)),(17,(.slice (some ⟨h2,0,none⟩) 3 3)),(18,(vi 3)),(19,(vi 2)),(35,(.bool ed))]) ?_ ?_
     ·refine Ld hn.at3 ?_
      refine Ld hn.at1 ?_
      obtain ⟨j6,eg,eh⟩:=bS ee
      refine Cl' Ez hn (E9 N ec F8 hn.pers (({Report:=x0.Report,Serial:=x0.Serial,Zone:=x0.Zone}:Ac)) (({Report:=h1.2,Serial:=h3.2,Zone:=0}:Ae)) _ eg) ?_
      rintro _ bm j7 b6 bn ⟨j8,j9,rfl,ja,ei⟩
      refine Vs 1 ?_
      obtain ⟨jb,ej,ek⟩:=bS eh
      obtain ⟨el,hx251'⟩:=Ap ej
      obtain ⟨jc,jd,je,jf,jg,rfl,hF260,hE261⟩:=Xy ei hx251'
      have en:=hE261 _ _ hx251'
      refine Ix el<|Vs 1<|Lx 0 (b6.pers _ _ hF260) en<|Vs 1<|Sp ek (fun ho eo=>?_) (fun ho ep=>?_)
      ·refine Vgs ho 3 ?_
       refine Pk1 ho ?_
       obtain rfl:=Aa eo
       exact Xm ⟨rfl,bm,b6,bn,fI⟩
      ·refine Ss ho 3 ?_
       refine Pk0 ho ?_
       obtain rfl:=Aa ep
       exact Xm ⟨rfl,bm,b6,bn,fI⟩
     ·rintro f er ⟨hc,hw,hp,⟨_,rfl⟩⟩
      refine Ab ?_
      obtain ⟨h6,et,eu⟩:=bS ef
      refine Xx (fun f w=>∃ (hq:Mem) (b7:XM) (b8:Nat),HS w0 F0 w hq [(sb h2 #[(pt h0 0),(pt h0 1),(pt h0 2)] 194),(sb h0 #[(vi h1.2),(vi h3.2),(vi h6.2)] 32),(sb h4 #[(vi 0),(vi 0),(vi 0)] 32),(sb h5 (Al x0) 23)]/\Xq hc hq/\FI f [] [(1,(sv x1)),(2,(pt h5 0)),(4,(pt h4 0)),(6,(sL b7 h6.1 b8)),(7,(pt h0 0)),(17,(.slice (some ⟨h2,0,none⟩) 3 3)),(18,(vi 3)),(19,(vi 2))]/\LC h6.1.length b8/\SlA AN hq b7 h6.1) ?_ ?_
      ·refine Cd et (fun ev ew=>?_) (fun ev ex=>?_)
       ·refine Sq (Rg (rG 7) ?_)
        refine Vs 2 ?_
        obtain ⟨ey,ez,g0⟩:=bS ew
        obtain ⟨g1,hx286'⟩:=Ap ez
        obtain ⟨g2,g3,jh,ji,jj,rfl,hF295,hE296⟩:=Xy (Xt b5 hp) hx286'
        have g4:=hE296 _ _ hx286'
        refine Ix g1<|Lx 0 (hw.pers _ _ hF295) g4 ?_
        obtain ⟨g5,g6,g7⟩:=bS g0
        refine Cl' DU hw (ED N er hc hw.pers (hG.mono (((((ht.t h7).trans b2).trans ha).trans bk).trans hp)) ey _ g6) ?_
        rintro _ g8 jk g9 bo rfl
        refine Vs 1<|St1 #[(vi h1.2),(vi h3.2),(vi g5)] g9 (fun jl ga=>?_)
        refine Nt<|Rg [0,1,2]<|Vs 1 ?_
        obtain ⟨gh,gi,gk⟩:=bS g7
        obtain ⟨gl,gm,gn,go,gp⟩:=FE (P:=Tryz.prog) (T:=AN) (lo:=(some (.const (vi 1)))) (hi:=none) (mx:=none) (t:=55) (E:=9) (by_:=16) (c:=hb) (a:=(some ⟨g2,g3,none⟩)) (l:=h3.1) (r:=gh) (il:=1) (ih:=(h3.1.length:Int)) (im:=0) (by kernel_rfl) (by kernel_rfl) bl (Xt b5 (hp.t bo)) (fun h=>by first | rfl | cases h) gi
        refine V 43 55 (gp (x:=(.tmp 42)) rfl rfl rfl trivial)<|Vs 1<|Xm ?_
        obtain rfl:=Aa gk
        exact .inl ⟨rfl,g8,gl,gm,ga,bo,fI,gn,go⟩
       ·refine Sc ?_
        obtain rfl:=Aa ex
        exact .inl ⟨rfl,hc,hm,hb,hw,(Xr _),fI,bl,(Xt b5 hp)⟩
      ·rintro f gr ⟨hq,b7,b8,hx,gs,⟨_,rfl⟩,jm,jo⟩
       refine Av<|Ab<|Rg [0,1]<|Vs 2<|Nt<|URL.step<|Sq (Rg [0] ?_)
       refine Vs 1<|Nss<|C0 (rfl:false=false)<|Ex<|Au<|Au<|AB rfl<|Ab<|Sq<|Sq (Rg (rG 8) ?_)
       refine Ld hx.at3<|Ld hx.at1 ?_
       obtain ⟨b9,gu,gv⟩:=bS eu
       refine Cl' Dn hx (DL N gr hq hx.pers (hG.mono ((((((ht.t h7).trans b2).trans ha).trans bk).trans hp).trans gs)) (({Report:=x0.Report,Serial:=x0.Serial,Zone:=x0.Zone}:Ac)) (({Report:=h1.2,Serial:=h3.2,Zone:=h6.2}:Ae)) _ gu) ?_
       rintro _ ba jp bp jq rfl
       refine Vs 5<|Nss (Rg (rG 7) ?_)
       refine Xw (fun f w=>∃ (hr:Mem),HS w0 F0 w hr [(sb h0 #[(vi h1.2),(vi h3.2),(vi h6.2)] 32),(sb h4 #[(vi 0),(vi 0),(vi 0)] 32)]/\Xq ba hr/\FI f [] [(4,(pt h4 0)),(7,(pt h0 0)),(57,(.bool ((b9.2 !=0)||(b9.1 !=x1))))]) ?_ ?_
       ·refine Vs 3 ?_
        refine Xv (b9.2 !=0) (fun h8=>?_) (fun h8=>?_)
        ·refine Ss h8 3 ?_
         refine Pk1 h8 ?_
         exact Xm ⟨rfl,ba,bp.dr0.dr2,(Xr _),(fJ ⟨rfl,rfl,(congrArg Value.bool (G9 h8 rfl)),trivial⟩)⟩
        ·refine Vgs h8 3 ?_
         refine Pk0 h8 ?_
         exact Xm ⟨rfl,ba,bp.dr0.dr2,(Xr _),(fJ ⟨rfl,rfl,(congrArg Value.bool (C9 h8 rfl)),trivial⟩)⟩
       ·rintro f jr ⟨hr,bb,js,⟨_,rfl⟩⟩
        refine Ab<|Cd gv (fun gw gx=>?_) (fun gw gy=>?_)
        ·refine Sq (Rg [0,1,2] ?_)
         refine Vs 1<|St1 #[(vi 0),(vi 0),(vi 0)] bb (fun jt bq=>?_)
         refine Vs 1<|Nt<|Rt<|Af ?_
         obtain rfl:=Aa gx
         exact ⟨rfl,(.tuple #[(.agg #[(vi 0),(vi 0),(vi 0)]),(vi 1)]),AR (l:=[.cell 4 32,.tmp 5]) (by kernel_rfl) (vs:=[(.agg #[(vi 0),(vi 0),(vi 0)]),(vi 1)]) ⟨h4,0,rfl,Am (t:=32) (g:=true) (s:=3) (by kernel_rfl) bq.at1 rfl (by decide),⟨rfl,trivial⟩⟩,(.tuple #[(.agg #[(vi 0),(vi 0),(vi 0)]),(vi 1)]),hr,rfl,bq.clear,rfl⟩
        ·refine Sc ?_
         refine Ab<|Sq (Rg [0,1,2] ?_)
         refine Ld bb.at0<|St1 #[(vi h1.2),(vi h3.2),(vi h6.2)] bb (fun ju br=>?_)
         refine Vs 1<|Nt<|Rt ?_
         obtain rfl:=Aa gy
         exact ⟨rfl,(.tuple #[(.agg #[(vi h1.2),(vi h3.2),(vi h6.2)]),(vi 0)]),AR (l:=[.cell 4 32,.tmp 5]) (by kernel_rfl) (vs:=[(.agg #[(vi h1.2),(vi h3.2),(vi h6.2)]),(vi 0)]) ⟨h4,0,rfl,Am (t:=32) (g:=true) (s:=3) (by kernel_rfl) br.at1 rfl (by decide),⟨rfl,trivial⟩⟩,(.tuple #[(.agg #[(vi h1.2),(vi h3.2),(vi h6.2)]),(vi 0)]),hr,rfl,br.clear,rfl⟩






def A3 (N:Nat) (x0:(List XL)) (x1:XL):Option Bool:=
 ((AP N x0 x1).bind fun h0=>some (decide (h0>=0)))
theorem Ew:Aj Tryz.prog 122:=fun _ _=>by kernel_rfl
theorem EG (N:Nat) (w0:World) (F0:Mem) (hF:XN w0 F0) (x0:(List XL)) (h0:XM) (h1:Nat) (h3:LC x0.length h1) (h4:SlA AN F0 h0 x0) (x1:XL) (r:Bool) (h:A3 N x0 x1=some r):
  Calls Tryz.prog 122 ([(sL h0 x0 h1),(sv x1)]:List Value).toArray w0 (AA w0 F0 fun F' v=>v=(.bool r)):=by
 have h2:=Xs hF
 refine Go 9 Tryz.func122<|Sq (Rg [0] ?_)
 refine Vs 1<|Nss (Rg (rG 5) ?_)
 refine Vs 2 ?_
 obtain ⟨h5,h6,h7⟩:=bS h
 refine Cl' CO h2 (CY N w0 F0 h2.pers x0 h0 h1 h3 h4 x1 _ h6) ?_
 rintro _ F1 h9 h8 ha rfl
 refine Vs 2<|Nt<|Rt ?_
 obtain rfl:=Aa h7
 exact Re [(.bool (decide (h5>=0)))] h8 rfl
def A7 (N:Nat) (x0:List Fix):(Int×Int×List Fix)->Option (BC (List Fix) (Int×Int×List Fix)):=fun s4=>
 (bif (decide (s4.1 < s4.2.1)) then none else some (.done (s4.1,s4.2.1,s4.2.2)))
def Bh (N:Nat) (x0:List Fix):Option (List Fix):=
 ((AU (A7 N x0) N (0,(W64 ((x0.length:Int) - 1)),x0)).bind fun o=>o.k (fun r=>some r) (fun h0=>some h0.2.2))
theorem Eg:Aj Tryz.prog 126:=fun _ _=>by kernel_rfl
theorem EB (N:Nat) {wb w0:World} {Fb F0:Mem} {Lf:Own} (x0:List Fix) (a0:XM) (n0:Nat) (e0:Option Nat×Obj) (h4:As JV 64 F0 a0 n0 x0 e0) (h5:HS wb Fb w0 F0 (e0::Lf)) (r:List Fix) (h:Bh N x0=some r):
  Calls Tryz.prog 126 ([.slice a0 x0.length n0]:List Value).toArray w0 (fun e w'=>∃ F' e',e=.returned (.tuple #[])/\HS wb Fb w' F' (e'::Lf)/\Xq F0 F'/\As JV 64 F' a0 n0 r e'):=by
 refine Nx (n:=28) (c:=ND Tryz.f126) Tryz.func126 (by kernel_rfl) (by kernel_rfl) (by kernel_rfl)<|Sq (Rg (rG 5) ?_)
 refine Vs 1<|Vs 1<|Vs 1<|Vs 1<|Vs 1<|Nt ?_
 obtain ⟨o1,h6,h3⟩:=bS h
 refine Xx (fun f w=>∃ (h1:(Int×Int×List Fix)) (F2:Mem) (h2:Option Nat×Obj),o1=.done h1/\HS wb Fb w F2 (h2::Lf)/\Xq F0 F2/\FI f [] []/\As JV 64 F2 a0 n0 h1.2.2 h2) ?_ ?_
 ·refine Bk ?_
  refine Xp (by kernel_rfl) (fun m f w=>∃ (s4:(Int×Int×List Fix)) (F1:Mem) (h0:Option Nat×Obj),AU (A7 N x0) m s4=some o1/\HS wb Fb w F1 (h0::Lf)/\Xq F0 F1/\FI f [] [(0,(sL a0 s4.2.2 n0)),(2,(vi s4.1)),(3,(vi s4.2.1))]/\As JV 64 F1 a0 n0 s4.2.2 h0) N ⟨(0,(W64 ((x0.length:Int) - 1)),x0),F0,e0,h6,h5,(Xr _),fI,h4⟩ ?_
  rintro hp f w5 ⟨s4,F1,h0,h7,h8,h9,⟨_,rfl⟩,ha⟩
  obtain ⟨hq,hr,rfl,hb,hc⟩:=AV h7
  refine Sq<|Sq (Rg [0,1,2] ?_)
  refine Vs 1<|Vs 1<|Vs 1<|Nt<|Cd hb (fun he hf=>?_) (fun he hg=>?_)
  ·cases hf
  ·refine Ex ?_
   refine Au<|Au<|AB rfl ?_
   have hh:=AX hg hc
   exact .inl ⟨rfl,(s4.1,s4.2.1,s4.2.2),F1,h0,hh,h8,h9,fI,ha⟩
 ·rintro f ht ⟨h1,F2,h2,rfl,hl,hm,⟨_,rfl⟩,hn⟩
  have ho:=BX h3
  have hfin:=Aa ho
  subst hfin
  exact ⟨rfl,.tuple #[],AR (l:=[]) (by kernel_rfl) (vs:=[]) trivial,F2,_,rfl,hl,hm,hn⟩











def Bl (N:Nat) (x0:(List Line)) (x1:Int) (x2:(Line->Int->Option Int)):(Int×Int)->Option (BC (Int×Bool) (Int×Int)):=fun h0=>
 (bif (decide (h0.1 < h0.2)) then ((idx x0 (W64 (Int.fdiv (IntKind.u64.wrap (W64 (h0.1 + h0.2))) (2 ^ min (1:Int).toNat IntKind.u64.bits)))).bind fun h1=>((x2 h1 x1).bind fun h2=>(bif (decide (h2 < 0)) then none else some (.next (h0.1,(W64 (Int.fdiv (IntKind.u64.wrap (W64 (h0.1 + h0.2))) (2 ^ min (1:Int).toNat IntKind.u64.bits)))))))) else some (.done (h0.1,h0.2)))
def Bv (N:Nat) (x0:(List Line)) (x1:Int) (x2:(Line->Int->Option Int)):Option (Int×Bool):=
 ((AU (Bl N x0 x1 x2) N (0,(x0.length:Int))).bind fun o=>o.k (fun r=>some r) (fun h0=>(bif (decide (h0.1 < (x0.length:Int))) then ((idx x0 h0.1).bind fun h1=>((x2 h1 x1).bind fun h2=>some (h0.1,(h2==0)))) else none)))
theorem B9:Aj Tryz.prog 252:=fun _ _=>by kernel_rfl
theorem Cs (N:Nat) (w0:World) (F0:Mem) (hF:XN w0 F0) (x0:(List Line)) (h5:XM) (h6:Nat) (bn:LC x0.length h6) (hc:SlA AD F0 h5 x0) (x1:Int) (h4:FuncId) (h2 h3:List Value) (x2:Line->Int->Option Int) (he:Aj Tryz.prog h4) (hf:R8 F0 h4 h2 h3 x2) (r:(Int×Bool)) (h:Bv N x0 x1 x2=some r):
  Calls Tryz.prog 252 ([(sL h5 x0 h6),(vi x1),(.func (.func h4) h2.toArray h3.toArray)]:List Value).toArray w0 (AA w0 F0 fun F' v=>v=(.tuple #[(vi r.1),(.bool r.2)])):=by
 have hm:=Xs hF
 refine Go 49 Tryz.func252<|Sq (Rg [0,1] ?_)
 refine Vs 2<|Nss (Rg [0,1,2] ?_)
 refine Vs 3<|Nss (Rg [0,1,2] ?_)
 refine Vs 3<|Nss ?_
 obtain ⟨hg,hn,ho⟩:=bS h
 refine Xx (fun f w=>∃ (h7:(Int×Int)) (F2:Mem),hg=.done h7/\HS w0 F0 w F2 []/\Xq F0 F2/\FI f [] [(0,(sL h5 x0 h6)),(1,(vi x1)),(2,(.func (.func h4) h2.toArray h3.toArray)),(8,(vi (x0.length:Int))),(9,(vi h7.1))]) ?_ ?_
 ·refine Bk ?_
  refine Xp (by kernel_rfl) (fun m f w=>∃ (h0:(Int×Int)) (F1:Mem),AU (Bl N x0 x1 x2) m h0=some hg/\HS w0 F0 w F1 []/\Xq F0 F1/\FI f [] [(0,(sL h5 x0 h6)),(1,(vi x1)),(2,(.func (.func h4) h2.toArray h3.toArray)),(8,(vi (x0.length:Int))),(9,(vi h0.1)),(10,(vi h0.2))]) N ⟨(0,(x0.length:Int)),F0,hn,hm,(Xr _),fI⟩ ?_
  rintro bo f hp ⟨h0,F1,hq,h8,h9,⟨_,rfl⟩⟩
  obtain ⟨hr,bp,rfl,ht,hh⟩:=AV hq
  refine Sq<|Sq (Rg [0,1,2] ?_)
  refine Vs 3<|Nt<|Cd ht (fun hu hv=>?_) (fun hu hw=>?_)
  ·refine Sc ?_
   refine Ab<|Bk<|Sq (Rg (rG 7) ?_)
   refine Vs 4<|V 22 222 (UD (t:=222) (t':=222) (x:=(.tmp 21)) (y:=(.const (.int .u64 1))) (k:=.u64) (q:=.u64) (a:=(IntKind.u64.wrap (W64 (h0.1 + h0.2)))) (b:=1) rfl rfl (by decide))<|Vs 2<|Nss (Rg (rG 8) ?_)
   refine Vs 3 ?_
   obtain ⟨hx,hy,hz⟩:=bS hv
   obtain ⟨b0,hx55'⟩:=Ap hy
   obtain ⟨bq,br,bs,bt,bu,rfl,hF64,hE65⟩:=Xy (Xt hc h9) hx55'
   have b1:=hE65 _ _ hx55'
   refine Ix b0<|Lx 0 (h8.pers _ _ hF64) b1<|Vs 1 ?_
   obtain ⟨bv,b2,b3⟩:=bS hz
   refine Cq he h8 (hf hp F1 hx x1 _ h9 h8.pers b2) ?_
   rintro _ F3 bw b4 b5 rfl
   refine Vs 1<|Nt<|Cd b3 (fun b6 b7=>?_) (fun b6 b8=>?_)
   ·cases b7
   ·refine Rg [0,1] ?_
    refine Vs 2<|Xm<|Av ?_
    have b9:=AW b8 hh
    exact ⟨hr,Nat.lt_succ_self _,(h0.1,(W64 (Int.fdiv (IntKind.u64.wrap (W64 (h0.1 + h0.2))) (2 ^ min (1:Int).toNat IntKind.u64.bits)))),F3,b9,b4,(h9.t b5),fI⟩
  ·refine Ex ?_
   refine Au<|Au<|AB rfl ?_
   have ba:=AX hw hh
   exact .inl ⟨rfl,(h0.1,h0.2),F1,ba,h8,h9,fI⟩
 ·rintro f bb ⟨h7,F2,rfl,ha,hl,⟨_,rfl⟩⟩
  have bc:=BX ho
  refine Ab<|Sq (Rg (rG 16) ?_)
  refine Vs 5<|Sp bc (fun h1 bd=>?_) (fun h1 be=>?_)
  ·refine Vgs h1 3 ?_
   obtain ⟨hb,bf,bg⟩:=bS bd
   obtain ⟨bh,hx86'⟩:=Ap bf
   obtain ⟨bx,bz,c0,c1,c3,rfl,hF95,hE96⟩:=Xy (Xt hc hl) hx86'
   have bi:=hE96 _ _ hx86'
   refine Ixg h1 bh<|Lxg h1 0 (ha.pers _ _ hF95) bi<|Vgs h1 1 ?_
   obtain ⟨bj,bk,bl⟩:=bS bg
   refine RWP.call (dst:=(some 46)) (ty:=3) (g:=(some (4,true))) (by kernel_rfl) (Ih (d:=39) (by kernel_rfl) rfl h1) (f0:=(.tmp 40)) (aos:=#[(.tmp 44),(.tmp 45)]) (ats:=#[34,3]) (fid:=h4) (first:=h2.toArray) (cap:=h3.toArray) (args:=(h2++(([(.agg (Cn hb)),(vi x1)]:List Value)++h3))) rfl he (Ee (l:=[(.agg (Cn hb)),(vi x1)]) (fi:=h2) (k:=h3) rfl) ha (hf bb F2 hb x1 _ hl ha.pers bk) ?_
   rintro _ F4 c4 bm c5 rfl
   refine Vgs h1 1<|Pk1 h1<|Vs 2<|Nt<|Rt ?_
   obtain rfl:=Aa bl
   exact Re [(vi h7.1),(.bool (bj==0))] bm rfl
  ·cases be
def GI (N:Nat) (x0:Int):Option Bool:=
 some (x0 !=x0)
theorem GT:Aj Tryz.prog 281:=fun _ _=>by kernel_rfl
theorem HJ (N:Nat) (w0:World) (F0:Mem) (hF:XN w0 F0) (x0:Int) (r:Bool) (h:GI N x0=some r):
  Calls Tryz.prog 281 ([(vi x0)]:List Value).toArray w0 (AA w0 F0 fun F' v=>v=(.bool r)):=by
 have h0:=Xs hF
 refine Go 6 Tryz.func281<|Sq (Rg [0] ?_)
 refine Vs 1<|Nss (Rg (rG 4) ?_)
 refine Vs 4<|Nt<|Rt ?_
 obtain rfl:=Aa h
 exact Re [(.bool (x0 !=x0))] h0 rfl
def HH (N:Nat) (x0 x1:Int):Option Int:=
 ((GI N x0).bind fun h0=>((GI N x1).bind fun h1=>(bif h0 then none else (bif h1 then none else (bif (decide (x0 < x1)) then none else (bif (decide (x0 > x1)) then none else some 0))))))
theorem JJ:Aj Tryz.prog 254:=fun _ _=>by kernel_rfl
theorem KG (N:Nat) (w0:World) (F0:Mem) (hF:XN w0 F0) (x0 x1 r:Int) (h:HH N x0 x1=some r):
  Calls Tryz.prog 254 ([(vi x0),(vi x1)]:List Value).toArray w0 (AA w0 F0 fun F' v=>v=(vi r)):=by
 have h0:=Xs hF
 refine Go 20 Tryz.func254<|Sq (Rg [0] ?_)
 refine Vs 1<|Nss (Rg [0,1,2] ?_)
 refine Vs 1 ?_
 obtain ⟨ho,h2,h3⟩:=bS h
 refine Cl' GT h0 (HJ N w0 F0 h0.pers x0 _ h2) ?_
 rintro _ F1 h4 h1 hp rfl
 refine Vs 1<|Nss (Rg [0,1,2] ?_)
 refine Vs 1 ?_
 obtain ⟨hq,h5,h6⟩:=bS h3
 refine Cl' GT h1 (HJ N h4 F1 h1.pers x1 _ h5) ?_
 rintro _ F2 hr h7 ht rfl
 refine Vs 1<|Nss<|Sq (Rg [0] ?_)
 refine Vs 1<|Nt<|Cd h6 (fun h8 h9=>?_) (fun h8 ha=>?_)
 ·cases h9
 ·refine Sc ?_
  refine Ab<|Sq<|Sq (Rg [0] ?_)
  refine Vs 1<|Nt<|Cd ha (fun hb hc=>?_) (fun hb he=>?_)
  ·cases hc
  ·refine Sc ?_
   refine Ab<|Sq<|Sq (Rg [0,1,2] ?_)
   refine Vs 3<|Nt<|Cd he (fun hf hg=>?_) (fun hf hh=>?_)
   ·cases hg
   ·refine Sc ?_
    refine Ab<|Sq<|Sq (Rg [0,1,2] ?_)
    refine Vs 3<|Nt<|Cd hh (fun hl hm=>?_) (fun hl hn=>?_)
    ·cases hm
    ·refine Sc ?_
     refine Ab<|Sq (Rg [0] ?_)
     refine Vs 1<|Nt<|Rt ?_
     obtain rfl:=Aa hn
     exact Re [(vi 0)] h7 rfl

end Go.Proofs.YthljkpeimofbbaaGreatDoor

namespace Go.Proofs.YthljkpeimofbbaaGreatDoor
def isL (b:UInt8):Bool:=decide (65<=b.toNat)&&decide (b.toNat<=90)
def isD (b:UInt8):Bool:=decide (48<=b.toNat)&&decide (b.toNat<=57)
def isE (b:UInt8):Bool:=isL b||isD b
theorem TW {b:UInt8} (h:128<=b.toNat):isL b=false:=by unfold isL;simp;omega
theorem TX {b:UInt8} (h:128<=b.toNat):isD b=false:=by unfold isD;simp;omega
theorem Wg {b:UInt8} (h:128<=b.toNat):isE b=false:=by unfold isE;rw [TW h,TX h];rfl
theorem O0 {b:UInt8} (h:isE b=true):b.toNat < 128:=by unfold isE isL isD at h;simp at h;omega
theorem Xb {b:UInt8} (h:isL b=true):isD b=false:=by unfold isL at h;unfold isD;simp at h ⊢;omega
theorem PO (N:Nat) (b:UInt8):BR N (b.toNat:Int)=some (isL b):=by
 unfold BR isL
 congr 2 <;> (rw [decide_eq_decide];omega)
theorem RI (N:Nat) (b:UInt8):Bj N (b.toNat:Int)=some (isD b):=by
 unfold Bj isD
 congr 2 <;> (rw [decide_eq_decide];omega)
theorem Ka (N:Nat) {n:Nat} (h:128<=n):BR N (n:Int)=some false:=by
 unfold BR
 have:decide ((n:Int)<=90)=false:=by rw [decide_eq_false_iff_not];omega
 rw [this,Bool.and_false]
theorem LA (N:Nat) {n:Nat} (h:128<=n):Bj N (n:Int)=some false:=by
 unfold Bj
 have:decide ((n:Int)<=57)=false:=by rw [decide_eq_false_iff_not];omega
 rw [this,Bool.and_false]
theorem TA (N:Nat) (b:UInt8):Dw N (b.toNat:Int)=some (isE b):=by
 unfold Dw isE
 rw [PO,RI]
 cases isL b <;> rfl
theorem OP (N:Nat) {n:Nat} (h:128<=n):Dw N (n:Int)=some false:=by
 unfold Dw
 rw [Ka N h,LA N h]
 rfl
theorem MW (N:Nat) (a b c:Int):FR N a b c=some (decide (b<=a)&&decide (a<=c)):=rfl
structure FX (p:Int->Option Bool) (P:UInt8->Bool):Prop where
 lo:∀ b:UInt8,b.toNat < 128->p (b.toNat:Int)=some (P b)
 hi:∀ n:Nat,128<=n->p (n:Int)=some false
 big:∀ b:UInt8,128<=b.toNat->P b=false
theorem Th (N:Nat):FX (fun y0=>BR N y0) isL:=⟨fun b _=>PO N b,fun _ h=>Ka N h,fun _ h=>TW h⟩
theorem Rx (N:Nat):FX (fun y0=>Bj N y0) isD:=⟨fun b _=>RI N b,fun _ h=>LA N h,fun _ h=>TX h⟩
theorem WI (N:Nat):FX (fun y0=>Dw N y0) isE:=⟨fun b _=>TA N b,fun _ h=>OP N h,fun _ h=>Wg h⟩
theorem FX.some {p:Int->Option Bool} {P:UInt8->Bool} (h:FX p P) (n:Nat):(p (n:Int)).isSome=true:=by
 rcases Nat.lt_or_ge n 128 with h' | h'
 ·have:=h.lo (UInt8.ofNat n) (by rw [UInt8.toNat_ofNat'];omega)
  have e:(UInt8.ofNat n).toNat=n:=by rw [UInt8.toNat_ofNat'];omega
  rw [e] at this
  rw [this];rfl
 ·rw [h.hi n h'];rfl
theorem FX.all {p:Int->Option Bool} {P:UInt8->Bool} (h:FX p P):J4 p=true:=H0.2 fun n _=>h.some n
theorem GN {p:Int->Option Bool} {P:UInt8->Bool} (hp:FX p P) {N:Nat} (s:XL) (most:Int) (hN:s.length < N):
  Fc N s most p=some (s.all P&&(decide (1<=(s.length:Int))&&decide ((s.length:Int)<=most))):=by
 have key:=Et (body:=Fa N s most p) s.length (fun i (st:Nat)=>st=i/\(s.take i).all P=true)
  (fun o=>(s.all P=true/\o=.done s.length)\/(s.all P=false/\o=.ret false)) (by
   rintro i st hi ⟨rfl,hall⟩
   by_cases h:st < s.length
   ·have hget:s[st]? =some s[st]:=List.getElem?_eq_getElem h
    unfold Fa
    simp only [h,decide_true,cT]
    have htake:s.take (st + 1)=s.take st++[s[st]]:=by rw [List.take_add_one,hget];rfl
    have hfalse:P s[st]=false->s.all P=false:=fun hP=>by
     rw [List.all_eq_false];exact ⟨s[st],List.getElem_mem h,by rw [hP];simp⟩
    rcases Nat.lt_or_ge s[st].toNat 128 with hb | hb
    ·rw [MG hget hb,hp.lo _ hb]
     simp only [oS]
     cases hP:P s[st] with
     | true=>exact .inl ⟨st + 1,rfl,⟨rfl,by rw [htake,List.all_append,hall];simp [hP]⟩,trivial⟩
     | false=>exact .inr ⟨.ret false,rfl,(fun _ e=>by cases e),.inr ⟨hfalse hP,rfl⟩⟩
    ·have hs:=Qy hget hb
     rw [hp.hi _ hs.1]
     simp only [oS]
     exact .inr ⟨.ret false,rfl,(fun _ e=>by cases e),.inr ⟨hfalse (hp.big _ hb),rfl⟩⟩
   ·have:st=s.length:=by omega
    subst this
    unfold Fa
    simp only [Nat.lt_irrefl,decide_false,cF]
    exact .inr ⟨_,rfl,(fun _ e=>by cases e),.inl ⟨by simpa using hall,rfl⟩⟩) s.length N 0 0 (by omega) ⟨rfl,rfl⟩ hN
 obtain ⟨o,ho,hR⟩:=key
 unfold Fc
 rw [ho]
 rcases hR with ⟨h1,rfl⟩ | ⟨h1,rfl⟩
 ·simp only [oS,BC.k,MW,h1,Bool.true_and]
 ·simp only [oS,BC.k,h1,Bool.false_and]
theorem N9 {p:Int->Option Bool} {P:UInt8->Bool} (hp:FX p P) {b:UInt8} (h:b.toNat < 128):Ff p b.toNat=P b:=by unfold Ff;rw [hp.lo b h];rfl
theorem Kj {p:Int->Option Bool} {P:UInt8->Bool} (hp:FX p P) (s:XL) (ha:∀ b,b∈s->b.toNat < 128):∀ (f i:Nat),s.length<=i + f->i<=s.length->
  (0<=Go.Lib.idxFuncFrom (Ff p) true ⟨s.toArray⟩ f i ↔ (s.drop i).any P=true)
 | 0,i,h1,h2=>by
  have:i=s.length:=by omega
  subst this
  simp [Go.Lib.idxFuncFrom]
 | f + 1,i,h1,h2=>by
  unfold Go.Lib.idxFuncFrom
  have hsz:(⟨s.toArray⟩:ByteArray).size=s.length:=by simp [ByteArray.size]
  rw [hsz]
  by_cases h:i < s.length
  ·rw [if_pos h]
   have hget:s[i]? =some s[i]:=List.getElem?_eq_getElem h
   have hd:Utf8.decode ⟨s.toArray⟩ i=(s[i].toNat,1):=MG hget (ha _ (List.getElem_mem h))
   rw [hd]
   simp only
   rw [N9 hp (ha _ (List.getElem_mem h)),List.drop_eq_getElem_cons h,List.any_cons]
   cases hP:P s[i] with
   | true=>simp
   | false=>
    simp only [Bool.false_eq_true,if_false,Bool.false_or]
    exact Kj hp s ha f (i + 1) (by omega) (by omega)
  ·have:i=s.length:=by omega
   subst this
   simp
theorem SK {p:Int->Option Bool} {P:UInt8->Bool} (hp:FX p P) {N:Nat} (s:XL) (ha:∀ b,b∈s->b.toNat < 128):∃ r,Cj N s p=some r/\decide (r>=0)=s.any P:=by
 refine ⟨_,by unfold Cj;rw [if_pos hp.all],?_⟩
 have:=Kj hp s ha s.length 0 (by omega) (by omega)
 have hsz:(⟨s.toArray⟩:ByteArray).size=s.length:=by simp [ByteArray.size]
 unfold Go.Lib.idxFunc
 rw [hsz]
 rw [List.drop_zero] at this
 cases hs:s.any P with
 | true=>rw [hs] at this;exact decide_eq_true (this.2 rfl)
 | false=>
  rw [hs] at this
  exact decide_eq_false fun h=>by have:=this.1 h;cases this
def NN:XL->Nat
 | []=>0
 | b::r=>if isD b then r.length + 1 else NN r
def B8 (s:XL):Nat:=NN s.reverse
theorem P8:B8 []=0:=rfl
theorem SP (l:XL) (b:UInt8):B8 (l++[b])=if isD b then l.length + 1 else B8 l:=by
 unfold B8
 rw [List.reverse_append]
 simp [NN]
theorem O9:∀ l:XL,NN l<=l.length
 | []=>Nat.le_refl _
 | b::r=>by
  unfold NN
  split
  ·exact Nat.le_refl _
  ·exact Nat.le_succ_of_le (O9 r)
theorem Vq (s:XL):B8 s<=s.length:=by unfold B8;have:=O9 s.reverse;simpa using this
theorem Om:∀ l:XL,∀ b,b∈l.take (l.length - NN l)->isD b=false
 | [],b,h=>by simp at h
 | c::r,b,h=>by
  unfold NN at h
  split at h
  ·simp at h
  ·rename_i hc
   have hc':isD c=false:=by simpa using hc
   have:=O9 r
   rw [show (c::r).length - NN r=(r.length - NN r) + 1 by simp;omega,List.take_succ_cons] at h
   rcases List.mem_cons.1 h with rfl | h
   ·exact hc'
   ·exact Om r b h
theorem SQ (s:XL):∀ b,b∈s.drop (B8 s)->isD b=false:=by
 intro b hb
 have h:=Om s.reverse b
 have e:s.reverse.take (s.reverse.length - NN s.reverse)=(s.drop (B8 s)).reverse:=by
  rw [List.reverse_drop,List.length_reverse];rfl
 rw [e] at h
 exact h (by simpa using hb)
theorem Jj (N:Nat) (s:XL) (ha:∀ b,b∈s->b.toNat < 128):∀ (f i:Nat),i<=f->i<=s.length->
  Go.Lib.lastIdxFuncFrom (Ff fun y0=>Bj N y0) true ⟨s.toArray⟩ f i + 1=(B8 (s.take i):Int)
 | 0,i,h1,h2=>by
  have:i=0:=by omega
  subst this
  simp [Go.Lib.lastIdxFuncFrom,P8]
 | f + 1,0,h1,h2=>by simp [Go.Lib.lastIdxFuncFrom,P8]
 | f + 1,i + 1,h1,h2=>by
  unfold Go.Lib.lastIdxFuncFrom
  rw [if_pos (Nat.succ_pos i)]
  have h:i < s.length:=by omega
  have htake:s.take (i + 1)=s.take i++[s[i]]:=by rw [List.take_add_one,List.getElem?_eq_getElem h];rfl
  have hb:=ha _ (List.getElem_mem h)
  have hdl:Go.Lib.decodeLastL (s.take (i + 1))=(s[i].toNat,1):=by
   unfold Go.Lib.decodeLastL
   rw [if_neg (fun e=>by have h9:=congrArg List.length e;rw [List.length_take,List.length_nil] at h9;omega)]
   have hlen:(s.take (i + 1)).length - 1=i:=by rw [List.length_take];omega
   have hg:(s.take (i + 1)).getD i 0=s[i]:=by
    rw [List.getD_eq_getElem?_getD,List.getElem?_take,if_pos (by omega),List.getElem?_eq_getElem h];rfl
   rw [hlen,hg,if_pos hb]
  simp only [List.toList_toArray] at *
  rw [hdl]
  simp only
  rw [N9 (Rx N) hb,htake,SP]
  cases hP:isD s[i] with
  | true=>
   simp only [if_true]
   rw [List.length_take,Nat.min_eq_left (by omega)]
   simp
  | false=>
   simp only [Bool.false_eq_true,if_false]
   rw [show i + 1 - 1=i by omega]
   exact Jj N s ha f i (by omega) (by omega)
theorem Gu (i:Nat) (h:i < 4611686018427387904):W64 ((i:Int) + 1)=((i + 1:Nat):Int):=by
 rw [Eb (by omega) (by omega)];omega
def pcs (c:UInt8):XL->List XL
 | []=>[[]]
 | b::s=>if b=c then []::pcs c s else match pcs c s with
  | p::r=>(b::p)::r
  | []=>[[b]]
theorem G6 (c:UInt8):∀ s,pcs c s≠[]
 | []=>by simp [pcs]
 | b::s=>by
  unfold pcs
  split
  ·simp
  ·split <;> simp
theorem E0 {c:UInt8}:∀ {a:XL},c∉a->pcs c a=[a]
 | [],_=>rfl
 | b::s,h=>by
  have h1:¬ b=c:=fun e=>h (by rw [e];exact List.mem_cons_self)
  have h2:c∉s:=fun hm=>h (List.mem_cons_of_mem _ hm)
  unfold pcs
  rw [if_neg h1,E0 h2]
theorem Gc {c:UInt8}:∀ {a t:XL},c∉a->pcs c (a++c::t)=a::pcs c t
 | [],t,_=>by simp [pcs]
 | b::s,t,h=>by
  have h1:¬ b=c:=fun e=>h (by rw [e];exact List.mem_cons_self)
  have h2:c∉s:=fun hm=>h (List.mem_cons_of_mem _ hm)
  rw [List.cons_append]
  conv=>lhs;unfold pcs
  rw [if_neg h1,Gc h2]
theorem RA (c:UInt8):∀ s,(pcs c s).length=s.count c + 1
 | []=>rfl
 | b::s=>by
  have:=RA c s
  unfold pcs
  by_cases h:b=c
  ·rw [if_pos h,List.length_cons,this,h];simp
  ·rw [if_neg h,List.count_cons_of_ne (by simpa using h)]
   cases hp:pcs c s with
   | nil=>exact absurd hp (G6 c s)
   | cons p r=>rw [hp] at this;simpa using this
theorem J6 (c:UInt8):∀ s,[c].intercalate (pcs c s)=s
 | []=>rfl
 | b::s=>by
  have ih:=J6 c s
  unfold pcs
  by_cases h:b=c
  ·rw [if_pos h]
   cases hp:pcs c s with
   | nil=>exact absurd hp (G6 c s)
   | cons p r=>
    rw [hp] at ih
    subst h
    simp only [List.intercalate] at ih ⊢
    simp only [List.intersperse_cons_cons,List.flatten_cons,List.nil_append,List.cons_append]
    rw [ih]
  ·rw [if_neg h]
   cases hp:pcs c s with
   | nil=>exact absurd hp (G6 c s)
   | cons p r=>
    rw [hp] at ih
    simp only
    cases r with
    | nil=>simp [List.intercalate] at ih ⊢;exact ih
    | cons q r=>
     simp only [List.intercalate,List.intersperse_cons_cons,List.flatten_cons,List.cons_append] at ih ⊢
     rw [ih]
theorem Ej {c:UInt8}:∀ {s:XL},c∈s->∃ a t,s=a++c::t/\c∉a
 | b::s,h=>by
  by_cases hb:b=c
  ·exact ⟨[],s,by rw [hb];rfl,by simp⟩
  ·rcases List.mem_cons.1 h with e | h
   ·exact absurd e.symm hb
   ·obtain ⟨a,t,h1,h2⟩:=Ej h
    exact ⟨b::a,t,by rw [h1];rfl,fun hm=>by
     rcases List.mem_cons.1 hm with e | hm
     ·exact hb e.symm
     ·exact h2 hm⟩
theorem Ig {c:UInt8}:∀ {s:XL},c∉s->Go.Lib.index s [c]= -1
 | [],_=>rfl
 | b::s,h=>by
  have h1:¬ c=b:=fun e=>h (by rw [e];exact List.mem_cons_self)
  have h2:c∉s:=fun hm=>h (List.mem_cons_of_mem _ hm)
  unfold Go.Lib.index
  rw [if_neg (by simp [List.isPrefixOf];exact h1),Ig h2]
  rfl
theorem Ie {c:UInt8}:∀ {a t:XL},c∉a->Go.Lib.index (a++c::t) [c]=(a.length:Int)
 | [],t,_=>by
  show Go.Lib.index (c::t) [c]=0
  unfold Go.Lib.index
  rw [if_pos (by simp [List.isPrefixOf])]
 | b::s,t,h=>by
  have h1:¬ c=b:=fun e=>h (by rw [e];exact List.mem_cons_self)
  have h2:c∉s:=fun hm=>h (List.mem_cons_of_mem _ hm)
  rw [List.cons_append]
  unfold Go.Lib.index
  rw [if_neg (by simp [List.isPrefixOf];exact h1),Ie h2,if_neg (by simp <;> omega)]
  simp
theorem ME {c:UInt8}:∀ (n f:Nat) (s:XL),s.length<=n->s.length < f->Go.Lib.splitK [c] 0 (Go.Lib.countFrom [c] f s) s=pcs c s
 | _,0,s,_,h=>by omega
 | n,f + 1,s,h1,h2=>by
  by_cases hc:c∈s
  ·obtain ⟨a,t,rfl,ha⟩:=Ej hc
   have hi:=Ie (t:=t) ha
   unfold Go.Lib.countFrom
   rw [hi,if_neg (by simp <;> omega),Nat.add_comm 1]
   unfold Go.Lib.splitK
   rw [hi,if_neg (by simp <;> omega)]
   have hdrop:(a++c::t).drop (((a.length:Int)).toNat + [c].length)=t:=by
    simp
   have htake:(a++c::t).take (((a.length:Int)).toNat + 0)=a:=by simp
   rw [hdrop,htake,Gc ha]
   have hl:t.length < n:=by simp at h1;omega
   obtain ⟨n',rfl⟩:∃ n',n=n' + 1:=⟨n - 1,by omega⟩
   rw [ME n' f t (by omega) (by simp at h2;omega)]
  ·rw [E0 hc]
   unfold Go.Lib.countFrom
   rw [Ig hc,if_pos (by simp)]
   rfl
theorem Pw (c:UInt8) (s:XL):Oy s [c]=pcs c s:=by
 unfold Oy
 rw [Go.Lib.splitB_data]
 have:Go.Lib.countB ⟨s.toArray⟩ ⟨[c].toArray⟩=Go.Lib.countFrom [c] (s.length + 1) s:=by
  rfl
 rw [this]
 exact ME s.length (s.length + 1) s (Nat.le_refl _) (Nat.lt_succ_self _)
theorem Mn {N:Nat} {s:XL} (c:UInt8) (h:s.length < 4294967281):strings_Split N s [c]=some (pcs c s):=by
 unfold strings_Split
 rw [if_pos ⟨h,by simp⟩,Pw]
theorem P7 {c:UInt8} {s:XL} (h:c∉s):Go.Lib.cut s [c]=(s,[],false):=by
 unfold Go.Lib.cut
 rw [Ig h,if_neg (by decide)]
theorem P6 {c:UInt8} {a t:XL} (h:c∉a):Go.Lib.cut (a++c::t) [c]=(a,t,true):=by
 unfold Go.Lib.cut
 rw [Ie h,if_pos (by omega)]
 simp only [Int.toNat_natCast,List.length_singleton]
 rw [List.drop_append]
 simp
theorem SG {α ρ τ:Type} {body:Int->Option (BC ρ Int)} {l:List α} (ok:α->Bool) (bad:ρ) (hb:∀ i (h:i < l.length),body (i:Int)=some (bif ok l[i] then .next ((i + 1:Nat):Int) else .ret bad))
  (he:body (l.length:Int)=some (.done (l.length:Int))) {N:Nat} (hN:l.length < N) (fd:Int->Option τ) (fr:ρ->Option τ):((AU body N 0).bind fun o=>o.k fr fd)=bif l.all ok then fd l.length else fr bad:=by
 obtain ⟨o,ho,hR⟩:=Et (body:=body) l.length (fun i s=>s=(i:Int)/\(l.take i).all ok=true) (fun o=>(l.all ok=true/\o=.done (l.length:Int))\/(l.all ok=false/\o=.ret bad)) (by
  rintro i s hi ⟨rfl,hk⟩
  by_cases h:i < l.length
  ·rw [hb i h]
   cases e:ok l[i] with
   | true=>exact .inl ⟨_,rfl,⟨rfl,by rw [List.take_add_one,List.getElem?_eq_getElem h,List.all_append,hk];simp [e]⟩,h⟩
   | false=>exact .inr ⟨_,rfl,(fun _ h=>by cases h),.inr ⟨by rw [List.all_eq_false];exact ⟨l[i],List.getElem_mem h,by rw [e];simp⟩,rfl⟩⟩
  ·have:i=l.length:=by omega
   subst this
   rw [he]
   exact .inr ⟨_,rfl,(fun _ h=>by cases h),.inl ⟨by simpa using hk,rfl⟩⟩) l.length N 0 0 (by omega) ⟨rfl,rfl⟩ hN
 rw [ho]
 rcases hR with ⟨h1,rfl⟩ | ⟨h1,rfl⟩ <;> rw [h1] <;> rfl
section
variable {N : Nat} {s : XL}
theorem Em {i n:Nat} (h:i < n):decide ((i:Int) < (n:Int))=true:=decide_eq_true (by omega)
theorem DY {n:Nat}:decide ((n:Int) < (n:Int))=false:=decide_eq_false (by omega)
def wiB (n lo hi:Nat):Bool:=decide (lo<=n)&&decide (n<=hi)
def C2 (s:XL):Bool:=s.all isE&&wiB s.length 1 4&&s.any isL
def Bm (s:XL):Bool:=s.all isE&&wiB (B8 s) 1 4&&(s.take (B8 s)).any isL&&wiB (s.length - B8 s) 1 4
def BT (s:XL):Bool:=(s.all isL&&wiB s.length 1 4)||(s.all isD&&wiB s.length 1 1)
theorem G1 (n lo hi:Nat):(decide (((lo:Nat):Int)<=(n:Int))&&decide ((n:Int)<=((hi:Nat):Int)))=wiB n lo hi:=by
 unfold wiB
 congr 1 <;> (rw [decide_eq_decide];omega)
theorem w14 (n:Nat):(decide ((1:Int)<=(n:Int))&&decide ((n:Int)<=(4:Int)))=wiB n 1 4:=G1 n 1 4
theorem w11 (n:Nat):(decide ((1:Int)<=(n:Int))&&decide ((n:Int)<=(1:Int)))=wiB n 1 1:=G1 n 1 1
theorem QQ (hs:s.length < 4611686018427387904) (hN:s.length < N):Fd N s=some (C2 s):=by
 unfold Fd C2
 rw [GN (WI N) s 4 hN,oS,w14]
 cases h:(s.all isE&&wiB s.length 1 4) with
 | false=>rfl
 | true=>
  rw [Bool.and_eq_true] at h
  obtain ⟨r,h1,h2⟩:=SK (N:=N) (Th N) s (fun b hb=>O0 (List.all_eq_true.1 h.1 b hb))
  rw [cT,h1,oS,h2]
  rfl
theorem PN (hs:s.length < 4611686018427387904) (hN:s.length < N):D9 N s=some (BT s):=by
 unfold D9 BT
 rw [GN (Th N) s 4 hN,GN (Rx N) s 1 hN,w14,w11]
 cases s.all isL&&wiB s.length 1 4 <;> rfl
theorem Qn (s:XL):s.all isL=(s.all isE&& !s.any isD):=by
 induction s with
 | nil=>rfl
 | cons b s ih=>
  simp only [List.all_cons,List.any_cons,ih,isE]
  cases hL:isL b with
  | true=>rw [Xb hL];simp
  | false=>cases isD b <;> cases s.all isE <;> cases s.any isD <;> rfl
theorem TP (p:Nat->Bool) (tr:Bool) (s:XL):∀ (f i:Nat),i<=s.length->Go.Lib.lastIdxFuncFrom p tr ⟨s.toArray⟩ f i= -1\/(0<=Go.Lib.lastIdxFuncFrom p tr ⟨s.toArray⟩ f i/\Go.Lib.lastIdxFuncFrom p tr ⟨s.toArray⟩ f i < (i:Int))
 | 0,_,_=>.inl rfl
 | f + 1,i,hi=>by
  unfold Go.Lib.lastIdxFuncFrom
  split
  ·rename_i h0
   have hw:=Go.Lib.decodeLastL_width (s.take i) (by rw [List.length_take];omega)
   simp only [List.toList_toArray] at *
   split
   ·exact .inr ⟨by omega,by omega⟩
   ·rcases TP p tr s f (i - (Go.Lib.decodeLastL (s.take i)).2) (by omega) with h | h
    ·exact .inl h
    ·exact .inr ⟨h.1,by omega⟩
  ·exact .inl rfl
theorem Wb (hs:s.length < 4611686018427387904) (hN:s.length < N):∃ x y,KK N s=some (x,y,Bm s)/\(Bm s=true->x=s.take (B8 s)/\y=s.drop (B8 s)):=by
 have hr:∃ k:Nat,BM N s (fun y0=>Bj N y0)=some ((k:Int) - 1)/\k<=s.length/\((∀ b,b∈s->b.toNat < 128)->k=B8 s):=by
  have hsz:(⟨s.toArray⟩:ByteArray).size=s.length:=by simp [ByteArray.size]
  have e:BM N s (fun y0=>Bj N y0)=some (Go.Lib.lastIdxFunc (Ff fun y0=>Bj N y0) true ⟨s.toArray⟩):=by
   unfold BM B7
   rw [if_pos ⟨(Rx N).all,by omega⟩]
   rfl
  rw [e]
  unfold Go.Lib.lastIdxFunc
  rw [hsz]
  have hrange:=TP (Ff fun y0=>Bj N y0) true s s.length s.length (Nat.le_refl _)
  refine ⟨(Go.Lib.lastIdxFuncFrom (Ff fun y0=>Bj N y0) true ⟨s.toArray⟩ s.length s.length + 1).toNat,?_,?_,fun ha=>?_⟩
  ·exact congrArg some (by rcases hrange with h | ⟨h,_⟩ <;> omega)
  ·rcases hrange with h | ⟨h1,h2⟩
   ·omega
   ·omega
  ·have:=Jj N s ha s.length s.length (Nat.le_refl _) (Nat.le_refl _)
   rw [List.take_length] at this
   omega
 obtain ⟨k,h1,h2,h3⟩:=hr
 have e1:W64 ((k:Int) - 1 + 1)=(k:Int):=by rw [Eb (by omega) (by omega)];omega
 have e2:MC s 0 (k:Int)=some (s.take k):=by
  have:=Pv (a:=s) (lo:=0) (hi:=k) (Nat.zero_le _) h2
  simpa using this
 have e3:MC s (k:Int) (s.length:Int)=some (s.drop k):=by
  rw [Pv h2 (Nat.le_refl _),List.take_of_length_le (by simp)]
 have e4:=QQ (N:=N) (s:=s.take k) (by rw [List.length_take];omega) (by rw [List.length_take];omega)
 have e5:=GN (Th N) (s.drop k) 4 (N:=N) (by rw [List.length_drop];omega)
 refine ⟨s.take k,s.drop k,?_,?_⟩
 ·unfold KK
  rw [h1,oS,e1,e2,oS,e3,oS,oS,e4,oS,e5,w14]
  have hbase:(decide ((k:Int) > 0)&&(C2 (s.take k)&&((s.drop k).all isL&&wiB (s.drop k).length 1 4)))=Bm s:=by
   by_cases ha:s.all isE=true
   ·have hk:k=B8 s:=h3 fun b hb=>O0 (List.all_eq_true.1 ha b hb)
    subst hk
    have hle:=Vq s
    have e6:(s.take (B8 s)).all isE=true:=List.all_eq_true.2 fun b hb=>List.all_eq_true.1 ha b (List.mem_of_mem_take hb)
    have e7:(s.drop (B8 s)).all isL=true:=by
     rw [Qn]
     rw [Bool.and_eq_true]
     refine ⟨List.all_eq_true.2 fun b hb=>List.all_eq_true.1 ha b (List.mem_of_mem_drop hb),?_⟩
     rw [Bool.not_eq_true',List.any_eq_false]
     intro b hb
     rw [SQ s b hb];simp
    unfold C2 Bm
    rw [ha,e6,e7,List.length_take,Nat.min_eq_left hle,List.length_drop]
    have e8:(decide ((B8 s:Int) > 0)&&wiB (B8 s) 1 4)=wiB (B8 s) 1 4:=by
     unfold wiB
     cases hd:decide (1<=B8 s) with
     | false=>simp
     | true=>rw [decide_eq_true (by have:=of_decide_eq_true hd;omega)];rfl
    rw [<-e8]
    cases decide ((B8 s:Int) > 0) <;> cases wiB (B8 s) 1 4 <;> cases (s.take (B8 s)).any isL <;> rfl
   ·have ha':s.all isE=false:=by simpa using ha
    unfold C2 Bm
    rw [ha']
    have e9:(s.take k).all isE=false\/(s.drop k).all isL=false:=by
     rw [<-List.take_append_drop k s,List.all_append] at ha'
     cases h5:(s.take k).all isE with
     | false=>exact .inl rfl
     | true=>
      right
      rw [h5,Bool.true_and] at ha'
      rw [Qn,ha']
      rfl
    rcases e9 with e9 | e9 <;> rw [e9] <;> simp
  rw [<-hbase]
  cases decide ((k:Int) > 0) <;> cases C2 (s.take k) <;> rfl
 ·intro hb
  have ha:s.all isE=true:=by
   unfold Bm at hb
   simp only [Bool.and_eq_true] at hb
   exact hb.1.1.1
  rw [h3 fun b hb=>O0 (List.all_eq_true.1 ha b hb)]
  exact ⟨rfl,rfl⟩
end
theorem QW {α ρ τ:Type} {body:Int->Option (BC ρ Int)} {l:List α} (f:α->Option ρ) (hb:∀ i (h:i < l.length),body (i:Int)=some ((f l[i]).elim (.next ((i + 1:Nat):Int)) .ret))
  (he:body (l.length:Int)=some (.done (l.length:Int))) {N:Nat} (hN:l.length < N) (fd:Int->Option τ) (fr:ρ->Option τ):((AU body N 0).bind fun o=>o.k fr fd)=(l.findSome? f).elim (fd l.length) fr:=by
 obtain ⟨o,ho,hR⟩:=Et (body:=body) l.length (fun i s=>s=(i:Int)/\l.findSome? f=(l.drop i).findSome? f) (fun o=>(l.findSome? f=none/\o=.done (l.length:Int))\/ ∃ r,l.findSome? f=some r/\o=.ret r) (by
  rintro i s hi ⟨rfl,hk⟩
  by_cases h:i < l.length
  ·rw [hb i h]
   rw [List.drop_eq_getElem_cons h,List.findSome?_cons] at hk
   cases e:f l[i] with
   | some r=>rw [e] at hk;exact .inr ⟨_,rfl,(fun _ h=>by cases h),.inr ⟨r,hk,rfl⟩⟩
   | none=>rw [e] at hk;exact .inl ⟨_,rfl,⟨rfl,hk⟩,h⟩
  ·have:i=l.length:=by omega
   subst this
   rw [he]
   rw [List.drop_length] at hk
   exact .inr ⟨_,rfl,(fun _ h=>by cases h),.inl ⟨hk,rfl⟩⟩) l.length N 0 0 (by omega) ⟨rfl,by rw [List.drop_zero]⟩ hN
 rw [ho]
 rcases hR with ⟨h1,rfl⟩ | ⟨r,h1,rfl⟩ <;> rw [h1] <;> rfl
theorem QM (c:UInt8):∀ s p,p∈pcs c s->p.length<=s.length
 | [],p,h=>by simp [pcs] at h;subst h;simp
 | b::s,p,h=>by
  have ih:=QM c s
  unfold pcs at h
  by_cases hb:b=c
  ·rw [if_pos hb] at h
   rcases List.mem_cons.1 h with rfl | h
   ·simp
   ·exact Nat.le_succ_of_le (ih p h)
  ·rw [if_neg hb] at h
   cases hp:pcs c s with
   | nil=>exact absurd hp (G6 c s)
   | cons q r=>
    rw [hp] at h ih
    simp only at h
    rcases List.mem_cons.1 h with rfl | h
    ·exact Nat.succ_le_succ (ih q List.mem_cons_self)
    ·exact Nat.le_succ_of_le (ih p (List.mem_cons_of_mem _ h))
def zp:Bg:={Area:=[],Prefix:=[],Suffix:=[],Stroke:=[]}
abbrev Tri:=XL×XL×XL
def JT (ws:List XL):Option Tri:=match ws with
 | [w]=>if Bm w then some ([],w,[]) else none
 | [a,b]=>if C2 a&&Bm b&&decide (a.length < b.length) then some (a,b,[]) else if Bm a&&BT b then some ([],a,b) else none
 | [a,b,c]=>if C2 a&&Bm b&&BT c then some (a,b,c) else none
 | _=>none
def callB (s:XL):Option Tri:=if s.length<=16 then JT (pcs 47 s) else none
def RC (t:Tri):Bg:={Area:=t.1,Prefix:=t.2.1.take (B8 t.2.1),Suffix:=t.2.1.drop (B8 t.2.1),Stroke:=t.2.2}
def Qv (s:XL):Bg×Bool:=match callB s with
 | some t=>(RC t,true)
 | none=>(zp,false)
section
variable {N : Nat}
theorem Kb {w:XL} (hs:w.length < 4611686018427387904) (hN:w.length < N):∃ x y,Az N w=some ({Area:=[],Prefix:=x,Suffix:=y,Stroke:=[]},Bm w)/\(Bm w=true->x=w.take (B8 w)/\y=w.drop (B8 w)):=by
 obtain ⟨x,y,h1,h2⟩:=Wb hs hN
 exact ⟨x,y,by unfold Az;rw [h1];rfl,h2⟩
theorem Wu {w:XL} {z0:XL->Option (Bg×Bool)} {p:Bg} {ok:Bool} (h1:z0 w=some (p,ok)):Ds N [w] z0=some (p,ok):=by
 unfold Ds
 have i0:idx [w] 0=some w:=rfl
 simp only [i0,oS,h1]
theorem Wt {a b:XL} {z0:XL->Option (Bg×Bool)} {x y u v:XL} {A ok:Bool} (h1:z0 b=some ({Area:=u,Prefix:=x,Suffix:=y,Stroke:=v},ok)) (h3:Fd N a=some A):Dr N [a,b] z0=some ({Area:=a,Prefix:=x,Suffix:=y,Stroke:=v},ok&&A&&decide (a.length < b.length)):=by
 unfold Dr
 have e:decide ((a.length:Int) < (b.length:Int))=decide (a.length < b.length):=by rw [decide_eq_decide];omega
 have i0:idx [a,b] 0=some a:=rfl
 have i1:idx [a,b] 1=some b:=rfl
 rw [i0,i1]
 simp only [oS,h1,h3]
 clear h1 h3
 rw [e]
 generalize decide (a.length < b.length)=D
 cases ok <;> cases A <;> rfl
theorem Ws {a b:XL} {z0:XL->Option (Bg×Bool)} {x y u v:XL} {A ok:Bool} (h1:z0 a=some ({Area:=u,Prefix:=x,Suffix:=y,Stroke:=v},ok)) (h3:D9 N b=some A):Dq N [a,b] z0=some ({Area:=u,Prefix:=x,Suffix:=y,Stroke:=b},ok&&A):=by
 unfold Dq
 have i0:idx [a,b] 0=some a:=rfl
 have i1:idx [a,b] 1=some b:=rfl
 rw [i0,i1]
 simp only [oS,h1,h3]
 clear h1 h3
 cases ok <;> cases A <;> rfl
theorem Wr {a b c:XL} {z0:XL->Option (Bg×Bool)} {x y u v:XL} {A B ok:Bool} (h1:z0 b=some ({Area:=u,Prefix:=x,Suffix:=y,Stroke:=v},ok)) (h3:Fd N a=some A) (h4:D9 N c=some B):Dp N [a,b,c] z0=some ({Area:=a,Prefix:=x,Suffix:=y,Stroke:=c},ok&&A&&B):=by
 unfold Dp
 have i0:idx [a,b,c] 0=some a:=rfl
 have i1:idx [a,b,c] 1=some b:=rfl
 have i2:idx [a,b,c] 2=some c:=rfl
 rw [i0,i1,i2]
 simp only [oS,h1,h3,h4]
 clear h1 h3 h4
 cases ok <;> cases A <;> cases B <;> rfl
theorem U8 {w:XL} (hs:w.length<=16) (hN:16 < N):∃ x y,Ds N [w] (fun y0=>Az N y0)=some ({Area:=[],Prefix:=x,Suffix:=y,Stroke:=[]},Bm w)/\(Bm w=true->x=w.take (B8 w)/\y=w.drop (B8 w)):=by
 obtain ⟨x,y,h1,h2⟩:=Kb (w:=w) (N:=N) (by omega) (by omega)
 exact ⟨x,y,Wu (z0:=fun y0=>Az N y0) h1,h2⟩
theorem U7 {a b:XL} (ha:a.length<=16) (hb:b.length<=16) (hN:16 < N):∃ x y,Dr N [a,b] (fun y0=>Az N y0)=some ({Area:=a,Prefix:=x,Suffix:=y,Stroke:=[]},Bm b&&C2 a&&decide (a.length < b.length))/\(Bm b=true->x=b.take (B8 b)/\y=b.drop (B8 b)):=by
 obtain ⟨x,y,h1,h2⟩:=Kb (w:=b) (N:=N) (by omega) (by omega)
 exact ⟨x,y,Wt (z0:=fun y0=>Az N y0) h1 (QQ (N:=N) (s:=a) (by omega) (by omega)),h2⟩
theorem U6 {a b:XL} (ha:a.length<=16) (hb:b.length<=16) (hN:16 < N):∃ x y,Dq N [a,b] (fun y0=>Az N y0)=some ({Area:=[],Prefix:=x,Suffix:=y,Stroke:=b},Bm a&&BT b)/\(Bm a=true->x=a.take (B8 a)/\y=a.drop (B8 a)):=by
 obtain ⟨x,y,h1,h2⟩:=Kb (w:=a) (N:=N) (by omega) (by omega)
 exact ⟨x,y,Ws (z0:=fun y0=>Az N y0) h1 (PN (N:=N) (s:=b) (by omega) (by omega)),h2⟩
theorem U5 {a b c:XL} (ha:a.length<=16) (hb:b.length<=16) (hc:c.length<=16) (hN:16 < N):∃ x y,Dp N [a,b,c] (fun y0=>Az N y0)=some ({Area:=a,Prefix:=x,Suffix:=y,Stroke:=c},Bm b&&C2 a&&BT c)/\(Bm b=true->x=b.take (B8 b)/\y=b.drop (B8 b)):=by
 obtain ⟨x,y,h1,h2⟩:=Kb (w:=b) (N:=N) (by omega) (by omega)
 exact ⟨x,y,Wr (z0:=fun y0=>Az N y0) h1 (QQ (N:=N) (s:=a) (by omega) (by omega)) (PN (N:=N) (s:=c) (by omega) (by omega)),h2⟩
def Qs (ws:List XL) (fm:BG):Option (Bg×Bool):=if fm.words_=(ws.length:Int) then match fm.split_ ws with
 | some (p,true)=>some (p,true)
 | _=>none
 else none
theorem Qu {s:XL} {ws:List XL} (hle:∀ w,w∈ws->w.length<=16) (hN:4 < N) (f2 f3 f4 f5:List XL->Option (Bg×Bool))
  (H2:∀ w:XL,w.length<=16->∃ x y,f2 [w]=some ({Area:=[],Prefix:=x,Suffix:=y,Stroke:=[]},Bm w)/\(Bm w=true->x=w.take (B8 w)/\y=w.drop (B8 w)))
  (H3:∀ a b:XL,a.length<=16->b.length<=16->∃ x y,f3 [a,b]=some ({Area:=a,Prefix:=x,Suffix:=y,Stroke:=[]},Bm b&&C2 a&&decide (a.length < b.length))/\(Bm b=true->x=b.take (B8 b)/\y=b.drop (B8 b)))
  (H4:∀ a b:XL,a.length<=16->b.length<=16->∃ x y,f4 [a,b]=some ({Area:=[],Prefix:=x,Suffix:=y,Stroke:=b},Bm a&&BT b)/\(Bm a=true->x=a.take (B8 a)/\y=a.drop (B8 a)))
  (H5:∀ a b c:XL,a.length<=16->b.length<=16->c.length<=16->∃ x y,f5 [a,b,c]=some ({Area:=a,Prefix:=x,Suffix:=y,Stroke:=c},Bm b&&C2 a&&BT c)/\(Bm b=true->x=b.take (B8 b)/\y=b.drop (B8 b))):
  ((AU (CT N s ws [({words_:=1,split_:=f2}:BG),{words_:=2,split_:=f3},{words_:=2,split_:=f4},{words_:=3,split_:=f5}]) N 0).bind fun o=>o.k (fun r=>some r) (fun _=>some (zp,false)))=some (match JT ws with | some t=>(RC t,true) | none=>(zp,false)):=by
 generalize hF:([_,_,_,_]:List BG)=F
 have htot:∀ fm,fm∈F->fm.words_=(ws.length:Int)->∃ r,fm.split_ ws=some r:=by
  subst hF
  intro fm hfm hw
  simp only [List.mem_cons,List.not_mem_nil,or_false] at hfm
  rcases hfm with rfl | rfl | rfl | rfl <;> simp only at hw ⊢
  ·match ws,hw with
   | [w],_=>obtain ⟨_,_,h,_⟩:=H2 w (hle w (by simp));exact ⟨_,h⟩
  ·match ws,hw with
   | [a,b],_=>obtain ⟨_,_,h,_⟩:=H3 a b (hle a (by simp)) (hle b (by simp));exact ⟨_,h⟩
  ·match ws,hw with
   | [a,b],_=>obtain ⟨_,_,h,_⟩:=H4 a b (hle a (by simp)) (hle b (by simp));exact ⟨_,h⟩
  ·match ws,hw with
   | [a,b,c],_=>obtain ⟨_,_,h,_⟩:=H5 a b c (hle a (by simp)) (hle b (by simp)) (hle c (by simp));exact ⟨_,h⟩
 have hlen:F.length=4:=by subst hF;rfl
 have hb:∀ i (h:i < F.length),CT N s ws F (i:Int)=some ((Qs ws F[i]).elim (.next ((i + 1:Nat):Int)) .ret):=by
  intro i h
  unfold CT
  have hi:idx F (i:Int)=some F[i]:=by unfold idx;rw [if_pos (by omega)];simp [h]
  rw [Em h,cT,hi,oS,Gu i (by omega)]
  have htt:=htot _ (List.getElem_mem h)
  generalize F[i]=fm at htt
  unfold Qs
  by_cases hw:fm.words_=(ws.length:Int)
  ·obtain ⟨⟨p,ok⟩,hr⟩:=htt hw
   rw [if_pos hw,show (fm.words_ !=(ws.length:Int))=false by simp [hw],cF,hr]
   cases ok <;> rfl
  ·rw [if_neg hw,show (fm.words_ !=(ws.length:Int))=true by simp [hw],cT]
   rfl
 have he:CT N s ws F (F.length:Int)=some (.done (F.length:Int)):=by
  unfold CT
  rw [DY,cF]
 rw [QW (l:=F) (Qs ws) hb he (by omega)]
 subst hF
 match ws,hle with
 | [],_=>rfl
 | [w],hle=>
  obtain ⟨x,y,h1,h2⟩:=H2 w (hle w (by simp))
  unfold JT
  have e:(([w]:List XL).length:Int)=1:=rfl
  simp only [List.findSome?_cons,List.findSome?_nil,Qs,e,h1]
  cases hB:Bm w with
  | false=>rfl
  | true=>obtain ⟨rfl,rfl⟩:=h2 hB;rfl
 | [a,b],hle=>
  have ha:=hle a (by simp)
  have hb:=hle b (by simp)
  obtain ⟨x,y,h1,h2⟩:=H3 a b ha hb
  obtain ⟨x',y',h3,h4⟩:=H4 a b ha hb
  unfold JT
  have e:(([a,b]:List XL).length:Int)=2:=rfl
  simp only [List.findSome?_cons,List.findSome?_nil,Qs,e,h1,h3]
  clear h1 h3 H2 H3 H4 H5 htot hlen hb he
  generalize decide (a.length < b.length)=D
  generalize C2 a=A
  generalize BT b=S
  cases hB:Bm b with
  | false=>
   cases hA:Bm a with
   | false=>cases A <;> cases D <;> rfl
   | true=>
    obtain ⟨rfl,rfl⟩:=h4 hA
    cases A <;> cases D <;> cases S <;> rfl
  | true=>
   obtain ⟨rfl,rfl⟩:=h2 hB
   cases hA:Bm a with
   | false=>cases A <;> cases D <;> rfl
   | true=>
    obtain ⟨rfl,rfl⟩:=h4 hA
    cases A <;> cases D <;> cases S <;> rfl
 | [a,b,c],hle=>
  have ha:=hle a (by simp)
  have hb:=hle b (by simp)
  have hc:=hle c (by simp)
  obtain ⟨x,y,h1,h2⟩:=H5 a b c ha hb hc
  unfold JT
  have e:(([a,b,c]:List XL).length:Int)=3:=rfl
  simp only [List.findSome?_cons,List.findSome?_nil,Qs,e,h1]
  clear h1 H2 H3 H4 H5 htot hlen hb he
  generalize C2 a=A
  generalize BT c=S
  cases hB:Bm b with
  | false=>cases A <;> cases S <;> rfl
  | true=>
   obtain ⟨rfl,rfl⟩:=h2 hB
   cases A <;> cases S <;> rfl
 | a::b::c::d::t,_=>
  unfold JT
  have e:∀ k:Int,k<=3->¬ k=((a::b::c::d::t).length:Int):=by intro k hk;simp only [List.length_cons];omega
  simp only [List.findSome?_cons,List.findSome?_nil,Qs,if_neg (e 1 (by decide)),if_neg (e 2 (by decide)),if_neg (e 3 (by decide))]
  rfl
theorem U2 (s:XL) (hN:4294967300 < N):I0 N s=some (Qv s):=by
 unfold I0 Qv callB
 by_cases hl:s.length<=16
 ·rw [decide_eq_false (by omega),cF,if_pos hl,Mn 47 (by omega),oS]
  have hle:=QM 47 s
  generalize pcs 47 s=ws at hle
  unfold Lj
  rw [oS]
  exact Qu (fun w h=>Nat.le_trans (hle w h) hl) (by omega) _ _ _ _ (fun w h=>U8 h (by omega)) (fun a b h h'=>U7 h h' (by omega)) (fun a b h h'=>U6 h h' (by omega)) (fun a b c h h' h''=>U5 h h' h'' (by omega))
 ·rw [decide_eq_true (by omega),cT,if_neg hl]
  rfl
end
section
open Go.Lib (decDigits)
def HL (a:Nat) (l:XL):Nat:=l.foldl (fun a b=>10 * a + (b.toNat - 48)) a
def FY (l:XL):Nat:=HL 0 l
theorem GO (a:Nat) (b:UInt8) (l:XL):HL a (b::l)=HL (10 * a + (b.toNat - 48)) l:=by unfold HL;rw [List.foldl_cons]
theorem Sx (a:Nat) (l:XL) (b:UInt8):HL a (l++[b])=10 * HL a l + (b.toNat - 48):=by unfold HL;rw [List.foldl_append];rfl
theorem Su (l:XL) (b:UInt8):FY (l++[b])=10 * FY l + (b.toNat - 48):=Sx 0 l b
theorem Vh {b:UInt8} (h:isD b=true):48<=b.toNat/\b.toNat<=57:=by
 unfold isD at h
 simpa only [Bool.and_eq_true,decide_eq_true_eq] using h
theorem UZ (l:XL):∀ (a k:Nat),l.all isD=true->a < 10 ^ k->HL a l < 10 ^ (k + l.length):=by
 induction l with
 | nil=>intro a k _ h;exact h
 | cons b l ih=>
  intro a k hd h
  rw [GO]
  simp only [List.all_cons,Bool.and_eq_true] at hd
  have hb:=Vh hd.1
  have hp:10 ^ (k + 1)=10 ^ k * 10:=Nat.pow_succ ..
  have:=ih (10 * a + (b.toNat - 48)) (k + 1) hd.2 (by omega)
  rw [List.length_cons,show k + (l.length + 1)=k + 1 + l.length by omega]
  exact this
theorem UY {l:XL} (h:l.all isD=true):FY l < 10 ^ l.length:=by
 have:=UZ l 0 0 h (by decide)
 simpa [FY] using this
theorem dig {b:UInt8} (h:isD b=true):Go.Lib.digitVal b=some (b.toNat - 48):=by
 unfold isD at h
 simp only [Bool.and_eq_true,decide_eq_true_eq] at h
 unfold Go.Lib.digitVal
 rw [if_pos h]
theorem Ko:∀ (l:XL) (a:Nat),l.all isD=true->Go.Lib.decFrom a l=some (HL a l)
 | [],a,_=>rfl
 | b::l,a,h=>by
  simp only [List.all_cons,Bool.and_eq_true] at h
  unfold Go.Lib.decFrom
  rw [dig h.1,GO,Nat.mul_comm 10 a]
  exact Ko l _ h.2
theorem NG {l:XL} (h:l.all isD=true) (hn:1<=l.length):Go.Lib.atoi l=some (FY l:Int):=by
 match l,h,hn with
 | b::r,h,_=>
  have hb:=h
  simp only [List.all_cons,Bool.and_eq_true] at hb
  have h1:(b==45)=false:=by rw [beq_eq_false_iff_ne];rintro rfl;exact absurd hb.1 (by decide)
  have h2:(b==43)=false:=by rw [beq_eq_false_iff_ne];rintro rfl;exact absurd hb.1 (by decide)
  unfold Go.Lib.atoi
  simp only [h1,h2,Bool.false_eq_true,if_false]
  unfold Go.Lib.decNat
  simp only [List.isEmpty_cons,Bool.false_eq_true,if_false]
  rw [Ko _ _ h]
  rfl
def Hb (s:XL):Bool:=s.all isD&&wiB s.length 1 9
def Sv (s:XL):Int:=if Hb s=true then (FY s:Int) else -1
theorem UV {k:Nat} (h:k<=9):10 ^ k<=1000000000:=Nat.le_trans (Nat.pow_le_pow_right (by decide) h) (by decide)
theorem Ml {s:XL} (h:Hb s=true):FY s < 1000000000/\1<=s.length/\s.length<=9/\s.all isD=true:=by
 unfold Hb wiB at h
 simp only [Bool.and_eq_true,decide_eq_true_eq] at h
 exact ⟨Nat.lt_of_lt_of_le (UY h.1) (UV h.2.2),h.2.1,h.2.2,h.1⟩
section
variable {N : Nat} {s : XL}
theorem MY (hN:s.length < N):B6 N s=some (Sv s):=by
 unfold B6 Sv
 rw [GN (Rx N) s 9 hN,oS,show (decide ((1:Int)<=(s.length:Int))&&decide ((s.length:Int)<=(9:Int)))=wiB s.length 1 9 from G1 _ 1 9]
 have e:(s.all isD&&wiB s.length 1 9)=Hb s:=rfl
 rw [e]
 cases h:Hb s with
 | false=>rfl
 | true=>
  have hl:=Ml h
  rw [Bool.not_true,cF,if_pos rfl]
  unfold B0
  rw [if_pos (by omega),Go.Lib.atoiAll_short s (by omega),NG hl.2.2.2 hl.2.1]
  rfl
end
def Ol (d:Nat):UInt8:=UInt8.ofNat (48 + d)
theorem Il {d:Nat} (h:d < 10):(Ol d).toNat=48 + d:=by unfold Ol;rw [UInt8.toNat_ofNat'];omega
theorem RV {d:Nat} (h:d < 10):isD (Ol d)=true:=by unfold isD;rw [Il h];simp;omega
theorem E6 {u:Nat} (h:u < 10):decDigits u=[Ol u]:=by rw [decDigits,dif_pos h];rfl
theorem O8 {u:Nat} (h:¬ u < 10):decDigits u=decDigits (u / 10)++[Ol (u % 10)]:=by
 conv=>lhs;rw [decDigits,dif_neg h]
 rfl
theorem Nl (u:Nat):1<=(decDigits u).length:=by
 by_cases h:u < 10
 ·rw [E6 h];simp
 ·rw [O8 h];simp
theorem Ij (u:Nat):(decDigits u).all isD=true:=by
 induction u using Nat.strongRecOn with
 | _ u ih=>
  by_cases h:u < 10
  ·rw [E6 h];simp [RV h]
  ·rw [O8 h,List.all_append,ih (u / 10) (by omega)]
   simp [RV (Nat.mod_lt u (by decide:0 < 10))]
theorem KX (u:Nat):FY (decDigits u)=u:=by
 induction u using Nat.strongRecOn with
 | _ u ih=>
  by_cases h:u < 10
  ·rw [E6 h]
   show 10 * 0 + ((Ol u).toNat - 48)=u
   rw [Il h];omega
  ·rw [O8 h,Su,ih (u / 10) (by omega),Il (Nat.mod_lt u (by decide:0 < 10))];omega
theorem Hl:∀ (k u:Nat),u < 10 ^ (k + 1)->(decDigits u).length<=k + 1
 | 0,u,h=>by rw [E6 (by simpa using h)];simp
 | k + 1,u,h=>by
  by_cases hu:u < 10
  ·rw [E6 hu];simp
  ·rw [O8 hu,List.length_append]
   have:=Hl k (u / 10) (by rw [Nat.pow_succ] at h;omega)
   simp;omega
def dP (k u:Nat):XL:=List.replicate (k - (decDigits u).length) 48++decDigits u
theorem Gz (k u:Nat):(dP k u).all isD=true:=by
 unfold dP
 rw [List.all_append,Ij,Bool.and_true,List.all_eq_true]
 intro b hb
 rw [List.eq_of_mem_replicate hb];decide
theorem QO (j:Nat) (l:XL):HL 0 (List.replicate j 48++l)=HL 0 l:=by
 induction j with
 | zero=>rfl
 | succ j ih=>rw [List.replicate_succ,List.cons_append,GO];exact ih
theorem Q6 (k u:Nat):FY (dP k u)=u:=by
 unfold dP FY
 rw [QO]
 exact KX u
theorem KY (k u:Nat):k<=(dP k u).length/\1<=(dP k u).length:=by
 unfold dP
 have:=Nl u
 rw [List.length_append,List.length_replicate]
 omega
theorem Ik {k j u:Nat} (h:u < 10 ^ (j + 1)):(dP k u).length<=max k (j + 1):=by
 unfold dP
 have:=Hl j u h
 rw [List.length_append,List.length_replicate]
 omega
theorem Rv:∀ n,Go.Lib.repeatL [48] n=List.replicate n 48
 | 0=>rfl
 | n + 1=>by unfold Go.Lib.repeatL;rw [Rv n];rfl
section
variable {N : Nat}
theorem M0 (u:Nat) (h:u<=1000000000):strconv_Itoa N (u:Int)=some (decDigits u):=by
 unfold strconv_Itoa
 rw [if_pos (by omega),Go.Lib.itoa_nonneg]
theorem MX (u k:Nat) (h:u<=1000000000) (hk:k<=100):BQ N (u:Int) (k:Int)=some (dP k u):=by
 unfold BQ
 rw [M0 u h,oS]
 have hl:(decDigits u).length<=10:=Hl 9 u (by omega)
 rw [Eb (by omega) (by omega)]
 have e:max (0:Int) ((k:Int) - ((decDigits u).length:Int))=((k - (decDigits u).length:Nat):Int):=by omega
 rw [e]
 unfold strings_Repeat
 rw [if_pos (by simp;omega),oS,Int.toNat_natCast,Rv]
 rw [AM (by simp;omega)]
 rfl
end
end
section
open Go.Lib (decDigits)
def Fj (u:Nat):XL:=decDigits (u / 1440 + 1)++32::(dP 2 (u / 60 % 24)++dP 2 (u % 60))
def EI (x:Int):XL×Int:=if 0<=x/\x<=20000 then (Fj x.toNat,0) else ([],1)
theorem S5 (u k:Nat) (h:u < 4611686018427387904):W64 (Int.tdiv (u:Int) (k:Int))=((u / k:Nat):Int):=by
 have:Int.tdiv (u:Int) (k:Int)=((u / k:Nat):Int):=by rw [Int.tdiv_eq_ediv_of_nonneg (by omega)];rfl
 have h2:u / k<=u:=Nat.div_le_self _ _
 rw [this]
 generalize u / k=v at h2
 rw [Eb (by omega) (by omega)]
theorem S4 (u k:Nat):Int.tmod (u:Int) (k:Int)=((u % k:Nat):Int):=by
 rw [Int.tmod_eq_emod_of_nonneg (by omega)];rfl
theorem O7 {u:Nat} (h:u < 100000):(decDigits u).length<=5:=Hl 4 u (by omega)
theorem IV {u:Nat} (h:u < 100):(dP 2 u).length=2:=by
 have h1:=KY 2 u
 have h2:=Ik (k:=2) (j:=1) (u:=u) (by omega)
 omega
section
variable {N : Nat}
theorem Lr (x:Int):Cu N x=some (EI x):=by
 unfold Cu EI
 rw [MW,oS]
 by_cases h:0<=x/\x<=20000
 ·rw [if_pos h,decide_eq_true h.1,decide_eq_true h.2]
  obtain ⟨u,rfl⟩:∃ u:Nat,x=u:=⟨x.toNat,by omega⟩
  have hu:u<=20000:=by omega
  simp only [Bool.and_self,Bool.not_true,cF]
  have e1:=S5 u 1440 (by omega)
  have e2:=S5 u 60 (by omega)
  simp only [Int.cast_ofNat_Int] at e1 e2
  have e3:=S4 (u / 60) 24
  have e4:=S4 u 60
  simp only [Int.cast_ofNat_Int] at e3 e4
  rw [e1,e2,e3,e4,Gu (u / 1440) (by omega),M0 _ (by omega),oS]
  have h0:=O7 (u:=u / 1440 + 1) (by omega)
  have h1:=IV (u:=u / 60 % 24) (by omega)
  have h2:=IV (u:=u % 60) (by omega)
  have p1:=MX (N:=N) (u / 60 % 24) 2 (by omega) (by omega)
  have p2:=MX (N:=N) (u % 60) 2 (by omega) (by omega)
  simp only [Int.cast_ofNat_Int] at p1 p2
  rw [AM (by simp;omega),oS,p1,oS,AM (by simp;omega),oS,p2,oS,AM (by simp;omega),oS]
  unfold Fj
  simp
 ·rw [if_neg h]
  have:(decide (0<=x)&&decide (x<=20000))=false:=by
   rw [Bool.and_eq_false_iff,decide_eq_false_iff_not,decide_eq_false_iff_not];omega
  rw [this];rfl
def LO (p q:Nat):Nat:=(p - 1) * 1440 + q / 100 * 60 + q % 100
theorem UA {p q:Nat} (h1:1<=p) (hp:p < 1000000000) (hq:q < 1000000000):W64 ((W64 ((W64 ((W64 ((p:Int) - 1)) * 1440)) + (W64 ((W64 (Int.tdiv (q:Int) 100)) * 60)))) + (Int.tmod (q:Int) 100))=(LO p q:Int):=by
 have e1:=S5 q 100 (by omega)
 have e2:=S4 q 100
 simp only [Int.cast_ofNat_Int] at e1 e2
 rw [e1,e2,Eb (n:=(p:Int) - 1) (by omega) (by omega),Eb (n:=((p:Int) - 1) * 1440) (by omega) (by omega),Eb (n:=((q / 100:Nat):Int) * 60) (by omega) (by omega)]
 rw [Eb (n:=((p:Int) - 1) * 1440 + ((q / 100:Nat):Int) * 60) (by omega) (by omega),Eb (by omega) (by omega)]
 unfold LO
 omega
def KS (s a b:XL):Int×Int:=if Hb a&&Hb b&&decide (1<=FY a)&&decide (EI (LO (FY a) (FY b))=(s,0)) then ((LO (FY a) (FY b):Int),0) else (0,13)
def G7 (s:XL):Int×Int:=match pcs 32 s with
 | [a,b]=>KS s a b
 | _=>(0,13)
theorem Sy {s:XL} (h:(32:UInt8)∈s):Hb s=false:=by
 cases hh:Hb s with
 | false=>rfl
 | true=>
  have:=List.all_eq_true.1 (Ml hh).2.2.2 _ h
  revert this;decide
theorem Tu:Hb []=false:=rfl
theorem To (s t:XL) (e:Int):((e !=0)||(t !=s))= !decide ((t,e)=(s,0)):=by
 by_cases h1:e=0
 ·by_cases h2:t=s
  ·subst h1;subst h2;simp
  ·rw [decide_eq_false (fun h=>h2 (by injection h))];simp [h2]
 ·rw [decide_eq_false (fun h=>h1 (by injection h))];simp [h1]
theorem Ob (s a b:XL) (ha:a.length < N) (hb:b.length < N):
  ((B6 N a).bind fun r9=>((B6 N b).bind fun h0=>(bif ((decide (r9 < 1))||((decide (r9 > 20000))||(decide (h0 < 0)))) then some ((0:Int),(13:Int)) else ((Cu N (W64 ((W64 ((W64 ((W64 (r9 - 1)) * 1440)) + (W64 ((W64 (Int.tdiv h0 100)) * 60)))) + (Int.tmod h0 100)))).bind fun h4=>(bif ((h4.2 !=0)||(h4.1 !=s)) then some (0,13) else some ((W64 ((W64 ((W64 ((W64 (r9 - 1)) * 1440)) + (W64 ((W64 (Int.tdiv h0 100)) * 60)))) + (Int.tmod h0 100))),0))))))=some (KS s a b):=by
 rw [MY ha,MY hb,oS,oS]
 unfold Sv KS
 cases hA:Hb a with
 | false=>
  simp only [Bool.false_eq_true,if_false,Bool.false_and]
  rfl
 | true=>
  cases hB:Hb b with
  | false=>
   simp only [Bool.false_eq_true,if_false,if_true,Bool.and_false,Bool.false_and]
   rw [show decide ((-1:Int) < 0)=true from rfl,Bool.or_true,Bool.or_true];rfl
  | true=>
   simp only [if_true,Bool.and_self,Bool.true_and]
   have hp:=Ml hA
   have hq:=Ml hB
   generalize FY a=p at hp ⊢
   generalize FY b=q at hq ⊢
   by_cases h1:1<=p
   ·rw [decide_eq_false (show ¬ (p:Int) < 1 by omega),decide_eq_true h1,decide_eq_false (show ¬ (q:Int) < 0 by omega),Bool.false_or,Bool.or_false,Bool.true_and,UA h1 hp.1 hq.1]
    by_cases h2:p<=20000
    ·rw [decide_eq_false (show ¬ (p:Int) > 20000 by omega),cF,Lr,oS,To]
     have:((EI (LO p q:Int)).1,(EI (LO p q:Int)).2)=EI (LO p q:Int):=rfl
     rw [this]
     by_cases h3:EI (LO p q:Int)=(s,0)
     ·rw [decide_eq_true h3,if_pos rfl];rfl
     ·rw [decide_eq_false h3];rfl
    ·rw [decide_eq_true (show (p:Int) > 20000 by omega),cT]
     have h3:¬ EI (LO p q:Int)=(s,0):=by
      unfold EI LO
      rw [if_neg (by omega)]
      intro h;injection h with h1 h2;exact absurd h2 (by decide)
     rw [decide_eq_false h3];rfl
   ·rw [decide_eq_true (show (p:Int) < 1 by omega),decide_eq_false h1];rfl
theorem MS {s a b:XL} (h:Hb b=false):KS s a b=(0,13):=by unfold KS;rw [h];simp
theorem Py (s:XL) (hs:s.length < 4294967281) (hN:4294967300 < N):FT N s=some (G7 s):=by
 unfold FT
 have hc:strings_Cut N s [32]=some (Go.Lib.cut s [32]):=by unfold strings_Cut;rw [if_pos hs]
 rw [hc,oS]
 unfold G7
 by_cases h:(32:UInt8)∈s
 ·obtain ⟨a,t,rfl,ha⟩:=Ej h
  simp only [List.length_append,List.length_cons] at hs
  rw [P6 ha,Gc ha]
  simp only
  rw [Ob _ a t (by omega) (by omega)]
  by_cases ht:(32:UInt8)∈t
  ·obtain ⟨a',t',rfl,ha'⟩:=Ej ht
   rw [Gc ha',MS (Sy ht)]
   cases hp:pcs 32 t' with
   | nil=>exact absurd hp (G6 32 t')
   | cons x l=>rfl
  ·rw [E0 ht]
 ·rw [P7 h,E0 h]
  simp only
  rw [Ob _ s [] (by omega) (by simp;omega),MS Tu]
end
theorem Tt (a:Nat) (l:XL):HL a l=a * 10 ^ l.length + HL 0 l:=by
 induction l generalizing a with
 | nil=>simp [HL]
 | cons b l ih=>
  rw [GO,GO,ih (10 * a + (b.toNat - 48)),ih (10 * 0 + (b.toNat - 48)),List.length_cons,Nat.pow_succ,Nat.add_mul,Nat.mul_comm (10 ^ l.length) 10,<-Nat.mul_assoc,Nat.mul_comm a 10,Nat.mul_zero,Nat.zero_add,Nat.add_assoc]
theorem Ts (l m:XL):FY (l++m)=FY l * 10 ^ m.length + FY m:=by
 unfold FY
 rw [show HL 0 (l++m)=HL (HL 0 l) m by unfold HL;rw [List.foldl_append],Tt]
theorem no32 {l:XL} (h:l.all isD=true):(32:UInt8)∉l:=fun hm=>by
 have:=List.all_eq_true.1 h _ hm
 revert this;decide
theorem Jz {u:Nat} (h:u<=20000):G7 (Fj u)=((u:Int),0):=by
 have h2:=O7 (u:=u / 1440 + 1) (by omega)
 have h1:=IV (u:=u / 60 % 24) (by omega)
 have h0:=IV (u:=u % 60) (by omega)
 have hall:(dP 2 (u / 60 % 24)++dP 2 (u % 60)).all isD=true:=by rw [List.all_append,Gz,Gz];rfl
 have hp:pcs 32 (Fj u)=[decDigits (u / 1440 + 1),dP 2 (u / 60 % 24)++dP 2 (u % 60)]:=by
  unfold Fj
  rw [Gc (no32 (Ij _)),E0 (no32 hall)]
 unfold G7
 rw [hp]
 simp only
 unfold KS
 have n1:Hb (decDigits (u / 1440 + 1))=true:=by
  unfold Hb wiB;have:=Nl (u / 1440 + 1);rw [Ij];simp;omega
 have n2:Hb (dP 2 (u / 60 % 24)++dP 2 (u % 60))=true:=by
  unfold Hb wiB;rw [hall];simp [h1,h0]
 have v2:FY (dP 2 (u / 60 % 24)++dP 2 (u % 60))=u / 60 % 24 * 100 + u % 60:=by
  rw [Ts,Q6,Q6,h0]
 have e:LO (u / 1440 + 1) (u / 60 % 24 * 100 + u % 60)=u:=by unfold LO;omega
 have hpr:EI (u:Int)=(Fj u,0):=by unfold EI;rw [if_pos (by omega)];rfl
 rw [n1,n2,KX,v2,e,hpr,decide_eq_true (show 1<=u / 1440 + 1 by omega),decide_eq_true rfl]
 rfl
end
theorem PV {ρ:Type} {body:Int->Option (BC ρ Int)} {n:Nat} (ok:Nat->Bool) (bad:Nat->ρ)
  (hb:∀ i,i < n->body (i:Int)=some (bif ok i then .next ((i + 1:Nat):Int) else .ret (bad i))) (he:body (n:Int)=some (.done (n:Int))) {N:Nat} (hN:n < N):
  ((∀ i,i < n->ok i=true)/\AU body N 0=some (.done (n:Int)))\/(∃ i,i < n/\ok i=false/\(∀ k,k < i->ok k=true)/\AU body N 0=some (.ret (bad i))):=by
 obtain ⟨o,ho,hR⟩:=Et (body:=body) n (fun i s=>s=(i:Int)/\ ∀ k,k < i->ok k=true) (fun o=>((∀ i,i < n->ok i=true)/\o=.done (n:Int))\/(∃ i,i < n/\ok i=false/\(∀ k,k < i->ok k=true)/\o=.ret (bad i))) (by
  rintro i s hi ⟨rfl,hk⟩
  by_cases h:i < n
  ·rw [hb i h]
   cases e:ok i with
   | true=>
    refine .inl ⟨_,rfl,⟨rfl,fun k hk'=>?_⟩,h⟩
    by_cases hki:k=i
    ·subst hki;exact e
    ·exact hk k (by omega)
   | false=>exact .inr ⟨_,rfl,(fun _ h=>by cases h),.inr ⟨i,h,e,hk,rfl⟩⟩
  ·have:i=n:=by omega
   subst this
   rw [he]
   exact .inr ⟨_,rfl,(fun _ h=>by cases h),.inl ⟨hk,rfl⟩⟩) n N 0 0 (by omega) ⟨rfl,fun k hk=>by omega⟩ hN
 rcases hR with ⟨h1,rfl⟩ | ⟨i,h1,h2,h3,rfl⟩
 ·exact .inl ⟨h1,ho⟩
 ·exact .inr ⟨i,h1,h2,h3,ho⟩
theorem VW (i:Nat) (h:i < 4611686018427387904) (h0:0 < i):W64 ((i:Int) - 1)=((i - 1:Nat):Int):=by
 rw [Eb (by omega) (by omega)];omega
section
open Go.Lib (decDigits)
theorem RF (s:XL):(s !=[])= !decide (s=[]):=by
 cases s <;> rfl
def jn (l:List XL):XL:=Go.Lib.join l [32]
theorem QV:jn []=[]:=rfl
theorem Dj (x:XL):jn [x]=x:=Go.Lib.join_one x [32]
theorem QN:∀ (r:List XL) (x:XL),(32:UInt8)∉x->(∀ y,y∈r->(32:UInt8)∉y)->pcs 32 (jn (x::r))=x::r
 | [],x,hx,_=>by rw [Dj,E0 hx]
 | y::r,x,hx,hr=>by
  have ih:=QN r y (hr y (by simp)) (fun z hz=>hr z (by simp [hz]))
  have:jn (x::y::r)=x++32::jn (y::r):=by
   unfold jn
   rw [Go.Lib.join_cons,Go.Lib.join_cons]
   unfold Go.Lib.joinTail
   simp
  rw [this,Gc hx,ih]
section
variable {N : Nat}
theorem WM (a b:XL) (hN:4294967300 < N):EU N [a,b]=some (if a=[] then b else a):=by
 obtain ⟨M,rfl⟩:∃ M,N=M + 3:=⟨N - 3,by omega⟩
 unfold EU
 by_cases ha:a=[]
 ·rw [if_pos ha]
  by_cases hb:b=[]
  ·subst ha;subst hb;rfl
  ·have e1:CH (M + 3) [a,b] 0=some (.next 1):=by subst ha;rfl
   have e2:CH (M + 3) [a,b] 1=some (.ret b):=by
    show (bif (b !=([]:XL)) then some (.ret b) else some (.next (W64 (1 + 1))))=some (BC.ret b)
    rw [RF,decide_eq_false hb];rfl
   rw [AU,e1]
   simp only
   rw [AU,e2]
   rfl
 ·rw [if_neg ha]
  have e1:CH (M + 3) [a,b] 0=some (.ret a):=by
   show (bif (a !=([]:XL)) then some (.ret a) else some (.next (W64 (0 + 1))))=some (BC.ret a)
   rw [RF,decide_eq_false ha];rfl
  rw [AU,e1]
  rfl
theorem LQ {l:List AJ} {p:AJ->Option Bool} (F:AJ->Bool) (hp:∀ x,x∈l->p x=some (F x)) (hl:l.length < 4000000000) (hN:4294967300 < N):AZ N l p=some (l.any F):=by
 unfold AZ Bw
 rcases PV (body:=AH N l p) (n:=l.length) (fun i=>!((l[i]?.map F).getD false)) (fun i=>(i:Int)) (by
   intro i hi
   unfold AH
   rw [Em hi,cT,Co hi,oS,hp _ (List.getElem_mem hi),oS,Gu i (by omega),List.getElem?_eq_getElem hi]
   simp only [Option.map_some,Option.getD_some]
   cases F l[i] <;> rfl) (by
   unfold AH
   rw [DY,cF]) (N:=N) (by omega) with ⟨g1,g2⟩ | ⟨i,hi,g1,_,g2⟩
 ·rw [g2]
  have:l.any F=false:=by
   rw [List.any_eq_false]
   intro x hx
   obtain ⟨i,hi,rfl⟩:=List.getElem_of_mem hx
   have:=g1 i hi
   rw [List.getElem?_eq_getElem hi] at this
   simpa using this
  rw [this];rfl
 ·rw [g2]
  have:l.any F=true:=by
   rw [List.any_eq_true]
   rw [List.getElem?_eq_getElem hi] at g1
   exact ⟨l[i],List.getElem_mem hi,by simpa using g1⟩
  rw [this]
  show some (decide ((i:Int)>=0))=some true
  rw [decide_eq_true (by omega)]
def QZ (h:Bool) (n m:Int):Bool:=bif h then (decide (1<=n)&&decide (n<=m)) else n==0
def CP (L:Ac) (E:Ae):Bool:=QZ L.Report E.Report 599&&(QZ L.Serial E.Serial 99999&&QZ L.Zone E.Zone 99)
theorem V7 (P:AJ):BZ N P=some (!QZ P.has_ P.n_ P.most_):=by
 unfold BZ QZ
 rw [MW,oS]
 obtain ⟨h,n,m,d⟩:=P
 simp only
 cases h with
 | true=>cases (decide (1<=n)&&decide (n<=m)) <;> rfl
 | false=>
  by_cases hn:n=0
  ·subst hn
   rw [show (decide ((1:Int)<=0)&&decide (0<=m))=false by rw [decide_eq_false (by omega)];rfl]
   rfl
  ·have e1:(n !=0)=true:=by simpa using hn
   have e2:(n==0)=false:=by simpa using hn
   rw [e1,e2]
   cases (decide (1<=n)&&decide (n<=m)) <;> rfl
theorem MH (L:Ac) (E:Ae) (hN:4294967300 < N):BW N L E=some (CP L E):=by
 unfold BW
 unfold CK
 rw [oS,LQ (fun P=>!QZ P.has_ P.n_ P.most_) (fun x _=>V7 x) (by simp) hN,oS]
 unfold CP
 simp
def fs (L:Ac) (E:Ae):List XL:=(if L.Report=true then [dP 1 E.Report.toNat] else [])++((if L.Serial=true then [dP 3 E.Serial.toNat] else [])++(if L.Zone=true then [dP 2 E.Zone.toNat] else []))
def Fi (L:Ac) (E:Ae):XL:=if fs L E=[] then [45] else jn (fs L E)
def G5 (L:Ac) (E:Ae):XL×Int:=if CP L E=true then (Fi L E,0) else ([],1)
structure OkE (L:Ac) (E:Ae):Prop where
 r:if L.Report=true then 1<=E.Report/\E.Report<=599 else E.Report=0
 s:if L.Serial=true then 1<=E.Serial/\E.Serial<=99999 else E.Serial=0
 z:if L.Zone=true then 1<=E.Zone/\E.Zone<=99 else E.Zone=0
theorem okE {L:Ac} {E:Ae} (h:CP L E=true):OkE L E:=by
 unfold CP QZ at h
 simp only [Bool.and_eq_true] at h
 obtain ⟨h1,h2,h3⟩:=h
 constructor
 ·cases hL:L.Report <;> rw [hL] at h1 <;> simpa using h1
 ·cases hL:L.Serial <;> rw [hL] at h2 <;> simpa using h2
 ·cases hL:L.Zone <;> rw [hL] at h3 <;> simpa using h3
theorem OkE.le {L:Ac} {E:Ae} (h:OkE L E):(0<=E.Report/\E.Report<=599)/\(0<=E.Serial/\E.Serial<=99999)/\0<=E.Zone/\E.Zone<=99:=by
 obtain ⟨h1,h2,h3⟩:=h
 refine ⟨?_,?_,?_⟩
 ·split at h1 <;> omega
 ·split at h2 <;> omega
 ·split at h3 <;> omega
theorem Kl {L:Ac} {E:Ae} (h:OkE L E):∀ w,w∈fs L E->w.length<=5/\w.all isD=true/\1<=w.length:=by
 obtain ⟨h1,h2,h3⟩:=h.le
 intro w hw
 unfold fs at hw
 simp only [List.mem_append] at hw
 have l1:=Ik (k:=1) (j:=2) (u:=E.Report.toNat) (by omega)
 have l2:=Ik (k:=3) (j:=4) (u:=E.Serial.toNat) (by omega)
 have l3:=Ik (k:=2) (j:=1) (u:=E.Zone.toNat) (by omega)
 rcases hw with hw | hw | hw
 ·split at hw
  ·simp at hw;subst hw;exact ⟨by omega,Gz _ _,(KY _ _).2⟩
  ·cases hw
 ·split at hw
  ·simp at hw;subst hw;exact ⟨by omega,Gz _ _,(KY _ _).2⟩
  ·cases hw
 ·split at hw
  ·simp at hw;subst hw;exact ⟨by omega,Gz _ _,(KY _ _).2⟩
  ·cases hw
theorem O2 (L:Ac) (E:Ae):(fs L E).length<=3:=by
 unfold fs
 split <;> split <;> split <;> simp
theorem TS:∀ l:List XL,(∀ w,w∈l->w.length<=5)->(jn l).length<=l.length * 6
 | [],_=>by simp [QV]
 | [x],h=>by rw [Dj];have:=h x (by simp);simp;omega
 | x::y::r,h=>by
  have ih:=TS (y::r) (fun w hw=>h w (List.mem_cons_of_mem _ hw))
  have hx:=h x (by simp)
  have:jn (x::y::r)=x++32::jn (y::r):=by
   unfold jn
   rw [Go.Lib.join_cons,Go.Lib.join_cons]
   unfold Go.Lib.joinTail
   simp
  rw [this,List.length_append,List.length_cons,List.length_cons (a:=x)]
  omega
theorem WY {L:Ac} {E:Ae} (h:OkE L E):(jn (fs L E)).length<=18:=by
 have:=TS (fs L E) (fun w hw=>(Kl h w hw).1)
 have:=O2 L E
 omega
theorem WQ {l:List XL} (h:∀ w,w∈l->1<=w.length):jn l=[] ↔ l=[]:=by
 constructor
 ·intro hj
  match l,h,hj with
  | [],_,_=>rfl
  | x::r,h,hj=>
   exfalso
   unfold jn at hj
   rw [Go.Lib.join_cons] at hj
   have:=h x (by simp)
   rw [List.append_eq_nil_iff] at hj
   rw [hj.1] at this
   exact absurd this (by decide)
 ·rintro rfl;rfl
theorem V3 {n:Int} {k:Nat} (h0:0<=n) (h1:n<=1000000000) (hk:k<=100):BQ N n (k:Int)=some (dP k n.toNat):=by
 obtain ⟨u,rfl⟩:∃ u:Nat,n=u:=⟨n.toNat,by omega⟩
 exact MX u k (by omega) hk
def P5 (L:Ac) (E:Ae) (i:Nat):List XL:=if i=0 then (if L.Report=true then [dP 1 E.Report.toNat] else []) else if i=1 then (if L.Serial=true then [dP 3 E.Serial.toNat] else []) else (if L.Zone=true then [dP 2 E.Zone.toNat] else [])
theorem Wn (L:Ac) (E:Ae):cat 3 (P5 L E)=fs L E:=by
 rw [Iw,Iw,Iw]
 unfold fs
 rw [<-List.append_assoc]
 rfl
theorem T9 (L:Ac) (E:Ae) (i:Nat):(P5 L E i).length<=1:=by
 unfold P5
 split
 ·split <;> simp
 ·split <;> split <;> simp
theorem MI (L:Ac) (E:Ae) (hN:4294967300 < N):Bc N L E=some (G5 L E):=by
 unfold Bc G5
 rw [MH L E hN,oS]
 cases hv:CP L E with
 | false=>rfl
 | true=>
  have ok:=okE hv
  obtain ⟨h1,h2,h3⟩:=ok.le
  rw [Bool.not_true,cF,if_pos rfl]
  unfold CK
  rw [oS]
  generalize hP:([_,_,_]:List AJ)=P
  have hstep:∀ (i:Nat) (s:List XL),i < 3->s.length + 1<=0 + 3 * 1->BV N L E true P (s,(i:Int))=some (.next (s++P5 L E i,((i + 1:Nat):Int))):=by
   intro i s hi hs
   have p1:BQ N E.Report 1=some (dP 1 E.Report.toNat):=V3 (k:=1) h1.1 (by omega) (by omega)
   have p2:BQ N E.Serial 3=some (dP 3 E.Serial.toNat):=V3 (k:=3) h2.1 (by omega) (by omega)
   have p3:BQ N E.Zone 2=some (dP 2 E.Zone.toNat):=V3 (k:=2) h3.1 (by omega) (by omega)
   have ha:∀ w:XL,DM s [w]=some (s++[w]):=fun w=>Vw (by simp;omega)
   unfold BV
   subst hP
   simp only
   rw [Gu i (by omega)]
   match i,hi with
   | 0,_=>
    show ((bif L.Report then ((BQ N E.Report 1).bind fun h0=>((DM s [h0]).bind fun h4=>some h4)) else some s).bind fun h5=>some (BC.next (h5,_)))=_
    rw [p1,oS,ha]
    unfold P5
    cases L.Report <;> simp
   | 1,_=>
    show ((bif L.Serial then ((BQ N E.Serial 3).bind fun h0=>((DM s [h0]).bind fun h4=>some h4)) else some s).bind fun h5=>some (BC.next (h5,_)))=_
    rw [p2,oS,ha]
    unfold P5
    cases L.Serial <;> simp
   | 2,_=>
    show ((bif L.Zone then ((BQ N E.Zone 2).bind fun h0=>((DM s [h0]).bind fun h4=>some h4)) else some s).bind fun h5=>some (BC.next (h5,_)))=_
    rw [p3,oS,ha]
    unfold P5
    cases L.Zone <;> simp
  have hend:∀ s:List XL,BV N L E true P (s,((3:Nat):Int))=some (.done (s,((3:Nat):Int))):=by
   intro s
   subst hP
   rfl
  rw [SF (n:=3) 1 (P5 L E) (fun i _=>T9 L E i) (s0:=[]) hstep hend (by omega),Wn]
  simp only [List.nil_append,oS,BC.k]
  have hj:=WY ok
  have hl:=O2 L E
  have e1:strings_Join N (fs L E) [32]=some (jn (fs L E)):=by
   unfold strings_Join
   exact if_pos ⟨by omega,by unfold jn at hj;omega⟩
  rw [e1,oS,WM _ _ hN,oS]
  unfold Fi
  have:=WQ (fun w hw=>(Kl ok w hw).2.2)
  by_cases hf:fs L E=[]
  ·rw [if_pos hf,if_pos (this.2 hf)]
  ·rw [if_neg hf,if_neg (fun h=>hf (this.1 h))]
def HB (h:Bool) (ws:List XL):List XL×Int:=match h,ws with
 | true,w::r=>(r,Sv w)
 | _,_=>(ws,0)
def H1 (L:Ac) (ws:List XL):Ae:={Report:=(HB L.Report ws).2,Serial:=(HB L.Serial (HB L.Report ws).1).2,Zone:=(HB L.Zone (HB L.Serial (HB L.Report ws).1).1).2}
def B1 (L:Ac) (s:XL):Ae×Int:=if G5 L (H1 L (pcs 32 s))=(s,0) then (H1 L (pcs 32 s),0) else ({Report:=0,Serial:=0,Zone:=0},1)
theorem N0 (h:Bool) (ws:List XL):∀ w,w∈(HB h ws).1->w∈ws:=by
 intro w hw
 match h,ws,hw with
 | true,x::r,hw=>exact List.mem_cons_of_mem _ hw
 | true,[],hw=>exact hw
 | false,_,hw=>exact hw
theorem Mz (h:Bool) (ws:List XL) (hl:∀ w,w∈ws->w.length < N):(bif (h&&decide ((ws.length:Int) > 0)) then ((idx ws 0).bind fun h0=>((B6 N h0).bind fun h1=>((sub ws 1 (ws.length:Int)).bind fun h2=>some (h2,h1)))) else some (ws,(0:Int)))=some (HB h ws):=by
 match h,ws,hl with
 | false,_,_=>rfl
 | true,[],_=>rfl
 | true,w::r,hl=>
  have e0:idx (w::r) 0=some w:=rfl
  have e1:sub (w::r) 1 ((w::r).length:Int)=some r:=by
   unfold sub
   rw [if_pos ⟨by omega,by simp only [List.length_cons];omega,by omega⟩]
   simp
  rw [decide_eq_true (by simp only [List.length_cons];omega),e0,e1,oS,MY (hl w (by simp))]
  rfl
theorem S8 (L:Ac) (s:XL) (hs:s.length < 4294967281) (hN:4294967300 < N):Ea N L s=some (B1 L s):=by
 unfold Ea B1
 rw [Mn 32 hs,oS]
 have hle:=QM 32 s
 generalize pcs 32 s=ws at hle
 have hn:∀ w,w∈ws->w.length < N:=fun w hw=>by have:=hle w hw;omega
 have c0:∀ (E:Ae) (b:Bool),((CK N L E).bind fun h0=>((idx h0 0).bind fun h1=>(bif h1.has_ then some b else some false)))=some (L.Report&&b):=by
  intro E b
  show (bif L.Report then some b else some false)=_
  cases L.Report <;> rfl
 have c1:∀ (E:Ae) (b:Bool),((CK N L E).bind fun h0=>((idx h0 1).bind fun h1=>(bif h1.has_ then some b else some false)))=some (L.Serial&&b):=by
  intro E b
  show (bif L.Serial then some b else some false)=_
  cases L.Serial <;> rfl
 have c2:∀ (E:Ae) (b:Bool),((CK N L E).bind fun h0=>((idx h0 2).bind fun h1=>(bif h1.has_ then some b else some false)))=some (L.Zone&&b):=by
  intro E b
  show (bif L.Zone then some b else some false)=_
  cases L.Zone <;> rfl
 rw [c0,oS,Mz L.Report ws hn,oS,c1,oS]
 have h2:∀ w,w∈(HB L.Report ws).1->w.length < N:=fun w hw=>hn w (N0 _ _ w hw)
 rw [Mz L.Serial _ h2,oS,c2,oS]
 have h3:∀ w,w∈(HB L.Serial (HB L.Report ws).1).1->w.length < N:=fun w hw=>h2 w (N0 _ _ w hw)
 rw [Mz L.Zone _ h3,oS]
 show ((Bc N L (H1 L ws)).bind _)=_
 rw [MI L _ hN,oS,To]
 show (bif (!decide (G5 L (H1 L ws)=(s,0))) then _ else some (H1 L ws,(0:Int)))=_
 by_cases h:G5 L (H1 L ws)=(s,0)
 ·rw [decide_eq_true h,if_pos h];rfl
 ·rw [decide_eq_false h,if_neg h];rfl
end
theorem OM {k u:Nat} (hk:k<=9) (hu:u < 100000):Sv (dP k u)=(u:Int):=by
 have h1:=Ik (k:=k) (j:=4) (u:=u) (by omega)
 have h2:=KY k u
 have:Hb (dP k u)=true:=by
  unfold Hb wiB
  rw [Gz]
  simp
  omega
 unfold Sv
 rw [if_pos this,Q6]
theorem Gd {L:Ac} {E:Ae} (h:CP L E=true):B1 L (Fi L E)=(E,0):=by
 have ok:=okE h
 obtain ⟨h1,h2,h3⟩:=ok.le
 have hw:H1 L (pcs 32 (Fi L E))=E:=by
  have n1:=OM (k:=1) (u:=E.Report.toNat) (by omega) (by omega)
  have n2:=OM (k:=3) (u:=E.Serial.toNat) (by omega) (by omega)
  have n3:=OM (k:=2) (u:=E.Zone.toNat) (by omega) (by omega)
  have hp:fs L E≠[]->pcs 32 (Fi L E)=fs L E:=by
   intro hf
   unfold Fi
   rw [if_neg hf]
   have hno:=fun w hw=>no32 (Kl ok w hw).2.1
   revert hf hno
   generalize fs L E=l
   intro hf hno
   match l,hf,hno with
   | x::r,_,hno=>exact QN r x (hno x (by simp)) (fun y hy=>hno y (by simp [hy]))
  obtain ⟨R,S,Z⟩:=L
  obtain ⟨a,b,c⟩:=E
  obtain ⟨o1,o2,o3⟩:=ok
  simp only at o1 o2 o3 h1 h2 h3 n1 n2 n3
  rw [Int.toNat_of_nonneg h1.1] at n1
  rw [Int.toNat_of_nonneg h2.1] at n2
  rw [Int.toNat_of_nonneg h3.1] at n3
  unfold H1
  cases R <;> cases S <;> cases Z <;> simp only [Bool.false_eq_true,if_false,if_true] at o1 o2 o3
  ·subst o1;subst o2;subst o3;rfl
  all_goals
   rw [hp (by unfold fs;simp)]
   unfold fs
   simp [HB,n1,n2,n3, *]
 unfold B1
 rw [hw]
 have:G5 L E=(Fi L E,0):=by unfold G5;rw [if_pos h]
 rw [if_pos this]
end
theorem SV {s:XL} (h:C2 s=true):1<=s.length/\s.length<=4:=by
 unfold C2 wiB at h
 simp only [Bool.and_eq_true,decide_eq_true_eq] at h
 omega
theorem Pt {s:XL} (h:BT s=true):1<=s.length/\s.length<=4:=by
 unfold BT wiB at h
 simp only [Bool.and_eq_true,Bool.or_eq_true,decide_eq_true_eq] at h
 omega
theorem Vv {s:XL} (h:C2 s=true):s.all isE=true:=by
 unfold C2 at h;simp only [Bool.and_eq_true] at h;exact h.1.1
theorem RZ {s:XL} (h:Bm s=true):s.all isE=true:=by
 unfold Bm at h;simp only [Bool.and_eq_true] at h;exact h.1.1.1
theorem Se {s:XL} (h:BT s=true):s.all isE=true:=by
 unfold BT at h
 simp only [Bool.and_eq_true,Bool.or_eq_true] at h
 rw [List.all_eq_true]
 intro b hb
 unfold isE
 rcases h with h | h
 ·rw [List.all_eq_true.1 h.1 b hb];rfl
 ·rw [List.all_eq_true.1 h.1 b hb];simp
def LE (t:Tri):XL:=(if t.1=[] then t.2.1 else t.1++47::t.2.1)++(if t.2.2=[] then [] else 47::t.2.2)
def okT (t:Tri):Bool:=(decide (t.1=[])||C2 t.1)&&Bm t.2.1&&(decide (t.2.2=[])||BT t.2.2)&&(decide (t.1=[])|| !decide (t.2.2=[])||decide (t.1.length < t.2.1.length))&&decide ((LE t).length<=16)
theorem Ql {s:XL} (h:C2 s=true):s≠[]:=by
 rintro rfl;have:=SV h;simp at this
theorem Jt {s:XL} (h:BT s=true):s≠[]:=by
 rintro rfl;have:=Pt h;simp at this
theorem VS (w:XL):JT [w]=if Bm w then some ([],w,[]) else none:=rfl
theorem VR (a b:XL):JT [a,b]=if (C2 a&&Bm b&&decide (a.length < b.length))=true then some (a,b,[]) else if (Bm a&&BT b)=true then some ([],a,b) else none:=rfl
theorem VQ (a b c:XL):JT [a,b,c]=if (C2 a&&Bm b&&BT c)=true then some (a,b,c) else none:=rfl
theorem Q9 {s:XL} {t:Tri} (h:callB s=some t):okT t=true/\s=LE t:=by
 unfold callB at h
 by_cases hl:s.length<=16
 ·rw [if_pos hl] at h
  have hj:=J6 47 s
  suffices hh:s=LE t/\((decide (t.1=[])||C2 t.1)&&Bm t.2.1&&(decide (t.2.2=[])||BT t.2.2)&&(decide (t.1=[])|| !decide (t.2.2=[])||decide (t.1.length < t.2.1.length)))=true by
   refine ⟨?_,hh.1⟩
   unfold okT
   rw [hh.2,<-hh.1,decide_eq_true hl];rfl
  revert h hj
  generalize pcs 47 s=ws
  intro h hj
  match ws,h,hj with
  | [w],h,hj=>
   rw [VS] at h
   cases hb:Bm w with
   | false=>rw [hb] at h;simp at h
   | true=>
    rw [hb] at h
    simp at h
    subst h
    have:w=s:=by simpa [List.intercalate] using hj
    exact ⟨by simp [LE,this],by simp [hb]⟩
  | [a,b],h,hj=>
   have hj':a++47::b=s:=by simpa [List.intercalate] using hj
   rw [VR] at h
   by_cases h1:(C2 a&&Bm b&&decide (a.length < b.length))=true
   ·rw [if_pos h1] at h
    simp at h
    subst h
    simp only [Bool.and_eq_true,decide_eq_true_eq] at h1
    exact ⟨by simp [LE,hj',Ql h1.1.1],by simp [h1]⟩
   ·rw [if_neg h1] at h
    by_cases h2:(Bm a&&BT b)=true
    ·rw [if_pos h2] at h
     simp at h
     subst h
     simp only [Bool.and_eq_true] at h2
     exact ⟨by simp [LE,hj',Jt h2.2],by simp [h2]⟩
    ·rw [if_neg h2] at h;cases h
  | [a,b,c],h,hj=>
   have hj':a++47::(b++47::c)=s:=by simpa [List.intercalate] using hj
   rw [VQ] at h
   by_cases h1:(C2 a&&Bm b&&BT c)=true
   ·rw [if_pos h1] at h
    simp at h
    subst h
    simp only [Bool.and_eq_true] at h1
    refine ⟨?_,?_⟩
    ·rw [<-hj'];simp [LE,Ql h1.1.1,Jt h1.2]
    ·simp [h1,Jt h1.2]
   ·rw [if_neg h1] at h;cases h
  | [],h,_=>cases h
  | _::_::_::_::_,h,_=>cases h
 ·rw [if_neg hl] at h;cases h
def Ei (s:XL):Bool:=(callB s).isSome
section
variable {N : Nat}
theorem UC (s:XL) (hN:4294967300 < N):FS N s=some (Ei s):=by
 unfold FS Ei
 rw [U2 s hN,oS]
 unfold Qv
 cases callB s <;> rfl
end
def DW (_N:Nat) (s:XL):Option Bool:=some (Ei s)
theorem EK:Aj Tryz.prog 79:=Kw
theorem Fh (N:Nat) (w0:World) (F0:Mem) (hF:XN w0 F0) (hG:BB F0) (x0:XL) (r:Bool) (h:DW N x0=some r):
  Calls Tryz.prog 79 ([(.string ⟨(x0).toArray⟩)]:List Value).toArray w0 (AA w0 F0 fun F' v=>v=(.bool r)):=by
 exact Le 9223372036854775808 w0 F0 hF hG x0 r ((UC x0 (by decide)).trans h)
def EX (_N:Nat) (s:XL):Option (Int×Int):=if s.length < 4294967281 then some (G7 s) else none
theorem K6:Aj Tryz.prog 96:=Kx
theorem Mg (N:Nat) (w0:World) (F0:Mem) (hF:XN w0 F0) (hG:BB F0) (x0:XL) (r:(Int×Int)) (h:EX N x0=some r):
  Calls Tryz.prog 96 ([(.string ⟨(x0).toArray⟩)]:List Value).toArray w0 (AA w0 F0 fun F' v=>v=(.tuple #[(.int .i64 r.1),(.int .i64 r.2)])):=by
 unfold EX at h
 split at h
 ·rename_i hs
  exact Lh 9223372036854775808 w0 F0 hF hG x0 r ((Py x0 hs (by decide)).trans h)
 ·cases h
def Ct (_N:Nat) (L:Ac) (s:XL):Option (Ae×Int):=if s.length < 4294967281 then some (B1 L s) else none
theorem BA:Aj Tryz.prog 97:=HP
theorem BI (N:Nat) (w0:World) (F0:Mem) (hF:XN w0 F0) (hG:BB F0) (x0:Ac) (x1:XL) (r:(Ae×Int)) (h:Ct N x0 x1=some r):
  Calls Tryz.prog 97 ([(.agg #[(.bool x0.Report),(.bool x0.Serial),(.bool x0.Zone)]),(.string ⟨(x1).toArray⟩)]:List Value).toArray w0 (AA w0 F0 fun F' v=>v=(.tuple #[(.agg #[(.int .i64 r.1.Report),(.int .i64 r.1.Serial),(.int .i64 r.1.Zone)]),(.int .i64 r.2)])):=by
 unfold Ct at h
 split at h
 ·rename_i hs
  exact IC 9223372036854775808 w0 F0 hF hG x0 x1 r ((S8 x0 x1 hs (by decide)).trans h)
 ·cases h
section
open Go.Lib (decDigits)
theorem CR {r:List XL} (h:r≠[]) (x:XL):jn (x::r)=x++32::jn r:=by
 match r,h with
 | y::r,_=>
  unfold jn
  rw [Go.Lib.join_cons,Go.Lib.join_cons]
  unfold Go.Lib.joinTail
  simp
theorem TT:∀ {a b:List XL},a≠[]->b≠[]->jn (a++b)=jn a++32::jn b
 | [],_,h,_=>absurd rfl h
 | [x],b,_,hb=>by rw [List.singleton_append,CR hb,Dj]
 | x::y::a,b,_,hb=>by
  rw [List.cons_append,CR (by simp),CR (by simp),TT (by simp) hb];simp
theorem RR:∀ {L:List (List XL)},(∀ l,l∈L->l≠[])->jn (L.map jn)=jn L.flatten
 | [],_=>rfl
 | [l],_=>by simp [Dj]
 | l::m::L,h=>by
  have ih:=RR (L:=m::L) (fun x hx=>h x (List.mem_cons_of_mem _ hx))
  have hm:(m::L).flatten≠[]:=by
   have:=h m (by simp)
   simp [this]
  rw [List.map_cons,CR (by simp),ih,List.flatten_cons (l:=l),TT (h l (by simp)) hm]
theorem RB {l:List XL} (hn:l≠[]) (h:∀ w,w∈l->(32:UInt8)∉w):pcs 32 (jn l)=l:=by
 cases l with
 | nil=>exact absurd rfl hn
 | cons x r=>exact QN r x (h x (by simp)) fun y hy=>h y (by simp [hy])
theorem TQ (s:XL):jn (pcs 32 s)=s:=by
 have:∀ (l:List XL),l≠[]->jn l=[32].intercalate l:=by
  intro l
  induction l with
  | nil=>intro h;exact absurd rfl h
  | cons x r ih=>
   intro _
   cases r with
   | nil=>rw [Dj];simp [List.intercalate]
   | cons y r=>
    rw [CR (by simp),ih (by simp)]
    simp [List.intercalate,List.intersperse]
 rw [this _ (G6 32 s),J6]
def Qb (b:UInt8):Bool:=isL b||isD b||b==47
def Hj (s:XL):Bool:=wiB s.length 1 16&&s.all Qb
def Cy (o:Ac) (x:Line):Bool:=decide (1<=x.Num/\x.Num<=65535)&&(decide (1<=x.Khz/\x.Khz<=10000000)&&(decide (1<=x.Mode/\x.Mode<=3)&&(decide (0<=x.Minute/\x.Minute<=20000)&&(Hj x.Call&&(CP o x.Sent&&CP o x.Got)))))
structure OkL (o:Ac) (x:Line):Prop where
 n:1<=x.Num/\x.Num<=65535
 k:1<=x.Khz/\x.Khz<=10000000
 m:1<=x.Mode/\x.Mode<=3
 t:0<=x.Minute/\x.Minute<=20000
 c:Hj x.Call=true
 s:CP o x.Sent=true
 g:CP o x.Got=true
theorem BO {o:Ac} {x:Line}:Cy o x=true ↔ OkL o x:=by
 unfold Cy
 simp only [Bool.and_eq_true,decide_eq_true_eq]
 exact ⟨fun ⟨a,b,c,d,e,f,g⟩=>⟨a,b,c,d,e,f,g⟩,fun h=>⟨h.n,h.k,h.m,h.t,h.c,h.s,h.g⟩⟩
def JF (m:Int):XL:=if m=1 then [77] else if m=2 then [86] else [68]
def fsw (o:Ac) (E:Ae):List XL:=if fs o E=[] then [[45]] else fs o E
def tW (u:Nat):List XL:=[decDigits (u / 1440 + 1),dP 2 (u / 60 % 24)++dP 2 (u % 60)]
def QSO:XL:=[81,83,79]
def HD (x:Line):List XL:=[QSO,decDigits x.Num.toNat,decDigits x.Khz.toNat,JF x.Mode]++tW x.Minute.toNat++[x.Call,[62]]
def Ed (o:Ac) (x:Line):List XL:=HD x++(fsw o x.Sent++[60]::fsw o x.Got)
def Bz (o:Ac) (x:Line):XL:=jn (Ed o x)
theorem Ps (u:Nat):Fj u=jn (tW u):=by unfold Fj tW;rw [CR (by simp),Dj]
theorem HV (o:Ac) (E:Ae):Fi o E=jn (fsw o E):=by
 unfold Fi fsw
 split
 ·rw [Dj]
 ·rfl
theorem Wm (o:Ac) (E:Ae):fsw o E≠[]:=by
 unfold fsw
 split
 ·simp
 ·assumption
theorem SC (o:Ac) (x:Line):jn [QSO,decDigits x.Num.toNat,decDigits x.Khz.toNat,JF x.Mode,Fj x.Minute.toNat,x.Call,[62],Fi o x.Sent,[60],Fi o x.Got]=Bz o x:=by
 have h:=RR (L:=[[QSO],[decDigits x.Num.toNat],[decDigits x.Khz.toNat],[JF x.Mode],tW x.Minute.toNat,[x.Call],[[62]],fsw o x.Sent,[[60]],fsw o x.Got]) (by
  intro l hl
  simp only [List.mem_cons,List.not_mem_nil,or_false] at hl
  rcases hl with rfl | rfl | rfl | rfl | rfl | rfl | rfl | rfl | rfl | rfl
  all_goals first | exact Wm _ _ | simp [tW])
 simp only [List.map_cons,List.map_nil,Dj,<-Ps,<-HV] at h
 rw [h]
 unfold Bz Ed HD
 simp
theorem FK {o:Ac} {E:Ae} (h:CP o E=true):∀ w,w∈fsw o E->(32:UInt8)∉w/\w≠[60]/\w≠[62]/\w.length<=5:=by
 intro w hw
 unfold fsw at hw
 split at hw
 ·simp at hw;subst hw;decide
 ·obtain ⟨h1,h2,h3⟩:=Kl (okE h) w hw
  refine ⟨no32 h2,?_,?_,h1⟩
  ·rintro rfl;revert h2;decide
  ·rintro rfl;revert h2;decide
theorem JG {s:XL} (h:Hj s=true):(32:UInt8)∉s/\s≠[60]/\s≠[62]/\1<=s.length/\s.length<=16:=by
 unfold Hj wiB at h
 simp only [Bool.and_eq_true,decide_eq_true_eq] at h
 obtain ⟨⟨h1,h2⟩,h3⟩:=h
 rw [List.all_eq_true] at h3
 refine ⟨fun hm=>?_,?_,?_,h1,h2⟩
 ·have:=h3 _ hm;revert this;decide
 ·rintro rfl;have:=h3 60 (by simp);revert this;decide
 ·rintro rfl;have:=h3 62 (by simp);revert this;decide
theorem SD (m:Int):(32:UInt8)∉JF m/\JF m≠[60]:=by
 unfold JF;split
 ·decide
 ·split <;> decide
theorem O6 (u:Nat):(32:UInt8)∉decDigits u/\decDigits u≠[60]:=by
 refine ⟨no32 (Ij u),fun h=>?_⟩
 have:=Ij u
 rw [h] at this;revert this;decide
theorem Oi {o:Ac} {x:Line} (h:OkL o x):∀ w,w∈HD x->(32:UInt8)∉w/\w≠[60]:=by
 intro w hw
 have hc:=JG h.c
 have hall:(dP 2 (x.Minute.toNat / 60 % 24)++dP 2 (x.Minute.toNat % 60)).all isD=true:=by rw [List.all_append,Gz,Gz];rfl
 unfold HD tW at hw
 simp only [List.mem_append,List.mem_cons,List.not_mem_nil,or_false] at hw
 rcases hw with ((rfl | rfl | rfl | rfl) | (rfl | rfl)) | (rfl | rfl)
 ·decide
 ·exact O6 _
 ·exact O6 _
 ·exact SD _
 ·exact O6 _
 ·refine ⟨no32 hall,fun e=>?_⟩
  rw [e] at hall;revert hall;decide
 ·exact ⟨hc.1,hc.2.1⟩
 ·decide
theorem FJ {o:Ac} {x:Line} (h:OkL o x):pcs 32 (Bz o x)=Ed o x:=by
 refine RB (by unfold Ed HD;simp) fun w hw=>?_
 unfold Ed at hw
 simp only [List.mem_append,List.mem_cons] at hw
 rcases hw with hw | hw | rfl | hw
 ·exact (Oi h w hw).1
 ·exact (FK h.s w hw).1
 ·decide
 ·exact (FK h.g w hw).1
theorem Oj (x:Line):(HD x).length=8:=rfl
theorem VJ:∀ (l:List XL) (k:Nat),(∀ w,w∈l->w.length<=k)->(jn l).length<=l.length * (k + 1)
 | [],k,_=>by simp [QV]
 | [x],k,h=>by have:=h x (by simp);rw [Dj];simp;omega
 | x::y::r,k,h=>by
  have:=h x (by simp)
  have:=VJ (y::r) k fun w hw=>h w (List.mem_cons_of_mem _ hw)
  rw [CR (by simp),List.length_append,List.length_cons,List.length_cons,Nat.succ_mul]
  omega
theorem M1 {o:Ac} {x:Line} (h:OkL o x):(Bz o x).length<=300:=by
 have hc:=JG h.c
 obtain ⟨n1,n2⟩:=h.n
 obtain ⟨k1,k2⟩:=h.k
 have hw:∀ w,w∈Ed o x->w.length<=16:=by
  intro w hw
  have d1:=Hl 4 x.Num.toNat (by omega)
  have d2:=Hl 7 x.Khz.toNat (by omega)
  have d3:=O7 (u:=x.Minute.toNat / 1440 + 1) (by have:=h.t;omega)
  have d4:=IV (u:=x.Minute.toNat / 60 % 24) (by omega)
  have d5:=IV (u:=x.Minute.toNat % 60) (by omega)
  unfold Ed HD tW at hw
  simp only [List.mem_append,List.mem_cons,List.not_mem_nil,or_false] at hw
  rcases hw with (((rfl | rfl | rfl | rfl) | (rfl | rfl)) | (rfl | rfl)) | hw | rfl | hw
  ·decide
  ·omega
  ·omega
  ·unfold JF;split
   ·decide
   ·split <;> decide
  ·omega
  ·rw [List.length_append];omega
  ·omega
  ·decide
  ·have:=(FK h.s w hw).2.2.2;omega
  ·decide
  ·have:=(FK h.g w hw).2.2.2;omega
 have hl:(Ed o x).length<=16:=by
  have h1:=O2 o x.Sent
  have h2:=O2 o x.Got
  have f:∀ E,(fs o E).length<=3->(fsw o E).length<=3:=fun E hE=>by
   unfold fsw;split
   ·simp
   ·exact hE
  have:=f _ h1
  have:=f _ h2
  unfold Ed
  rw [List.length_append,Oj,List.length_append,List.length_cons];omega
 have:=VJ _ 16 hw
 have:(Ed o x).length * 17<=16 * 17:=Nat.mul_le_mul_right _ hl
 unfold Bz;omega
noncomputable def H6 (o:Ac) (s:XL):Option Line:=@dite _ (∃ x,Cy o x=true/\Bz o x=s) (Classical.propDecidable _) (fun h=>some (Classical.choose h)) (fun _=>none)
theorem IU {a b:Int} (ha:0<=a) (hb:0<=b) (h:decDigits a.toNat=decDigits b.toNat):a=b:=by
 have:=KX a.toNat
 rw [h,KX] at this;omega
theorem TM {a b:Int} (ha:1<=a/\a<=3) (hb:1<=b/\b<=3) (h:JF a=JF b):a=b:=by
 have h1:a=1\/a=2\/a=3:=by omega
 have h2:b=1\/b=2\/b=3:=by omega
 rcases h1 with rfl | rfl | rfl <;> rcases h2 with rfl | rfl | rfl <;> first | rfl | exact absurd h (by decide)
theorem RU {o:Ac} {E G:Ae} (hE:CP o E=true) (hG:CP o G=true) (h:fsw o E=fsw o G):E=G:=by
 have e:Fi o E=Fi o G:=by rw [HV,HV,h]
 have h1:=Gd hE
 rw [e,Gd hG] at h1
 exact (congrArg Prod.fst h1).symm
theorem MD {a b c d:List XL} (ha:∀ w,w∈a->w≠[60]) (hc:∀ w,w∈c->w≠[60]) (h:a++[60]::b=c++[60]::d):a=c/\b=d:=by
 induction a generalizing c with
 | nil=>
  cases c with
  | nil=>simp at h;exact ⟨rfl,h⟩
  | cons y c=>simp at h;exact absurd h.1.symm (hc y (by simp))
 | cons x a ih=>
  cases c with
  | nil=>simp at h;exact absurd h.1 (ha x (by simp))
  | cons y c=>
   simp only [List.cons_append,List.cons.injEq] at h
   obtain ⟨h1,h2⟩:=ih (fun w hw=>ha w (by simp [hw])) (fun w hw=>hc w (by simp [hw])) h.2
   exact ⟨by rw [h.1,h1],h2⟩
theorem TL {o:Ac} {x y:Line} (hx:OkL o x) (hy:OkL o y) (h:Bz o x=Bz o y):x=y:=by
 have hw:Ed o x=Ed o y:=by rw [<-FJ hx,<-FJ hy,h]
 unfold Ed at hw
 obtain ⟨h1,h2⟩:=List.append_inj hw rfl
 obtain ⟨h3,h4⟩:=MD (fun w hw=>(FK hx.s w hw).2.1) (fun w hw=>(FK hy.s w hw).2.1) h2
 unfold HD tW at h1
 simp only [List.cons_append,List.nil_append,List.cons.injEq,and_true,true_and] at h1
 obtain ⟨e1,e2,e3,e4,e5,e6⟩:=h1
 have t:x.Minute=y.Minute:=by
  have h1:Fj x.Minute.toNat=Fj y.Minute.toNat:=by unfold Fj;rw [e4,e5]
  have h2:=Jz (u:=x.Minute.toNat) (by have:=hx.t;omega)
  rw [h1,Jz (u:=y.Minute.toNat) (by have:=hy.t;omega)] at h2
  have:=congrArg Prod.fst h2
  simp only at this
  have:=hx.t;have:=hy.t
  omega
 have a1:=IU (by have:=hx.n;omega) (by have:=hy.n;omega) e1
 have a2:=IU (by have:=hx.k;omega) (by have:=hy.k;omega) e2
 have a3:=TM hx.m hy.m e3
 have a4:=RU hx.s hy.s h3
 have a5:=RU hx.g hy.g h4
 cases x;cases y
 simp only at a1 a2 a3 a4 a5 t e6
 subst a1 a2 a3 a4 a5 t e6
 rfl
theorem CN {o:Ac} {s:XL} {x:Line}:H6 o s=some x ↔ Cy o x=true/\Bz o x=s:=by
 unfold H6
 constructor
 ·intro h
  split at h
  ·rename_i hx
   cases h
   exact Classical.choose_spec hx
  ·cases h
 ·rintro ⟨h1,h2⟩
  have hex:∃ x,Cy o x=true/\Bz o x=s:=⟨x,h1,h2⟩
  rw [dif_pos hex]
  have h3:=Classical.choose_spec hex
  rw [TL (BO.1 h3.1) (BO.1 h1) (h3.2.trans h2.symm)]
theorem PJ {o:Ac} {s:XL}:H6 o s=none ↔ ∀ x,Cy o x=true->Bz o x≠s:=by
 constructor
 ·intro h x hx e
  rw [CN.2 ⟨hx,e⟩] at h;cases h
 ·intro h
  cases hp:H6 o s with
  | none=>rfl
  | some x=>exact absurd (CN.1 hp).2 (h x (CN.1 hp).1)
end
end Go.Proofs.YthljkpeimofbbaaGreatDoor
