/- Lemmas of the claim LogsOrder, printed by a program of the claimant and by hand. No statement of the seat is proved here. -/
import Derived.Test.YthljkpeimofbbaaGreatDoorE12x1
set_option linter.unusedVariables false
set_option linter.unusedSimpArgs false
set_option linter.unusedSectionVars false
set_option maxHeartbeats 4000000
set_option maxRecDepth 100000
namespace Go.Proofs.YthljkpeimofbbaaGreatDoor
def Ag (R:Array Oper) (i:Nat):Op:=match R[i]? with | some o=>o.op | none=>.alloc 0
def E9 (R:Array Oper) (i:Nat):TypeId:=match R[i]? with | some o=>o.type | none=>0
def A5 (R:Array Oper) (i:Nat):Option Nat:=match R[i]? with | some o=>o.dst | none=>none
def Us (R:Array Oper) (i:Nat):Option (Nat×Bool):=match R[i]? with | some o=>o.guard | none=>none
def ung (R:Array Oper) (i:Nat):Bool:=match R[i]? with | some o=>(match o.guard with | none=>true | some _=>false) | none=>false
theorem A9 {R:Array Oper} {i:Nat} (h:ung R i=true):opq R i=some (A5 R i,Ag R i,E9 R i,none):=by
 unfold ung at h;unfold opq A5 Ag E9;cases hr:R[i]? with
 | none=>simp [hr] at h
 | some o=>
  simp only [hr] at h;cases hg:o.guard with
  | none=>simp [hg]
  | some p=>simp [hg] at h
def LB (R:Array Oper) (j:Nat) (b:Bool) (i:Nat):Bool:=match R[i]? with | some o=>(match o.guard with | none=>true | some (j',b')=>Nat.beq j j'&&(b==b')) | none=>false
theorem LW {R:Array Oper} {i j:Nat} {b:Bool} (h:LB R j b i=true):opq R i=some (A5 R i,Ag R i,E9 R i,none)\/opq R i=some (A5 R i,Ag R i,E9 R i,some (j,b)):=by
 unfold LB at h;unfold opq A5 Ag E9;cases hr:R[i]? with
 | none=>simp [hr] at h
 | some o=>
  simp only [hr] at h;cases hg:o.guard with
  | none=>simp [hg]
  | some p=>
   obtain ⟨j',b'⟩:=p;simp only [hg,Bool.and_eq_true,beq_iff_eq] at h;have e1:=Nat.eq_of_beq_eq_true h.1;have e2:=h.2;subst e1;subst e2;simp [hg]
def slQ (P:Program) (t:TypeId):Bool:=match A1 P t with | some _=>true | none=>false
def pvI (op:BinOp) (k:IntKind) (a b:Int):Option Value:=match op with
 | .add=>some (.int k (k.wrap (a + b))) | .sub=>some (.int k (k.wrap (a - b))) | .mul=>some (.int k (k.wrap (a * b)))
 | .lss=>some (.bool (decide (a < b))) | .leq=>some (.bool (decide (a<=b))) | .gtr=>some (.bool (decide (a > b))) | .geq=>some (.bool (decide (a>=b)))
 | .eql=>some (.bool (a==b)) | .neq=>some (.bool (a !=b))
 | .quo=>(match decide (b=0) with | false=>some (.int k (k.wrap (a.tdiv b))) | true=>none)
 | .rem=>(match decide (b=0) with | false=>some (.int k (a.tmod b)) | true=>none)
 | _=>none
def pvS (op:BinOp) (a b:Vp):Option Value:=match op with
 | .eql=>some (.bool (a==b)) | .neq=>some (.bool (a !=b)) | .lss=>some (.bool (Je a b)) | .leq=>some (.bool (Je a b||a==b))
 | .gtr=>some (.bool (!(Je a b||a==b))) | .geq=>some (.bool (!Je a b)) | _=>none
def Rp (P:Program) (t:TypeId) (op:BinOp):Value->Value->Option Value
 | .int k a,.int k' b=>(match decide (k=k') with | true=>pvI op k a b | false=>none)
 | .string a,.string b=>pvS op a.data.toList b.data.toList
 | .bool a,.bool b=>(match P.underlying t with | some .bool=>(match op with | .eql=>some (.bool (a==b)) | .neq=>some (.bool (!(a==b))) | _=>none) | _=>none)
 | .agg xs,.agg ys=>(match P.eqGuardType P.depth t with
  | false=>(match eqV P 8 t (.agg xs) (.agg ys) with | some b=>(match op with | .eql=>some (.bool b) | .neq=>some (.bool (!b)) | _=>none) | none=>none)
  | true=>none)
 | _,_=>none
def Pk (P:Program) (ρ:Operand->Value) (c:Call):Option Value:=match c.callee with
 | .builtin .len=>(match c.args.toList with
  | [x]=>(match c.argTypes[0]? with
   | some t=>(match ρ x with
    | .slice _ n _=>(match slQ P t with | true=>some (.int .i64 (n:Int)) | false=>none)
    | .string s=>(match P.underlying t with | some .string=>some (.int .i64 (s.data.toList.length:Int)) | _=>none)
    | _=>none)
   | none=>none)
  | _=>none)
 | .builtin .max=>(match c.args.toList with | [x,y]=>(match ρ x,ρ y with | .int .i64 a,.int .i64 b=>some (.int .i64 (max a b)) | _,_=>none) | _=>none)
 | .builtin .min=>(match c.args.toList with | [x,y]=>(match ρ x,ρ y with | .int .i64 a,.int .i64 b=>some (.int .i64 (min a b)) | _,_=>none) | _=>none)
 | _=>none
def pv (P:Program) (ρ:Operand->Value):Op->Option Value
 | .move x=>some (ρ x)
 | .assign x=>some (ρ x)
 | .binOp op t x y _=>Rp P t op (ρ x) (ρ y)
 | .unOp op _ x=>(match op,ρ x with | .not,.bool b=>some (.bool (!b)) | .neg,.int k a=>some (.int k (k.wrap (0 - a))) | _,_=>none)
 | .extract x i=>(match ρ x with | .tuple vs=>vs[i]? | _=>none)
 | .fieldAddr s x i=>(match ρ x with
  | .pointer (some ⟨b,o,none⟩)=>(match Jx P s i with | some (off,k)=>(match decide (k=0) with | false=>some (.pointer (some ⟨b,o + off,none⟩)) | true=>none) | none=>none)
  | _=>none)
 | .field s x i=>(match ρ x with
  | .agg cs=>(match PA P s i with
   | some (o,t)=>(match D4 P t with
    | some (gg,k)=>(match Nat.beq (Al cs o k).length k&&(gg||k==1) with | true=>some (mkV gg (Al cs o k)) | false=>none)
    | none=>none)
   | none=>none)
  | _=>none)
 | .build t parts=>(match PI P t (parts.toList.map fun p=>(p.1,ρ p.2)) with | some cs=>some (.agg cs.toArray) | none=>none)
 | .makeFunc fn fi ca=>some (.func fn (fi.toList.map ρ).toArray (ca.toList.map ρ).toArray)
 | .nilCheck x=>(match ρ x with | .pointer (some a)=>some (.pointer (some a)) | _=>none)
 | .convert s d x=>(match ρ x with | .int _ a=>(match (P.underlying s).isSome,P.underlying d with | true,some (.int k)=>some (.int k (k.wrap a)) | _,_=>none) | _=>none)
 | .call c=>Pk P ρ c
 | _=>none
theorem Ng (s:ByteArray):s=⟨s.data.toList.toArray⟩:=by cases s;rfl
section
variable {P : Program} {ρ : Operand -> Value} {w : World} {ty : TypeId}
theorem SN {op:BinOp} {k:IntKind} {a b:Int} {x y:Operand} {t t':TypeId} {v:Value} (hx:ρ x=.int k a) (hy:ρ y=.int k b) (h:pvI op k a b=some v):(Ak ρ (.binOp op t x y t') ty).run P w=.ok (.value v) w:=by
  cases op <;> simp only [pvI,Option.some.injEq,reduceCtorEq] at h <;> first
    | (subst h;first | exact Ns hx hy | exact HW hx hy | exact SF hx hy | exact Jh hx hy | exact Ll hx hy | exact Np hx hy | exact PS hx hy | exact Jj hx hy | exact HX hx hy)
    | (split at h
       · rename_i hb;cases h;first | exact SB hx hy hb | exact SA hx hy hb
       · cases h)
theorem SM {op:BinOp} {a b:Vp} {x y:Operand} {t t':TypeId} {v:Value} (hx:ρ x=.string ⟨a.toArray⟩) (hy:ρ y=.string ⟨b.toArray⟩) (h:pvS op a b=some v):(Ak ρ (.binOp op t x y t') ty).run P w=.ok (.value v) w:=by
 cases op <;> simp only [pvS,Option.some.injEq,reduceCtorEq] at h <;> subst h <;> exact Rj hx hy rfl
theorem QB {op:BinOp} {x y:Operand} {t t':TypeId} {v:Value} (h:Rp P t op (ρ x) (ρ y)=some v):(Ak ρ (.binOp op t x y t') ty).run P w=.ok (.value v) w:=by
 generalize hx:ρ x=a at h;generalize hy:ρ y=b at h;unfold Rp at h;split at h
 ·split at h
  ·rename_i hk;have:=of_decide_eq_true hk;subst this;exact SN hx hy h
  ·cases h
 ·rename_i a b;exact SM (hx.trans (congrArg _ (Ng a))) (hy.trans (congrArg _ (Ng b))) h
 ·split at h
  ·rename_i hu;split at h
   ·cases h;exact SH hx hy hu
   ·cases h;exact SE hx hy hu
   ·cases h
  ·cases h
 ·split at h
  ·rename_i hg;split at h
   ·rename_i b he;split at h
    ·cases h;exact PT hx hy hg he
    ·cases h;exact SC hx hy hg he
    ·cases h
   ·cases h
  ·cases h
 ·cases h
theorem Pj {c:Call} {v:Value} (h:Pk P ρ c=some v):(Ak ρ (.call c) ty).run P w=.ok (.value v) w:=by
 obtain ⟨callee,args,ats⟩:=c;unfold Pk at h;simp only at h;split at h
 ·split at h
  ·rename_i x ha;have:args=#[x]:=by cases args;simpa using ha
   subst this;split at h
   ·rename_i t ht;split at h
    ·rename_i a n c hx;split at h
     ·rename_i hs;unfold slQ at hs;split at hs
      ·rename_i q hq;obtain ⟨E,s,by_⟩:=q;cases h;exact Hl hx ht hq
      ·cases hs
     ·cases h
    ·rename_i s hx;split at h
     ·rename_i hu;cases h;exact LK (hx.trans (congrArg _ (Ng s))) ht hu
     ·cases h
    ·cases h
   ·cases h
  ·cases h
 ·split at h
  ·rename_i x y ha;have:args=#[x,y]:=by cases args;simpa using ha
   subst this;split at h
   ·rename_i hx hy;cases h;exact Rl hx hy
   ·cases h
  ·cases h
 ·split at h
  ·rename_i x y ha;have:args=#[x,y]:=by cases args;simpa using ha
   subst this;split at h
   ·rename_i hx hy;cases h;exact Rk hx hy
   ·cases h
  ·cases h
 ·cases h
theorem Nv {op:Op} {v:Value} (h:pv P ρ op=some v):(Ak ρ op ty).run P w=.ok (.value v) w:=by
 unfold pv at h;split at h
 ·cases h;exact Od rfl
 ·cases h;exact GK rfl
 ·exact QB h
 ·split at h
  ·rename_i hx;cases h;exact Jg hx
  ·rename_i hx;cases h;exact SD hx
  ·cases h
 ·split at h
  ·rename_i hx;exact Oe hx h
  ·cases h
 ·split at h
  ·rename_i hx;split at h
   ·rename_i hf;split at h
    ·rename_i hk;cases h;exact Cx hx hf hk rfl
    ·cases h
   ·cases h
  ·cases h
 ·split at h
  ·rename_i hx;split at h
   ·rename_i hf;split at h
    ·rename_i ht;split at h
     ·rename_i hk;simp only [Bool.and_eq_true] at hk;cases h;exact LN hx hf ht (Nat.eq_of_beq_eq_true hk.1) hk.2 rfl
     ·cases h
    ·cases h
   ·cases h
  ·cases h
 ·split at h
  ·rename_i hb;cases h;exact Pi rfl hb
  ·cases h
 ·cases h;exact Nm rfl rfl
 ·split at h
  ·rename_i hx;cases h;exact Cs hx
  ·cases h
 ·split at h
  ·rename_i hx;split at h
   ·rename_i hs hd;cases h;exact Og hx hs hd
   ·cases h
  ·cases h
 ·exact Pj h
 ·cases h
variable {ro : Option Nat} {n : Nat} {R : Array Oper} {Q : Exit -> Fr -> World -> Prop}
def pst (P:Program) (R:Array Oper):List Nat->Nat->Fr->Fr
 | _,0,f=>f
 | [],_ + 1,f=>f
 | i::l,m + 1,f=>pst P R l m (AZ f (A5 R i) ((pv P (fev f) (Ag R i)).getD undef))
def isS {α:Type}:Option α->Bool | some _=>true | none=>false
theorem Hx {α:Type} {o:Option α} {d:α} (h:isS o=true):o=some (o.getD d):=by cases o <;> simp_all [isS]
def pok (P:Program) (R:Array Oper):List Nat->Nat->Fr->Bool
 | _,0,_=>true
 | [],_ + 1,_=>false
 | i::l,m + 1,f=>ung R i&&(isS (pv P (fev f) (Ag R i))&&pok P R l m (AZ f (A5 R i) ((pv P (fev f) (Ag R i)).getD undef)))
theorem Sg:∀ (m:Nat) {l:List Nat} {f:Fr},RWP P ro n R Q (l.drop m) (pst P R l m f) w->pok P R l m f=true->RWP P ro n R Q l f w
 | 0,l,f,k,_=>by cases l <;> exact k
 | m + 1,[],f,k,h=>by simp [pok] at h
 | m + 1,i::l,f,k,h=>by
  simp only [pok,Bool.and_eq_true] at h;exact UZ (A9 h.1) rfl (Nv (Hx h.2.1)) (Sg m k h.2.2)
theorem Vs (m:Nat) {l:List Nat} {f:Fr} (k:RWP P ro n R Q (l.drop m) (pst P R l m f) w) (h:pok P R l m f=true:=by kernel_rfl):RWP P ro n R Q l f w:=Sg m k h
def Rr (P:Program) (R:Array Oper) (j:Nat) (b:Bool) (q:Nat):List Nat->Nat->Fr->Bool
 | _,0,_=>true
 | [],_ + 1,_=>false
 | i::l,m + 1,f=>LB R j b i&&((match A5 R i with | some d=>!Nat.beq q d | none=>true)&&(isS (pv P (fev f) (Ag R i))&&Rr P R j b q l m (AZ f (A5 R i) ((pv P (fev f) (Ag R i)).getD undef))))
theorem PM {f:Fr} {d:Option Nat} {v:Value} {q:Nat} (h:(match d with | some d=>!Nat.beq q d | none=>true)=true):(AZ f d v) q=f q:=by
 cases d with
 | none=>rfl
 | some d=>simp only [Bool.not_eq_true'] at h;simp only [AZ,upd,h,cF]
theorem N1 {j q:Nat} {b:Bool} (hj:ET R j=some q):∀ (m:Nat) {l:List Nat} {f:Fr},f q=.bool b->RWP P ro n R Q (l.drop m) (pst P R l m f) w->Rr P R j b q l m f=true->RWP P ro n R Q l f w
 | 0,l,f,_,k,_=>by cases l <;> exact k
 | m + 1,[],f,_,k,h=>by simp [Rr] at h
 | m + 1,i::l,f,hf,k,h=>by
  simp only [Rr,Bool.and_eq_true] at h;have hf':=(PM (f:=f) (v:=(pv P (fev f) (Ag R i)).getD undef) h.2.1).trans hf;rcases LW h.1 with e | e
  ·exact UZ e rfl (Nv (Hx h.2.2.1)) (N1 hj m hf' k h.2.2.2)
  ·exact UZ e (GN hj hf rfl) (Nv (Hx h.2.2.1)) (N1 hj m hf' k h.2.2.2)
def gj (R:Array Oper):List Nat->Nat
 | i::_=>(match Us R i with | some (j,_)=>j | none=>0)
 | []=>0
def gq (R:Array Oper) (l:List Nat):Nat:=match ET R (gj R l) with | some q=>q | none=>0
theorem Vgs {b c:Bool} (hc:c=b) (m:Nat) {l:List Nat} {f:Fr} (k:RWP P ro n R Q (l.drop m) (pst P R l m f) w) (h:Rr P R (gj R l) b (gq R l) l m f=true:=by kernel_rfl)
  (hj:ET R (gj R l)=some (gq R l):=by kernel_rfl) (hf:f (gq R l)=.bool c:=by kernel_rfl):RWP P ro n R Q l f w:=
 N1 hj m (by rw [hf,hc]) k h
def sst (R:Array Oper):List Nat->Nat->Fr->Fr
 | _,0,f=>f
 | [],_ + 1,f=>f
 | i::l,m + 1,f=>sst R l m (AZ f (A5 R i) undef)
def sok (R:Array Oper) (j:Nat) (b:Bool) (q:Nat):List Nat->Nat->Bool
 | _,0=>true
 | [],_ + 1=>false
 | i::l,m + 1=>(match R[i]? with | some o=>(match o.guard with | some (j',b')=>Nat.beq j j'&&(b==b') | none=>false) | none=>false)&&((match A5 R i with | some d=>!Nat.beq q d | none=>true)&&sok R j b q l m)
theorem TD {i j:Nat} {b:Bool} (h:(match R[i]? with | some o=>(match o.guard with | some (j',b')=>Nat.beq j j'&&(b==b') | none=>false) | none=>false)=true):opq R i=some (A5 R i,Ag R i,E9 R i,some (j,b)):=by
 unfold opq A5 Ag E9;cases hr:R[i]? with
 | none=>simp [hr] at h
 | some o=>
  simp only [hr] at h;cases hg:o.guard with
  | none=>simp [hg] at h
  | some p=>
   obtain ⟨j',b'⟩:=p;simp only [hg,Bool.and_eq_true,beq_iff_eq] at h;have e1:=Nat.eq_of_beq_eq_true h.1;have e2:=h.2;subst e1;subst e2;simp [hg]
theorem O6 {j q:Nat} {b:Bool} (hg:∀ f':Fr,f' q=f' q->True) (hgd:∀ f':Fr,∀ v,f' q=v->v=undef\/v=.bool (!b)->gd R f' (some (j,b))=false):∀ (m:Nat) {l:List Nat} {f:Fr},(f q=undef\/f q=.bool (!b))->RWP P ro n R Q (l.drop m) (sst R l m f) w->sok R j b q l m=true->RWP P ro n R Q l f w
 | 0,l,f,_,k,_=>by cases l <;> exact k
 | m + 1,[],f,_,k,h=>by simp [sok] at h
 | m + 1,i::l,f,hf,k,h=>by
  simp only [sok,Bool.and_eq_true] at h;have hf':(AZ f (A5 R i) undef) q=f q:=PM h.2.1;exact RWP.skip (TD h.1) (hgd f _ rfl hf) (O6 hg hgd m (by rw [hf'];exact hf) k h.2.2)
def gb (R:Array Oper):List Nat->Bool
 | i::_=>(match Us R i with | some (_,b)=>b | none=>false)
 | []=>false
theorem Ss {b c:Bool} (hc:c=b) (m:Nat) {l:List Nat} {f:Fr} (k:RWP P ro n R Q (l.drop m) (sst R l m f) w) (h:sok R (gj R l) (!b) (gq R l) l m=true:=by kernel_rfl)
  (hj:ET R (gj R l)=some (gq R l):=by kernel_rfl) (hf:f (gq R l)=.bool c:=by kernel_rfl):RWP P ro n R Q l f w:=
 O6 (fun _ _=>trivial) (fun f' v e hv=>by
  rcases hv with hv | hv
  ·exact TS hj (e.trans hv)
  ·exact TT hj (e.trans hv) rfl) m (.inr (by rw [hf,hc];simp)) k h
theorem Su' (m:Nat) {l:List Nat} {f:Fr} (k:RWP P ro n R Q (l.drop m) (sst R l m f) w) (h:sok R (gj R l) (gb R l) (gq R l) l m=true:=by kernel_rfl)
  (hj:ET R (gj R l)=some (gq R l):=by kernel_rfl) (hf:f (gq R l)=undef:=by kernel_rfl):RWP P ro n R Q l f w:=
 O6 (fun _ _=>trivial) (fun f' v e hv=>by
  rcases hv with hv | hv
  ·exact TS hj (e.trans hv)
  ·exact TT hj (e.trans hv) rfl) m (.inl hf) k h
end
def ups (g:Fr) (d:List Deferred):List (Nat×Value)->Fr
 | []=>⟨g.v,d⟩
 | (i,v)::l=>upd (ups g d l) i v
def FI (f:Fr) (d:List Deferred) (l:List (Nat×Value)):Prop:=∃ g,f=ups g d l
theorem Q5 {f:Fr} {i:Nat} {v:Value} (h:f i=v):upd f i v=f:=by
 subst h;cases f with
 | mk fv fd=>
  simp only [upd,Fr.mk.injEq,and_true];funext j;cases hb:Nat.beq j i with
  | false=>rfl
  | true=>rw [Nat.eq_of_beq_eq_true hb];rfl
def Eqs (f:Fr):List (Nat×Value)->Prop
 | []=>True
 | (i,v)::l=>f i=v/\Eqs f l
theorem LA {f:Fr} {d:List Deferred} (hd:f.d=d):∀ {l:List (Nat×Value)},Eqs f l->f=ups f d l
 | [],_=>by subst hd;rfl
 | (i,v)::l,h=>by
  show f=upd (ups f d l) i v;rw [<-LA hd h.2];exact (Q5 h.1).symm
theorem RV {f:Fr}:∀ {l:List (Nat×Value)},l.map (fun p=>f p.1)=l.map (·.2)->Eqs f l
 | [],_=>trivial
 | (i,v)::l,h=>by
  simp only [List.map_cons,List.cons.injEq] at h;exact ⟨h.1,RV h.2⟩
theorem kq {α:Type} {a:α} (b:α) {c:α} (h:b=c) (k:a=b:=by kernel_rfl):a=c:=k.trans h
theorem fI {f:Fr} {d:List Deferred} {l:List (Nat×Value)} (h:l.map (fun p=>f p.1)=l.map (·.2):=by kernel_rfl) (hd:f.d=d:=by kernel_rfl):FI f d l:=⟨f,LA hd (RV h)⟩
theorem fJ {f:Fr} {d:List Deferred} {l:List (Nat×Value)} (h:Eqs f l) (hd:f.d=d:=by kernel_rfl):FI f d l:=⟨f,LA hd h⟩
def pkC:Op->Operand | .pick c _ _=>c | _=>.tmp 0
def pkA:Op->Operand | .pick _ a _=>a | _=>.tmp 0
def pkB:Op->Operand | .pick _ _ b=>b | _=>.tmp 0
def QM:Op->Bool | .pick _ _ _=>true | _=>false
theorem H7 {op:Op} (h:QM op=true):op=.pick (pkC op) (pkA op) (pkB op):=by cases op <;> simp_all [QM,pkC,pkA,pkB]
def ldX:Op->Operand | .load _ x=>x | _=>.tmp 0
def ldT:Op->TypeId | .load t _=>t | _=>0
def Ox:Op->Bool | .load _ _=>true | _=>false
theorem Fg {op:Op} (h:Ox op=true):op=.load (ldT op) (ldX op):=by cases op <;> simp_all [Ox,ldX,ldT]
def pO:Value->Nat | .pointer (some ⟨_,o,_⟩)=>o | _=>0
def sB:Value->Nat | .slice (some ⟨b,_,_⟩) _ _=>b | _=>0
def sO:Value->Nat | .slice (some ⟨_,o,_⟩) _ _=>o | _=>0
def sC:Value->Nat | .slice _ _ c=>c | _=>0
def iK:Value->IntKind | .int k _=>k | _=>.i64
def ixX:Op->Operand | .indexAddr _ x _=>x | _=>.tmp 0
def ixY:Op->Operand | .indexAddr _ _ y=>y | _=>.tmp 0
def ixT:Op->TypeId | .indexAddr t _ _=>t | _=>0
def Oy:Op->Bool | .indexAddr _ _ _=>true | _=>false
theorem Fh {op:Op} (h:Oy op=true):op=.indexAddr (ixT op) (ixX op) (ixY op):=by cases op <;> simp_all [Oy,ixT,ixX,ixY]
def stX:Op->Operand | .store _ x _=>x | _=>.tmp 0
def stY:Op->Operand | .store _ _ y=>y | _=>.tmp 0
def stT:Op->TypeId | .store t _ _=>t | _=>0
def Hb:Op->Bool | .store _ _ _=>true | _=>false
theorem Dq {op:Op} (h:Hb op=true):op=.store (stT op) (stX op) (stY op):=by cases op <;> simp_all [Hb,stT,stX,stY]
def S9 (t:TypeId):Op->Bool | .alloc t'=>Nat.beq t t' | _=>false
theorem M7 {t:TypeId} {op:Op} (h:S9 t op=true):op=.alloc t:=by
 cases op <;> simp only [S9,Bool.false_eq_true] at h;rw [Nat.eq_of_beq_eq_true h]
def bxX:Op->Operand | .box _ x=>x | _=>.tmp 0
def S8 (t:TypeId):Op->Bool | .box t' _=>Nat.beq t t' | _=>false
theorem M6 {t:TypeId} {op:Op} (h:S8 t op=true):op=.box t (bxX op):=by
 cases op <;> simp only [S8,Bool.false_eq_true] at h;rw [Nat.eq_of_beq_eq_true h];rfl
def bsV (P:Program) (f:Fr):Op->Option (TypeId×List Value) | .buildSlice t len parts=>JT P t len (parts.toList.map fun p=>(p.1,fev f p.2)) | _=>none
def bsL:Op->Nat | .buildSlice _ len _=>len | _=>0
def clV (f:Fr):Op->Option (FuncId×List Value)
 | .call c=>(match c.callee with
  | .value f0=>(match fev f f0 with
   | .func (.func g) fi ca=>some (g,fi.toList++c.args.toList.map (fev f)++ca.toList)
   | _=>none)
  | _=>none)
 | _=>none
theorem JJ {P:Program} {w:World} {f:Fr} {op:Op} {ty:TypeId} {g:FuncId} {args:List Value} (h:clV f op=some (g,args)) (hok:Af P g):(Ak (fev f) op ty).run P w=.ok (.enter g args.toArray) w:=by
 unfold clV at h;split at h
 ·rename_i c;obtain ⟨callee,aos,ats⟩:=c;simp only at h;split at h
  ·split at h
   ·rename_i hf;simp only [Option.some.injEq,Prod.mk.injEq] at h;obtain ⟨rfl,rfl⟩:=h;exact DF hf hok rfl
   ·cases h
  ·cases h
 ·cases h
section
variable {P : Program} {ro : Option Nat} {n : Nat} {R : Array Oper} {Q : Exit -> Fr -> World -> Prop} {i : Nat} {rest : List Nat} {f : Fr} {w w' w0 : World} {F0 F : Mem} {L : List (Option Nat × Obj)}
theorem RWP.valU {v:Value} (ho:ung R i=true) (hy:(Ak (fev f) (Ag R i) (E9 R i)).run P w=.ok (.value v) w') (k:RWP P ro n R Q rest (AZ f (A5 R i) v) w'):RWP P ro n R Q (i::rest) f w:=UZ (A9 ho) rfl hy k
theorem Pk1 {t:Bool} (ht:t=true) (k:RWP P ro n R Q rest (AZ f (A5 R i) (fev f (pkA (Ag R i)))) w) (hc:fev f (pkC (Ag R i))=.bool t:=by kernel_rfl) (ho:(ung R i&&QM (Ag R i))=true:=by kernel_rfl):RWP P ro n R Q (i::rest) f w:=by
 simp only [Bool.and_eq_true] at ho;refine RWP.valU ho.1 ?_ k;have:=H7 ho.2;rw [this] at hc ⊢;exact JW hc ht rfl
theorem Pk0 {t:Bool} (ht:t=false) (k:RWP P ro n R Q rest (AZ f (A5 R i) (fev f (pkB (Ag R i)))) w) (hc:fev f (pkC (Ag R i))=.bool t:=by kernel_rfl) (ho:(ung R i&&QM (Ag R i))=true:=by kernel_rfl):RWP P ro n R Q (i::rest) f w:=by
 simp only [Bool.and_eq_true] at ho;refine RWP.valU ho.1 ?_ k;have:=H7 ho.2;rw [this] at hc ⊢;exact JX hc ht rfl
def ldV (P:Program) (t:TypeId) (C:Array Value) (o:Nat):Value:=match D4 P t with | some (g,s)=>mkV g (Al C o s) | none=>undef
def ldK (P:Program) (t:TypeId) (C:Array Value) (o:Nat):Bool:=match D4 P t with | some (g,s)=>Nat.beq (Al C o s).length s&&(g||s==1) | none=>false
theorem Pg {ρ:Operand->Value} {t ty:TypeId} {x:Operand} {b o:Nat} {C:Array Value} {E:TypeId} {fz:Nat×Nat} (hx:ρ x=.pointer (some ⟨b,o,none⟩)) (hp:w.heap[b]? =some (.cells C E fz)) (hk:ldK P t C o=true):
  (Ak ρ (.load t x) ty).run P w=.ok (.value (ldV P t C o)) w:=by
 unfold ldK at hk;unfold ldV;split at hk
 ·rename_i g s ht;simp only [Bool.and_eq_true] at hk;exact BG hx ht hp (Nat.eq_of_beq_eq_true hk.1) hk.2 rfl
 ·cases hk
theorem Ld {b:Nat} {C:Array Value} {E:TypeId} {fz:Nat×Nat} (hp:w.heap[b]? =some (.cells C E fz)) (k:RWP P ro n R Q rest (AZ f (A5 R i) (ldV P (ldT (Ag R i)) C (pO (fev f (ldX (Ag R i)))))) w)
  (hx:fev f (ldX (Ag R i))=.pointer (some ⟨b,pO (fev f (ldX (Ag R i))),none⟩):=by kernel_rfl) (ho:(ung R i&&(Ox (Ag R i)&&ldK P (ldT (Ag R i)) C (pO (fev f (ldX (Ag R i))))))=true:=by kernel_rfl):RWP P ro n R Q (i::rest) f w:=by
 simp only [Bool.and_eq_true] at ho;refine RWP.valU ho.1 ?_ k;have:=Fg ho.2.1;rw [this];exact Pg hx hp ho.2.2
def lxV (P:Program) (t:TypeId) (cs:List Value) (j:Nat):Value:=match D4 P t with | some (g,s)=>mkV g ((cs.drop j).take s) | none=>undef
def lxK (P:Program) (t:TypeId) (cs:List Value) (j kk:Nat):Bool:=match D4 P t with | some (g,s)=>decide (j + s<=kk)&&(Nat.beq ((cs.drop j).take s).length s&&(g||s==1)) | none=>false
theorem Pd {ρ:Operand->Value} {t ty:TypeId} {x:Operand} {j b o kk:Nat} {C:Array Value} {E:TypeId} {fz:Nat×Nat} {cs:List Value} (hx:ρ x=.pointer (some ⟨b,o + j,none⟩)) (hp:w.heap[b]? =some (.cells C E fz)) (hc:Al C o kk=cs) (hk:lxK P t cs j kk=true):
  (Ak ρ (.load t x) ty).run P w=.ok (.value (lxV P t cs j)) w:=by
 unfold lxK at hk;unfold lxV;split at hk
 ·rename_i g s ht;simp only [Bool.and_eq_true] at hk;exact JY hx ht hp hc hk.1 ⟨Nat.eq_of_beq_eq_true hk.2.1,trivial⟩ hk.2.2 rfl
 ·cases hk
theorem Lx (j:Nat) {b o kk:Nat} {C:Array Value} {E:TypeId} {fz:Nat×Nat} {cs:List Value} (hp:w.heap[b]? =some (.cells C E fz)) (hc:Al C o kk=cs) (k:RWP P ro n R Q rest (AZ f (A5 R i) (lxV P (ldT (Ag R i)) cs j)) w)
  (hx:fev f (ldX (Ag R i))=.pointer (some ⟨b,o + j,none⟩):=by kernel_rfl) (ho:(ung R i&&(Ox (Ag R i)&&lxK P (ldT (Ag R i)) cs j kk))=true:=by kernel_rfl):RWP P ro n R Q (i::rest) f w:=by
 simp only [Bool.and_eq_true] at ho;refine RWP.valU ho.1 ?_ k;have:=Fg ho.2.1;rw [this];exact Pd hx hp hc ho.2.2
def elS (P:Program) (t:TypeId):Nat:=match A1 P t with | some (_,s,_)=>s | none=>0
theorem Ix {m:Nat} {y:Int} (hi:0<=y/\y < (m:Int)) (k:RWP P ro n R Q rest (AZ f (A5 R i) (.pointer (some ⟨sB (fev f (ixX (Ag R i))),sO (fev f (ixX (Ag R i))) + y.toNat * elS P (ixT (Ag R i)),none⟩))) w)
  (hx:fev f (ixX (Ag R i))=.slice (some ⟨sB (fev f (ixX (Ag R i))),sO (fev f (ixX (Ag R i))),none⟩) m (sC (fev f (ixX (Ag R i)))):=by kernel_rfl) (hy:fev f (ixY (Ag R i))=.int (iK (fev f (ixY (Ag R i)))) y:=by kernel_rfl)
  (ho:(ung R i&&(Oy (Ag R i)&&slQ P (ixT (Ag R i))))=true:=by kernel_rfl):RWP P ro n R Q (i::rest) f w:=by
 simp only [Bool.and_eq_true] at ho;obtain ⟨h1,h2,h3⟩:=ho;refine RWP.valU h1 ?_ k;unfold slQ at h3;split at h3
 ·rename_i q hq;obtain ⟨E,s,by_⟩:=q;have es:elS P (ixT (Ag R i))=s:=by simp [elS,hq]
  rw [es];have e:=Fh h2;have:=Cj (P:=P) (w:=w) (ty:=E9 R i) hx hy hq hi;rw [<-e] at this;exact this
 ·cases h3
theorem Ix0 {m:Nat} {y:Int} (hi:0<=y/\y < (m:Int)) (k:RWP P ro n R Q rest (AZ f (A5 R i) (.pointer (some ⟨sB (fev f (ixX (Ag R i))),y.toNat * elS P (ixT (Ag R i)),none⟩))) w)
  (hx:fev f (ixX (Ag R i))=.slice (some ⟨sB (fev f (ixX (Ag R i))),0,none⟩) m (sC (fev f (ixX (Ag R i)))):=by kernel_rfl) (hy:fev f (ixY (Ag R i))=.int (iK (fev f (ixY (Ag R i)))) y:=by kernel_rfl)
  (ho:(ung R i&&(Oy (Ag R i)&&slQ P (ixT (Ag R i))))=true:=by kernel_rfl):RWP P ro n R Q (i::rest) f w:=by
 simp only [Bool.and_eq_true] at ho;obtain ⟨h1,h2,h3⟩:=ho;refine RWP.valU h1 ?_ k;unfold slQ at h3;split at h3
 ·rename_i q hq;obtain ⟨E,s,by_⟩:=q;have es:elS P (ixT (Ag R i))=s:=by simp [elS,hq]
  rw [es];have e:=Fh h2;have:=DQ (P:=P) (w:=w) (ty:=E9 R i) hx hy hq hi;rw [<-e] at this;exact this
 ·cases h3
theorem Rm {ρ:Operand->Value} {t ty:TypeId} {x y:Operand} {m:Nat} {q:Int} (hi:0<=q/\q < (m:Int)) (hx:ρ x=.slice (some ⟨sB (ρ x),sO (ρ x),none⟩) m (sC (ρ x))) (hy:ρ y=.int (iK (ρ y)) q) (h3:slQ P t=true):
  (Ak ρ (.indexAddr t x y) ty).run P w=.ok (.value (.pointer (some ⟨sB (ρ x),sO (ρ x) + q.toNat * elS P t,none⟩))) w:=by
 unfold slQ at h3;split at h3
 ·rename_i a hq;obtain ⟨E,s,by_⟩:=a;have es:elS P t=s:=by simp [elS,hq]
  rw [es];exact Cj hx hy hq hi
 ·cases h3
theorem PR {t ty:TypeId} {x y:Operand} {m:Nat} {q:Int} (hi:0<=q/\q < (m:Int)) (hx:fev f x=.slice (some ⟨sB (fev f x),0,none⟩) m (sC (fev f x))) (hy:fev f y=.int (iK (fev f y)) q) (h3:slQ P t=true):
  (Ak (fev f) (.indexAddr t x y) ty).run P w=.ok (.value (.pointer (some ⟨sB (fev f x),q.toNat * elS P t,none⟩))) w:=by
 unfold slQ at h3;split at h3
 ·rename_i a hq;obtain ⟨E,s,by_⟩:=a;have es:elS P t=s:=by simp [elS,hq]
  rw [es];exact DQ hx hy hq hi
 ·cases h3
theorem RWP.valG {gb' gc:Bool} (hg:gc=gb') {v:Value} (hy:(Ak (fev f) (Ag R i) (E9 R i)).run P w=.ok (.value v) w') (k:RWP P ro n R Q rest (AZ f (A5 R i) v) w')
  (h0:LB R (gj R [i]) gb' i=true) (hj:ET R (gj R [i])=some (gq R [i])) (hf:f (gq R [i])=.bool gc):RWP P ro n R Q (i::rest) f w:=by
 rcases LW h0 with e | e
 ·exact UZ e rfl hy k
 ·exact UZ e (GN hj hf hg) hy k
theorem Pg1 {gb' gc:Bool} (hg:gc=gb') {t:Bool} (ht:t=true) (k:RWP P ro n R Q rest (AZ f (A5 R i) (fev f (pkA (Ag R i)))) w) (hc:fev f (pkC (Ag R i))=.bool t:=by kernel_rfl) (ho:QM (Ag R i)=true:=by kernel_rfl)
  (h0:LB R (gj R [i]) gb' i=true:=by kernel_rfl) (hj:ET R (gj R [i])=some (gq R [i]):=by kernel_rfl) (hf:f (gq R [i])=.bool gc:=by kernel_rfl):RWP P ro n R Q (i::rest) f w:=by
 refine RWP.valG hg ?_ k h0 hj hf;have:=H7 ho;rw [this] at hc ⊢;exact JW hc ht rfl
theorem Pg0 {gb' gc:Bool} (hg:gc=gb') {t:Bool} (ht:t=false) (k:RWP P ro n R Q rest (AZ f (A5 R i) (fev f (pkB (Ag R i)))) w) (hc:fev f (pkC (Ag R i))=.bool t:=by kernel_rfl) (ho:QM (Ag R i)=true:=by kernel_rfl)
  (h0:LB R (gj R [i]) gb' i=true:=by kernel_rfl) (hj:ET R (gj R [i])=some (gq R [i]):=by kernel_rfl) (hf:f (gq R [i])=.bool gc:=by kernel_rfl):RWP P ro n R Q (i::rest) f w:=by
 refine RWP.valG hg ?_ k h0 hj hf;have:=H7 ho;rw [this] at hc ⊢;exact JX hc ht rfl
theorem Lg {gb' gc:Bool} (hg:gc=gb') {b:Nat} {C:Array Value} {E:TypeId} {fz:Nat×Nat} (hp:w.heap[b]? =some (.cells C E fz)) (k:RWP P ro n R Q rest (AZ f (A5 R i) (ldV P (ldT (Ag R i)) C (pO (fev f (ldX (Ag R i)))))) w)
  (hx:fev f (ldX (Ag R i))=.pointer (some ⟨b,pO (fev f (ldX (Ag R i))),none⟩):=by kernel_rfl) (ho:(Ox (Ag R i)&&ldK P (ldT (Ag R i)) C (pO (fev f (ldX (Ag R i)))))=true:=by kernel_rfl)
  (h0:LB R (gj R [i]) gb' i=true:=by kernel_rfl) (hj:ET R (gj R [i])=some (gq R [i]):=by kernel_rfl) (hf:f (gq R [i])=.bool gc:=by kernel_rfl):RWP P ro n R Q (i::rest) f w:=by
 simp only [Bool.and_eq_true] at ho;refine RWP.valG hg ?_ k h0 hj hf;have:=Fg ho.1;rw [this];exact Pg hx hp ho.2
theorem Lxg {gb' gc:Bool} (hg:gc=gb') (j:Nat) {b o kk:Nat} {C:Array Value} {E:TypeId} {fz:Nat×Nat} {cs:List Value} (hp:w.heap[b]? =some (.cells C E fz)) (hcs:Al C o kk=cs) (k:RWP P ro n R Q rest (AZ f (A5 R i) (lxV P (ldT (Ag R i)) cs j)) w)
  (hx:fev f (ldX (Ag R i))=.pointer (some ⟨b,o + j,none⟩):=by kernel_rfl) (ho:(Ox (Ag R i)&&lxK P (ldT (Ag R i)) cs j kk)=true:=by kernel_rfl)
  (h0:LB R (gj R [i]) gb' i=true:=by kernel_rfl) (hj:ET R (gj R [i])=some (gq R [i]):=by kernel_rfl) (hf:f (gq R [i])=.bool gc:=by kernel_rfl):RWP P ro n R Q (i::rest) f w:=by
 simp only [Bool.and_eq_true] at ho;refine RWP.valG hg ?_ k h0 hj hf;have:=Fg ho.1;rw [this];exact Pd hx hp hcs ho.2
theorem Ixg {gb' gc:Bool} (hg:gc=gb') {m:Nat} {y:Int} (hi:0<=y/\y < (m:Int)) (k:RWP P ro n R Q rest (AZ f (A5 R i) (.pointer (some ⟨sB (fev f (ixX (Ag R i))),sO (fev f (ixX (Ag R i))) + y.toNat * elS P (ixT (Ag R i)),none⟩))) w)
  (hx:fev f (ixX (Ag R i))=.slice (some ⟨sB (fev f (ixX (Ag R i))),sO (fev f (ixX (Ag R i))),none⟩) m (sC (fev f (ixX (Ag R i)))):=by kernel_rfl) (hy:fev f (ixY (Ag R i))=.int (iK (fev f (ixY (Ag R i)))) y:=by kernel_rfl)
  (ho:(Oy (Ag R i)&&slQ P (ixT (Ag R i)))=true:=by kernel_rfl)
  (h0:LB R (gj R [i]) gb' i=true:=by kernel_rfl) (hj:ET R (gj R [i])=some (gq R [i]):=by kernel_rfl) (hf:f (gq R [i])=.bool gc:=by kernel_rfl):RWP P ro n R Q (i::rest) f w:=by
 simp only [Bool.and_eq_true] at ho;refine RWP.valG hg ?_ k h0 hj hf;have e:=Fh ho.1;have:=Rm (P:=P) (w:=w) (ty:=E9 R i) hi hx hy ho.2;rw [<-e] at this;exact this
theorem UU {gb' gc:Bool} (hg:gc=gb') {m:Nat} {y:Int} (hi:0<=y/\y < (m:Int)) (k:RWP P ro n R Q rest (AZ f (A5 R i) (.pointer (some ⟨sB (fev f (ixX (Ag R i))),y.toNat * elS P (ixT (Ag R i)),none⟩))) w)
  (hx:fev f (ixX (Ag R i))=.slice (some ⟨sB (fev f (ixX (Ag R i))),0,none⟩) m (sC (fev f (ixX (Ag R i)))):=by kernel_rfl) (hy:fev f (ixY (Ag R i))=.int (iK (fev f (ixY (Ag R i)))) y:=by kernel_rfl)
  (ho:(Oy (Ag R i)&&slQ P (ixT (Ag R i)))=true:=by kernel_rfl)
  (h0:LB R (gj R [i]) gb' i=true:=by kernel_rfl) (hj:ET R (gj R [i])=some (gq R [i]):=by kernel_rfl) (hf:f (gq R [i])=.bool gc:=by kernel_rfl):RWP P ro n R Q (i::rest) f w:=by
 simp only [Bool.and_eq_true] at ho;refine RWP.valG hg ?_ k h0 hj hf;have e:=Fh ho.1;have:=PR (P:=P) (w:=w) (ty:=E9 R i) hi hx hy ho.2;rw [<-e] at this;exact this
theorem Al' (t:TypeId) (C:Array Value) (hs:HS w0 F0 w F L) (k:∀ b w',HS w0 F0 w' F ((some b,.cells C t (0,0))::L)->RWP P ro n R Q rest (AZ f (A5 R i) (.pointer (some ⟨b,0,none⟩))) w')
  (hC:(Bn P t).map Value.cells=some C:=by kernel_rfl) (ho:(ung R i&&S9 t (Ag R i))=true:=by kernel_rfl):RWP P ro n R Q (i::rest) f w:=by
 simp only [Bool.and_eq_true] at ho;cases hz:Bn P t with
 | none=>rw [hz] at hC;cases hC
 | some z=>
  rw [hz] at hC;simp only [Option.map_some,Option.some.injEq] at hC;have e:=M7 ho.2;have:=A9 ho.1;rw [e] at this;exact RWP.alloc this rfl hz hC hs k
theorem Bx' (t:TypeId) (C:Array Value) (hs:HS w0 F0 w F L) (k:∀ b w',HS w0 F0 w' F ((some b,.cells C t (0,0))::L)->RWP P ro n R Q rest (AZ f (A5 R i) (.pointer (some ⟨b,0,none⟩))) w')
  (hC:(fev f (bxX (Ag R i))).cells=C:=by kernel_rfl) (ho:(ung R i&&S8 t (Ag R i))=true:=by kernel_rfl):RWP P ro n R Q (i::rest) f w:=by
 simp only [Bool.and_eq_true] at ho;have e:=M6 ho.2;have:=A9 ho.1;rw [e] at this;exact RWP.box this rfl rfl hC hs k
theorem Bs (E:TypeId) (cs:List Value) (hs:HS w0 F0 w F L) (k:∀ b w',HS w0 F0 w' F ((some b,.cells cs.toArray E (0,0))::L)->RWP P ro n R Q rest (AZ f (A5 R i) (.slice (some ⟨b,0,none⟩) (bsL (Ag R i)) (bsL (Ag R i)))) w')
  (hb:bsV P f (Ag R i)=some (E,cs):=by kernel_rfl) (ho:ung R i=true:=by kernel_rfl):RWP P ro n R Q (i::rest) f w:=by
 have:=A9 ho;cases e:Ag R i with
 | buildSlice t len parts=>
  rw [e] at hb this k;exact RWP.buildSlice this rfl rfl hb hs k
 | _=>rw [e] at hb;simp [bsV] at hb
def CX (P:Program) (t:TypeId) (v:Value) (o:Nat) (C:Array Value):Bool:=match D4 P t with | some (_,s)=>Nat.beq v.cells.size s&&(decide (o + s<=C.size)&&v.cells.toList.all (·.oneCell')) | none=>false
theorem GI {ρ:Operand->Value} {t ty:TypeId} {x y:Operand} {b o:Nat} {C C':Array Value} {E:TypeId} (hx:ρ x=.pointer (some ⟨b,o,none⟩)) (hp:w.heap[b]? =some (.cells C E (0,0))) (hk:CX P t (ρ y) o C=true) (hC:BD C o (ρ y).cells.toList=C'):
  (Ak ρ (.store t x y) ty).run P w=.ok .skip (Ca w b (.cells C' E (0,0))):=by
 unfold CX at hk;split at hk
 ·rename_i g s ht;simp only [Bool.and_eq_true] at hk;exact LJ hx rfl ht hp (Nat.eq_of_beq_eq_true hk.1) hk.2.1 hk.2.2 hC
 ·cases hk
theorem Ja {b:Nat} {C C':Array Value} {E:TypeId} (hp:w.heap[b]? =some (.cells C E (0,0))) (k:RWP P ro n R Q rest f (Ca w b (.cells C' E (0,0))))
  (hx:fev f (stX (Ag R i))=.pointer (some ⟨b,pO (fev f (stX (Ag R i))),none⟩)) (hC:BD C (pO (fev f (stX (Ag R i)))) (fev f (stY (Ag R i))).cells.toList=C')
  (ho:(ung R i&&(Hb (Ag R i)&&(CX P (stT (Ag R i)) (fev f (stY (Ag R i))) (pO (fev f (stX (Ag R i)))) C&&(match A5 R i with | none=>true | some _=>false))))=true):RWP P ro n R Q (i::rest) f w:=by
 simp only [Bool.and_eq_true] at ho;obtain ⟨h1,h2,h3,h4⟩:=ho;have e:=Dq h2;have:=A9 h1;cases hd:A5 R i with
 | some d=>rw [hd] at h4;cases h4
 | none=>
  rw [hd] at this;refine RWP.unit this rfl ?_ k;rw [e];exact GI hx hp h3 hC
theorem Cl' {fid:FuncId} {args:List Value} {post:Mem->Value->Prop} (hok:Af P fid) (hs:HS w0 F0 w F L) (hc:Calls P fid args.toArray w (AF w F post))
  (k:∀ v F1 w1,HS w0 F0 w1 F1 L->U2 F F1->post F1 v->RWP P ro n R Q rest (AZ f (A5 R i) v) w1) (ha:clV f (Ag R i)=some (fid,args):=by kernel_rfl) (ho:ung R i=true:=by kernel_rfl):RWP P ro n R Q (i::rest) f w:=by
 refine U0 (A9 ho) rfl (JJ ha hok) hc ?_;rintro e w' ⟨r,F',rfl,h1,h2⟩;exact k r F' w' (hs.call h1) h1.le h2
theorem Cg {fid:FuncId} {args:List Value} {post:Mem->Value->Prop} {b c:Bool} (hg:c=b) (hok:Af P fid) (hs:HS w0 F0 w F L) (hc:Calls P fid args.toArray w (AF w F post))
  (k:∀ v F1 w1,HS w0 F0 w1 F1 L->U2 F F1->post F1 v->RWP P ro n R Q rest (AZ f (A5 R i) v) w1) (ha:clV f (Ag R i)=some (fid,args):=by kernel_rfl)
  (ho:LB R (gj R [i]) b i=true:=by kernel_rfl) (hj:ET R (gj R [i])=some (gq R [i]):=by kernel_rfl) (hf:f (gq R [i])=.bool c:=by kernel_rfl):RWP P ro n R Q (i::rest) f w:=by
 have hE:∀ e w',AF w F post e w'->match e with
   | .returned v=>RWP P ro n R Q rest (AZ f (A5 R i) v) w'
   | .panicked chain=>Q (.panic chain) f w'
   | .outgrown=>False:=by
  rintro e w' ⟨r,F',rfl,h1,h2⟩;exact k r F' w' (hs.call h1) h1.le h2
 rcases LW ho with e | e
 ·exact U0 e rfl (JJ ha hok) hc hE
 ·exact U0 e (GN hj hf hg) (JJ ha hok) hc hE
theorem CB {fid:FuncId} {args:List Value} {wb:World} {Fb:Mem} {post:Mem->Value->Own->Prop} (hok:Af P fid) (hc:Calls P fid args.toArray w (Es wb Fb F post))
  (k:∀ v F1 w1 L',HS wb Fb w1 F1 L'->U2 F F1->post F1 v L'->RWP P ro n R Q rest (AZ f (A5 R i) v) w1) (ha:clV f (Ag R i)=some (fid,args):=by kernel_rfl) (ho:ung R i=true:=by kernel_rfl):RWP P ro n R Q (i::rest) f w:=by
 refine U0 (A9 ho) rfl (JJ ha hok) hc ?_;rintro e w' ⟨F',r,L',rfl,h1,h2,h3⟩;exact k r F' w' L' h1 h2 h3
def clQ (f:Fr):Op->Option (FuncId×List Value)
 | .call c=>(match c.callee with
  | .value f0=>(match fev f f0 with
   | .func (.func g) fi ca=>some (g,fi.toList++(c.args.toList.map (fev f)++ca.toList))
   | _=>none)
  | _=>none)
 | _=>none
theorem T5 (f:Fr) (op:Op):clQ f op=clV f op:=by
 unfold clQ clV;split <;> try rfl
 split <;> try rfl
 split <;> try rfl
 simp [List.append_assoc]
theorem Cq {fid:FuncId} {args:List Value} {post:Mem->Value->Prop} (hok:Af P fid) (hs:HS w0 F0 w F L) (hc:Calls P fid args.toArray w (AF w F post))
  (k:∀ v F1 w1,HS w0 F0 w1 F1 L->U2 F F1->post F1 v->RWP P ro n R Q rest (AZ f (A5 R i) v) w1) (ha:clQ f (Ag R i)=some (fid,args):=by kernel_rfl) (ho:ung R i=true:=by kernel_rfl):RWP P ro n R Q (i::rest) f w:=Cl' hok hs hc k (T5 f _ ▸ ha) ho
theorem Go (m:Nat) {fid:FuncId} {fn:Func} {args:List Value} {S:Ending->World->Prop} (hf:P.funcs[fid]? =some fn) (h:CWP P none m (Mu fn) (Ue P fn.results S) (f0 args) w)
  (hk:(Nat.beq fn.ntmps m&&(decide (args.length<=m)&&isS fn.body))=true:=by kernel_rfl):Calls P fid args.toArray w S:=by
 simp only [Bool.and_eq_true] at hk;have h1:=Hx (d:=.skip) hk.2.2;exact Mo hf h1 (Nat.eq_of_beq_eq_true hk.1) hk.2.1 h
theorem Sd {α:Type} {t:Bool} {x y r:α} (h:(bif t then x else y)=r) {PQ:List PanicEntry->List Deferred->World->Prop} {Post:Fr->World->Prop} {z:Nat} {Sw:Bool->World->Prop} {fuel:Nat} {l:List Bool}
  (ht:t=true->x=r->DWP P n R PQ Post z Sw fuel l f w) (hf:t=false->y=r->DWP P n R PQ Post z Sw fuel l f w):DWP P n R PQ Post z Sw fuel l f w:=
 DWP.split t (fun e=>ht e (NN h e)) (fun e=>hf e (NO h e))
variable {c : Code} {Q' : Exit -> Fr -> World -> Prop}
theorem Cd {α:Type} {t:Bool} {x y r:α} (h:(bif t then x else y)=r) (ht:t=true->x=r->CWP P ro n (R5 c) Q f w) (hf:t=false->y=r->CWP P ro n (R6 c) Q f w) (hc:fev f (PF c)=.bool t:=by kernel_rfl) (hk:kin c=4:=by kernel_rfl):CWP P ro n c Q f w:=
 CWP.cond hk hc (fun e=>ht e (NN h e)) (fun e=>hf e (NO h e))
theorem Cp (t:Bool) (ht:t=true->CWP P ro n (R5 c) Q f w) (hf:t=false->CWP P ro n (R6 c) Q f w) (hc:fev f (PF c)=.bool t:=by kernel_rfl) (hk:kin c=4:=by kernel_rfl):CWP P ro n c Q f w:=CWP.cond hk hc ht hf
theorem C1 {t:Bool} (e:t=true) (h:CWP P ro n (R5 c) Q f w) (hc:fev f (PF c)=.bool t:=by kernel_rfl) (hk:kin c=4:=by kernel_rfl):CWP P ro n c Q f w:=CWP.cond1 hk hc e h
theorem C0 {t:Bool} (e:t=false) (h:CWP P ro n (R6 c) Q f w) (hc:fev f (PF c)=.bool t:=by kernel_rfl) (hk:kin c=4:=by kernel_rfl):CWP P ro n c Q f w:=CWP.cond0 hk hc e h
theorem Sp {α:Type} {t:Bool} {x y r:α} (h:(bif t then x else y)=r) {l:List Nat} (ht:t=true->x=r->RWP P ro n R Q l f w) (hf:t=false->y=r->RWP P ro n R Q l f w):RWP P ro n R Q l f w:=
 U7 t (fun e=>ht e (NN h e)) (fun e=>hf e (NO h e))
theorem Rt (h:Q .ret f w) (hk:kin c=8:=by kernel_rfl):CWP P ro n c Q f w:=CWP.ret hk h
theorem Ex (h:Q (.exit (cid c)) f w) (hk:kin c=7:=by kernel_rfl):CWP P ro n c Q f w:=CWP.exit hk h
end
def Qx (f:Fr):List ResultVar->Option (List Value)
 | []=>some []
 | .tmp t::rs=>(match Qx f rs with | some l=>some (f t::l) | none=>none)
 | _=>none
theorem JZ {P:Program} {w:World} {f:Fr}:∀ {rs:List ResultVar} {vs:List Value},Qx f rs=some vs->Sh P w f rs vs
 | [],_,h=>by cases h;trivial
 | .tmp t::rs,vs,h=>by
  unfold Qx at h;split at h
  ·rename_i l hl;cases h;exact ⟨rfl,JZ hl⟩
  ·cases h
 | .cell _ _::rs,vs,h=>by simp [Qx] at h
theorem Re {P:Program} {rs:Array ResultVar} {w w0:World} {F0 F:Mem} {f:Fr} {L:List (Option Nat×Obj)} {post:Mem->Value->Prop} (vs:List Value) (hs:HS w0 F0 w F L) (hp:post F (IL vs)) (hr:Qx f rs.toList=some vs:=by kernel_rfl) (hd:f.d=[]:=by kernel_rfl):
  f.d=[]/\ ∃ v,(Da rs f).run P w=.ok v w/\AF w0 F0 post (.returned v) w:=
 ⟨hd,IL vs,AH rfl (JZ hr),IL vs,F,rfl,hs.clear,hp⟩
theorem ReB {P:Program} {rs:Array ResultVar} {w wb:World} {Fb F0 F:Mem} {f:Fr} {L:Own} {post:Mem->Value->Own->Prop} (vs:List Value) (hs:HS wb Fb w F L) (hl:U2 F0 F) (hp:post F (IL vs) L) (hr:Qx f rs.toList=some vs:=by kernel_rfl) (hd:f.d=[]:=by kernel_rfl):
  f.d=[]/\ ∃ v,(Da rs f).run P w=.ok v w/\Es wb Fb F0 post (.returned v) w:=
 ⟨hd,IL vs,AH rfl (JZ hr),F,IL vs,L,rfl,hs,hl,hp⟩
section
variable {w0 w : World} {F0 F : Mem} {L : List (Option Nat × Obj)} {e : Option Nat × Obj}
theorem HS.dr0 (h:HS w0 F0 w F (e::L)):HS w0 F0 w F (L):=h.drop 0
theorem HS.at0 {b:Nat} {o:Obj} (h:HS w0 F0 w F ((some b,o)::L)):w.heap[b]? =some o:=h.ownAt (k:=0) rfl
theorem HS.fc0 {b:Nat} {o:Obj} (h:HS w0 F0 w F ((some b,o)::L)):∃ F1,HS w0 F0 w F1 (L)/\U2 F F1/\F1 b=some o:=h.freezeC (k:=0) rfl
theorem HS.fr0 {α:Type} {T:Ty α} {E:TypeId} {a:Vq} {cap:Nat} {l:List α} (h:HS w0 F0 w F (e::L)) (hr:Ao T E F a cap l e):∃ F1,HS w0 F0 w F1 (L)/\U2 F F1/\SlA T F1 a l:=h.freezeRow (k:=0) rfl hr
theorem HS.rd0 {α:Type} {T:Ty α} {E:TypeId} {a:Vq} {cap:Nat} {l:List α} (h:HS w0 F0 w F (e::L)) (hr:Ao T E F a cap l e):Rd T F w a l:=Ao.rd h (k:=0) rfl hr
theorem HS.dr1 {e0:Option Nat×Obj} (h:HS w0 F0 w F (e0::e::L)):HS w0 F0 w F (e0::L):=h.drop 1
theorem HS.pk1 {e0:Option Nat×Obj} (h:HS w0 F0 w F (e0::e::L)):HS w0 F0 w F (e::e0::L):=h.pick (k:=1) rfl
theorem HS.at1 {e0:Option Nat×Obj} {b:Nat} {o:Obj} (h:HS w0 F0 w F (e0::(some b,o)::L)):w.heap[b]? =some o:=h.ownAt (k:=1) rfl
theorem HS.fc1 {e0:Option Nat×Obj} {b:Nat} {o:Obj} (h:HS w0 F0 w F (e0::(some b,o)::L)):∃ F1,HS w0 F0 w F1 (e0::L)/\U2 F F1/\F1 b=some o:=h.freezeC (k:=1) rfl
theorem HS.fr1 {e0:Option Nat×Obj} {α:Type} {T:Ty α} {E:TypeId} {a:Vq} {cap:Nat} {l:List α} (h:HS w0 F0 w F (e0::e::L)) (hr:Ao T E F a cap l e):∃ F1,HS w0 F0 w F1 (e0::L)/\U2 F F1/\SlA T F1 a l:=h.freezeRow (k:=1) rfl hr
theorem HS.dr2 {e0 e1:Option Nat×Obj} (h:HS w0 F0 w F (e0::e1::e::L)):HS w0 F0 w F (e0::e1::L):=h.drop 2
theorem HS.pk2 {e0 e1:Option Nat×Obj} (h:HS w0 F0 w F (e0::e1::e::L)):HS w0 F0 w F (e::e0::e1::L):=h.pick (k:=2) rfl
theorem HS.at2 {e0 e1:Option Nat×Obj} {b:Nat} {o:Obj} (h:HS w0 F0 w F (e0::e1::(some b,o)::L)):w.heap[b]? =some o:=h.ownAt (k:=2) rfl
theorem HS.fr2 {e0 e1:Option Nat×Obj} {α:Type} {T:Ty α} {E:TypeId} {a:Vq} {cap:Nat} {l:List α} (h:HS w0 F0 w F (e0::e1::e::L)) (hr:Ao T E F a cap l e):∃ F1,HS w0 F0 w F1 (e0::e1::L)/\U2 F F1/\SlA T F1 a l:=h.freezeRow (k:=2) rfl hr
theorem HS.dr3 {e0 e1 e2:Option Nat×Obj} (h:HS w0 F0 w F (e0::e1::e2::e::L)):HS w0 F0 w F (e0::e1::e2::L):=h.drop 3
theorem HS.pk3 {e0 e1 e2:Option Nat×Obj} (h:HS w0 F0 w F (e0::e1::e2::e::L)):HS w0 F0 w F (e::e0::e1::e2::L):=h.pick (k:=3) rfl
theorem HS.at3 {e0 e1 e2:Option Nat×Obj} {b:Nat} {o:Obj} (h:HS w0 F0 w F (e0::e1::e2::(some b,o)::L)):w.heap[b]? =some o:=h.ownAt (k:=3) rfl
theorem HS.fr3 {e0 e1 e2:Option Nat×Obj} {α:Type} {T:Ty α} {E:TypeId} {a:Vq} {cap:Nat} {l:List α} (h:HS w0 F0 w F (e0::e1::e2::e::L)) (hr:Ao T E F a cap l e):∃ F1,HS w0 F0 w F1 (e0::e1::e2::L)/\U2 F F1/\SlA T F1 a l:=h.freezeRow (k:=3) rfl hr
theorem HS.dr4 {e0 e1 e2 e3:Option Nat×Obj} (h:HS w0 F0 w F (e0::e1::e2::e3::e::L)):HS w0 F0 w F (e0::e1::e2::e3::L):=h.drop 4
theorem HS.pk4 {e0 e1 e2 e3:Option Nat×Obj} (h:HS w0 F0 w F (e0::e1::e2::e3::e::L)):HS w0 F0 w F (e::e0::e1::e2::e3::L):=h.pick (k:=4) rfl
theorem HS.at4 {e0 e1 e2 e3:Option Nat×Obj} {b:Nat} {o:Obj} (h:HS w0 F0 w F (e0::e1::e2::e3::(some b,o)::L)):w.heap[b]? =some o:=h.ownAt (k:=4) rfl
theorem HS.dr5 {e0 e1 e2 e3 e4:Option Nat×Obj} (h:HS w0 F0 w F (e0::e1::e2::e3::e4::e::L)):HS w0 F0 w F (e0::e1::e2::e3::e4::L):=h.drop 5
theorem HS.pk5 {e0 e1 e2 e3 e4:Option Nat×Obj} (h:HS w0 F0 w F (e0::e1::e2::e3::e4::e::L)):HS w0 F0 w F (e::e0::e1::e2::e3::e4::L):=h.pick (k:=5) rfl
theorem HS.at5 {e0 e1 e2 e3 e4:Option Nat×Obj} {b:Nat} {o:Obj} (h:HS w0 F0 w F (e0::e1::e2::e3::e4::(some b,o)::L)):w.heap[b]? =some o:=h.ownAt (k:=5) rfl
theorem HS.pk6 {e0 e1 e2 e3 e4 e5:Option Nat×Obj} (h:HS w0 F0 w F (e0::e1::e2::e3::e4::e5::e::L)):HS w0 F0 w F (e::e0::e1::e2::e3::e4::e5::L):=h.pick (k:=6) rfl
theorem HS.at6 {e0 e1 e2 e3 e4 e5:Option Nat×Obj} {b:Nat} {o:Obj} (h:HS w0 F0 w F (e0::e1::e2::e3::e4::e5::(some b,o)::L)):w.heap[b]? =some o:=h.ownAt (k:=6) rfl
theorem HS.pk7 {e0 e1 e2 e3 e4 e5 e6:Option Nat×Obj} (h:HS w0 F0 w F (e0::e1::e2::e3::e4::e5::e6::e::L)):HS w0 F0 w F (e::e0::e1::e2::e3::e4::e5::e6::L):=h.pick (k:=7) rfl
theorem HS.at7 {e0 e1 e2 e3 e4 e5 e6:Option Nat×Obj} {b:Nat} {o:Obj} (h:HS w0 F0 w F (e0::e1::e2::e3::e4::e5::e6::(some b,o)::L)):w.heap[b]? =some o:=h.ownAt (k:=7) rfl
variable {P : Program} {ro : Option Nat} {n : Nat} {R : Array Oper} {Q : Exit -> Fr -> World -> Prop} {i : Nat} {rest : List Nat} {f : Fr} {α : Type} {T : Ty α} {E : TypeId} {a : Vq} {cap : Nat} {l m : List α}
def apX:Op->Operand | .call c=>c.args[0]?.getD (.tmp 0) | _=>.tmp 0
def apY:Op->Operand | .call c=>c.args[1]?.getD (.tmp 0) | _=>.tmp 0
def apK (P:Program) (E:TypeId) (sz:Nat):Op->Bool
 | .call c=>(match c.callee with
  | .builtin .append=>(match c.args.toList,c.argTypes.toList with
   | [_,_],[t,t2]=>(match A1 P t,Bn P E with
    | some (E',s,by_),some z=>Nat.beq E E'&&(Nat.beq s sz&&(decide (by_<=1024)&&(Ma P t2&&Nat.beq z.cells.size sz)))
    | _,_=>false)
   | _,_=>false)
  | _=>false)
 | _=>false
theorem Fw {op:Op} {sz:Nat} (h:apK P E sz op=true):∃ t t2 by_ z,op=.call {callee:=.builtin .append,args:=#[apX op,apY op],argTypes:=#[t,t2]}/\A1 P t=some (E,sz,by_)/\decide (by_<=1024)=true/\Ma P t2=true/\Bn P E=some z/\z.cells.size=sz:=by
 unfold apK at h;split at h
 ·rename_i c;obtain ⟨callee,aos,ats⟩:=c;simp only at h;split at h
  ·split at h
   ·rename_i x y t t2 h1 h2;split at h
    ·rename_i E' s by_ z he hz;simp only [Bool.and_eq_true] at h;obtain ⟨e1,e2,e3,e4,e5⟩:=h;have e1:=Nat.eq_of_beq_eq_true e1;have e2:=Nat.eq_of_beq_eq_true e2;subst e1;subst e2;have ha:aos=#[x,y]:=by cases aos;simpa using h1
     have hb:ats=#[t,t2]:=by cases ats;simpa using h2
     subst ha;subst hb;exact ⟨t,t2,by_,z,rfl,he,e3,e4,hz,Nat.eq_of_beq_eq_true e5⟩
    ·cases h
   ·cases h
  ·cases h
 ·cases h
theorem St0 {b:Nat} {C:Array Value} {E:TypeId} (C':Array Value) (hs:HS w0 F0 w F ((some b,.cells C E (0,0))::L)) (k:∀ w',HS w0 F0 w' F ((some b,.cells C' E (0,0))::L)->RWP P ro n R Q rest f w')
  (hx:fev f (stX (Ag R i))=.pointer (some ⟨b,pO (fev f (stX (Ag R i))),none⟩):=by kernel_rfl) (hC:BD C (pO (fev f (stX (Ag R i)))) (fev f (stY (Ag R i))).cells.toList=C':=by kernel_rfl)
  (ho:(ung R i&&(Hb (Ag R i)&&(CX P (stT (Ag R i)) (fev f (stY (Ag R i))) (pO (fev f (stX (Ag R i)))) C&&(match A5 R i with | none=>true | some _=>false))))=true:=by kernel_rfl):RWP P ro n R Q (i::rest) f w:=
 Ja (hs.ownAt (k:=0) rfl) (k _ (hs.put (k:=0) rfl _)) hx hC ho
theorem Ap0 {a2:Vq} (h1:T.One) (hs:HS w0 F0 w F (e::L)) (hr:Ao T E F a cap l e) (hm:Rd T F w a2 m) {r:List α} (hap:Cz l m=some r)
  (k:∀ a' cap' e' w',HS w0 F0 w' F (e'::L)->Ao T E F a' cap' r e'->RWP P ro n R Q rest (AZ f (A5 R i) (.slice a' r.length cap')) w')
  (hx:fev f (apX (Ag R i))=.slice a l.length cap:=by kernel_rfl) (hy:fev f (apY (Ag R i))=.slice a2 m.length (sC (fev f (apY (Ag R i)))):=by kernel_rfl) (ho:(ung R i&&apK P E T.sz (Ag R i))=true:=by kernel_rfl):RWP P ro n R Q (i::rest) f w:=by
 simp only [Bool.and_eq_true] at ho;obtain ⟨t,t2,by_,z,e1,he,hb,hni,hz,hzs⟩:=Fw ho.2;have:=A9 ho.1;rw [e1] at this;exact RWP.append this rfl hx hy he hb hni hz hzs h1 hs (k:=0) rfl hr hm hap k
theorem St1 {e0:Option Nat×Obj} {b:Nat} {C:Array Value} {E:TypeId} (C':Array Value) (hs:HS w0 F0 w F (e0::(some b,.cells C E (0,0))::L)) (k:∀ w',HS w0 F0 w' F (e0::(some b,.cells C' E (0,0))::L)->RWP P ro n R Q rest f w')
  (hx:fev f (stX (Ag R i))=.pointer (some ⟨b,pO (fev f (stX (Ag R i))),none⟩):=by kernel_rfl) (hC:BD C (pO (fev f (stX (Ag R i)))) (fev f (stY (Ag R i))).cells.toList=C':=by kernel_rfl)
  (ho:(ung R i&&(Hb (Ag R i)&&(CX P (stT (Ag R i)) (fev f (stY (Ag R i))) (pO (fev f (stX (Ag R i)))) C&&(match A5 R i with | none=>true | some _=>false))))=true:=by kernel_rfl):RWP P ro n R Q (i::rest) f w:=
 Ja (hs.ownAt (k:=1) rfl) (k _ (hs.put (k:=1) rfl _)) hx hC ho
theorem Ap1 {e0:Option Nat×Obj} {a2:Vq} (h1:T.One) (hs:HS w0 F0 w F (e0::e::L)) (hr:Ao T E F a cap l e) (hm:Rd T F w a2 m) {r:List α} (hap:Cz l m=some r)
  (k:∀ a' cap' e' w',HS w0 F0 w' F (e0::e'::L)->Ao T E F a' cap' r e'->RWP P ro n R Q rest (AZ f (A5 R i) (.slice a' r.length cap')) w')
  (hx:fev f (apX (Ag R i))=.slice a l.length cap:=by kernel_rfl) (hy:fev f (apY (Ag R i))=.slice a2 m.length (sC (fev f (apY (Ag R i)))):=by kernel_rfl) (ho:(ung R i&&apK P E T.sz (Ag R i))=true:=by kernel_rfl):RWP P ro n R Q (i::rest) f w:=by
 simp only [Bool.and_eq_true] at ho;obtain ⟨t,t2,by_,z,e1,he,hb,hni,hz,hzs⟩:=Fw ho.2;have:=A9 ho.1;rw [e1] at this;exact RWP.append this rfl hx hy he hb hni hz hzs h1 hs (k:=1) rfl hr hm hap k
theorem St2 {e0 e1:Option Nat×Obj} {b:Nat} {C:Array Value} {E:TypeId} (C':Array Value) (hs:HS w0 F0 w F (e0::e1::(some b,.cells C E (0,0))::L)) (k:∀ w',HS w0 F0 w' F (e0::e1::(some b,.cells C' E (0,0))::L)->RWP P ro n R Q rest f w')
  (hx:fev f (stX (Ag R i))=.pointer (some ⟨b,pO (fev f (stX (Ag R i))),none⟩):=by kernel_rfl) (hC:BD C (pO (fev f (stX (Ag R i)))) (fev f (stY (Ag R i))).cells.toList=C':=by kernel_rfl)
  (ho:(ung R i&&(Hb (Ag R i)&&(CX P (stT (Ag R i)) (fev f (stY (Ag R i))) (pO (fev f (stX (Ag R i)))) C&&(match A5 R i with | none=>true | some _=>false))))=true:=by kernel_rfl):RWP P ro n R Q (i::rest) f w:=
 Ja (hs.ownAt (k:=2) rfl) (k _ (hs.put (k:=2) rfl _)) hx hC ho
theorem Ap2 {e0 e1:Option Nat×Obj} {a2:Vq} (h1:T.One) (hs:HS w0 F0 w F (e0::e1::e::L)) (hr:Ao T E F a cap l e) (hm:Rd T F w a2 m) {r:List α} (hap:Cz l m=some r)
  (k:∀ a' cap' e' w',HS w0 F0 w' F (e0::e1::e'::L)->Ao T E F a' cap' r e'->RWP P ro n R Q rest (AZ f (A5 R i) (.slice a' r.length cap')) w')
  (hx:fev f (apX (Ag R i))=.slice a l.length cap:=by kernel_rfl) (hy:fev f (apY (Ag R i))=.slice a2 m.length (sC (fev f (apY (Ag R i)))):=by kernel_rfl) (ho:(ung R i&&apK P E T.sz (Ag R i))=true:=by kernel_rfl):RWP P ro n R Q (i::rest) f w:=by
 simp only [Bool.and_eq_true] at ho;obtain ⟨t,t2,by_,z,e1,he,hb,hni,hz,hzs⟩:=Fw ho.2;have:=A9 ho.1;rw [e1] at this;exact RWP.append this rfl hx hy he hb hni hz hzs h1 hs (k:=2) rfl hr hm hap k
theorem St3 {e0 e1 e2:Option Nat×Obj} {b:Nat} {C:Array Value} {E:TypeId} (C':Array Value) (hs:HS w0 F0 w F (e0::e1::e2::(some b,.cells C E (0,0))::L)) (k:∀ w',HS w0 F0 w' F (e0::e1::e2::(some b,.cells C' E (0,0))::L)->RWP P ro n R Q rest f w')
  (hx:fev f (stX (Ag R i))=.pointer (some ⟨b,pO (fev f (stX (Ag R i))),none⟩):=by kernel_rfl) (hC:BD C (pO (fev f (stX (Ag R i)))) (fev f (stY (Ag R i))).cells.toList=C':=by kernel_rfl)
  (ho:(ung R i&&(Hb (Ag R i)&&(CX P (stT (Ag R i)) (fev f (stY (Ag R i))) (pO (fev f (stX (Ag R i)))) C&&(match A5 R i with | none=>true | some _=>false))))=true:=by kernel_rfl):RWP P ro n R Q (i::rest) f w:=
 Ja (hs.ownAt (k:=3) rfl) (k _ (hs.put (k:=3) rfl _)) hx hC ho
theorem St5 {e0 e1 e2 e3 e4:Option Nat×Obj} {b:Nat} {C:Array Value} {E:TypeId} (C':Array Value) (hs:HS w0 F0 w F (e0::e1::e2::e3::e4::(some b,.cells C E (0,0))::L)) (k:∀ w',HS w0 F0 w' F (e0::e1::e2::e3::e4::(some b,.cells C' E (0,0))::L)->RWP P ro n R Q rest f w')
  (hx:fev f (stX (Ag R i))=.pointer (some ⟨b,pO (fev f (stX (Ag R i))),none⟩):=by kernel_rfl) (hC:BD C (pO (fev f (stX (Ag R i)))) (fev f (stY (Ag R i))).cells.toList=C':=by kernel_rfl)
  (ho:(ung R i&&(Hb (Ag R i)&&(CX P (stT (Ag R i)) (fev f (stY (Ag R i))) (pO (fev f (stX (Ag R i)))) C&&(match A5 R i with | none=>true | some _=>false))))=true:=by kernel_rfl):RWP P ro n R Q (i::rest) f w:=
 Ja (hs.ownAt (k:=5) rfl) (k _ (hs.put (k:=5) rfl _)) hx hC ho
theorem Ap5 {e0 e1 e2 e3 e4:Option Nat×Obj} {a2:Vq} (h1:T.One) (hs:HS w0 F0 w F (e0::e1::e2::e3::e4::e::L)) (hr:Ao T E F a cap l e) (hm:Rd T F w a2 m) {r:List α} (hap:Cz l m=some r)
  (k:∀ a' cap' e' w',HS w0 F0 w' F (e0::e1::e2::e3::e4::e'::L)->Ao T E F a' cap' r e'->RWP P ro n R Q rest (AZ f (A5 R i) (.slice a' r.length cap')) w')
  (hx:fev f (apX (Ag R i))=.slice a l.length cap:=by kernel_rfl) (hy:fev f (apY (Ag R i))=.slice a2 m.length (sC (fev f (apY (Ag R i)))):=by kernel_rfl) (ho:(ung R i&&apK P E T.sz (Ag R i))=true:=by kernel_rfl):RWP P ro n R Q (i::rest) f w:=by
 simp only [Bool.and_eq_true] at ho;obtain ⟨t,t2,by_,z,e1,he,hb,hni,hz,hzs⟩:=Fw ho.2;have:=A9 ho.1;rw [e1] at this;exact RWP.append this rfl hx hy he hb hni hz hzs h1 hs (k:=5) rfl hr hm hap k
theorem St6 {e0 e1 e2 e3 e4 e5:Option Nat×Obj} {b:Nat} {C:Array Value} {E:TypeId} (C':Array Value) (hs:HS w0 F0 w F (e0::e1::e2::e3::e4::e5::(some b,.cells C E (0,0))::L)) (k:∀ w',HS w0 F0 w' F (e0::e1::e2::e3::e4::e5::(some b,.cells C' E (0,0))::L)->RWP P ro n R Q rest f w')
  (hx:fev f (stX (Ag R i))=.pointer (some ⟨b,pO (fev f (stX (Ag R i))),none⟩):=by kernel_rfl) (hC:BD C (pO (fev f (stX (Ag R i)))) (fev f (stY (Ag R i))).cells.toList=C':=by kernel_rfl)
  (ho:(ung R i&&(Hb (Ag R i)&&(CX P (stT (Ag R i)) (fev f (stY (Ag R i))) (pO (fev f (stX (Ag R i)))) C&&(match A5 R i with | none=>true | some _=>false))))=true:=by kernel_rfl):RWP P ro n R Q (i::rest) f w:=
 Ja (hs.ownAt (k:=6) rfl) (k _ (hs.put (k:=6) rfl _)) hx hC ho
theorem Ap6 {e0 e1 e2 e3 e4 e5:Option Nat×Obj} {a2:Vq} (h1:T.One) (hs:HS w0 F0 w F (e0::e1::e2::e3::e4::e5::e::L)) (hr:Ao T E F a cap l e) (hm:Rd T F w a2 m) {r:List α} (hap:Cz l m=some r)
  (k:∀ a' cap' e' w',HS w0 F0 w' F (e0::e1::e2::e3::e4::e5::e'::L)->Ao T E F a' cap' r e'->RWP P ro n R Q rest (AZ f (A5 R i) (.slice a' r.length cap')) w')
  (hx:fev f (apX (Ag R i))=.slice a l.length cap:=by kernel_rfl) (hy:fev f (apY (Ag R i))=.slice a2 m.length (sC (fev f (apY (Ag R i)))):=by kernel_rfl) (ho:(ung R i&&apK P E T.sz (Ag R i))=true:=by kernel_rfl):RWP P ro n R Q (i::rest) f w:=by
 simp only [Bool.and_eq_true] at ho;obtain ⟨t,t2,by_,z,e1,he,hb,hni,hz,hzs⟩:=Fw ho.2;have:=A9 ho.1;rw [e1] at this;exact RWP.append this rfl hx hy he hb hni hz hzs h1 hs (k:=6) rfl hr hm hap k
theorem St7 {e0 e1 e2 e3 e4 e5 e6:Option Nat×Obj} {b:Nat} {C:Array Value} {E:TypeId} (C':Array Value) (hs:HS w0 F0 w F (e0::e1::e2::e3::e4::e5::e6::(some b,.cells C E (0,0))::L)) (k:∀ w',HS w0 F0 w' F (e0::e1::e2::e3::e4::e5::e6::(some b,.cells C' E (0,0))::L)->RWP P ro n R Q rest f w')
  (hx:fev f (stX (Ag R i))=.pointer (some ⟨b,pO (fev f (stX (Ag R i))),none⟩):=by kernel_rfl) (hC:BD C (pO (fev f (stX (Ag R i)))) (fev f (stY (Ag R i))).cells.toList=C':=by kernel_rfl)
  (ho:(ung R i&&(Hb (Ag R i)&&(CX P (stT (Ag R i)) (fev f (stY (Ag R i))) (pO (fev f (stX (Ag R i)))) C&&(match A5 R i with | none=>true | some _=>false))))=true:=by kernel_rfl):RWP P ro n R Q (i::rest) f w:=
 Ja (hs.ownAt (k:=7) rfl) (k _ (hs.put (k:=7) rfl _)) hx hC ho
end
section
variable {P : Program} {n : Nat} {R : Array Oper} {Q : Exit -> Fr -> World -> Prop} {PQ : List PanicEntry -> List Deferred -> World -> Prop} {Post : Fr -> World -> Prop} {z fuel : Nat} {Sw : Bool -> World -> Prop} {i : Nat} {f : Fr} {w w' w0 : World} {F0 F Fs : Mem} {l : List Bool} {L Lc Lz : List (Option Nat × Obj)} {e : Option Nat × Obj}
def rdy (R:Array Oper) (z i:Nat) (l:List Bool):Bool:=Region.free .any R l.toArray i&&((Region.ready .any R l.toArray).contains i&&Iq R z i)
def dvf (P:Program) (R:Array Oper):List Nat->Fr->Fr
 | [],f=>f
 | i::is,f=>dvf P R is (AZ f (A5 R i) ((pv P (fev f) (Ag R i)).getD undef))
def dvl:List Nat->List Bool->List Bool
 | [],l=>l
 | i::is,l=>dvl is (l.set i true)
def RZ (P:Program) (R:Array Oper) (z:Nat):List Nat->List Bool->Fr->Bool
 | [],_,_=>true
 | i::is,l,f=>ung R i&&(isS (pv P (fev f) (Ag R i))&&(rdy R z i l&&RZ P R z is (l.set i true) (AZ f (A5 R i) ((pv P (fev f) (Ag R i)).getD undef))))
theorem Sl:∀ (is:List Nat) {l:List Bool} {f:Fr} {fuel:Nat},DWP P n R PQ Post z Sw fuel (dvl is l) (dvf P R is f) w->RZ P R z is l f=true->DWP P n R PQ Post z Sw (fuel + is.length) l f w
 | [],_,_,_,k,_=>k
 | i::is,l,f,fuel,k,h=>by
  simp only [RZ,rdy,Bool.and_eq_true] at h;obtain ⟨h1,h2,⟨h3,h4,h5⟩,h6⟩:=h;exact DWP.take (A9 h1) h3 h4 h5 rfl rfl (fun _ _=>Nv (Hx h2)) rfl (Sl is k h6)
theorem Dv (is:List Nat) {fu:Nat} (k:DWP P n R PQ Post z Sw (fu - is.length) (dvl is l) (dvf P R is f) w) (h:RZ P R z is l f=true:=by kernel_rfl) (hfu:Nat.beq fu ((fu - is.length) + is.length)=true:=by kernel_rfl):DWP P n R PQ Post z Sw fu l f w:=by
 have:=Nat.eq_of_beq_eq_true hfu;rw [this];exact Sl is k h
theorem Dvl (is:List Nat) (l':List Bool) {fu:Nat} (k:DWP P n R PQ Post z Sw (fu - is.length) l' (dvf P R is f) w) (h:RZ P R z is l f=true:=by kernel_rfl) (hl:dvl is l=l':=by kernel_rfl) (hfu:Nat.beq fu ((fu - is.length) + is.length)=true:=by kernel_rfl):DWP P n R PQ Post z Sw fu l f w:=by
 subst hl;exact Dv is k h hfu
theorem DWP.tk {v:Value} (i:Nat) {fu:Nat} (hy:∀ w',Sw (l.toArray.getD z true) w'->(Ak (fev f) (Ag R i) (E9 R i)).run P w'=.ok (.value v) w') (k:DWP P n R PQ Post z Sw (fu - 1) (l.set i true) (AZ f (A5 R i) v) w) (ho:ung R i=true) (hr:rdy R z i l=true)
  (hfu:Nat.beq fu ((fu - 1) + 1)=true):DWP P n R PQ Post z Sw fu l f w:=by
 simp only [rdy,Bool.and_eq_true] at hr;have:=Nat.eq_of_beq_eq_true hfu;rw [this];exact DWP.take (A9 ho) hr.1 hr.2.1 hr.2.2 rfl rfl hy rfl k
theorem Dl (i:Nat) {fu b:Nat} {C:Array Value} {E:TypeId} {fz:Nat×Nat} (hp:∀ w',Sw (l.toArray.getD z true) w'->w'.heap[b]? =some (.cells C E fz)) (k:DWP P n R PQ Post z Sw (fu - 1) (l.set i true) (AZ f (A5 R i) (ldV P (ldT (Ag R i)) C (pO (fev f (ldX (Ag R i)))))) w)
  (hx:fev f (ldX (Ag R i))=.pointer (some ⟨b,pO (fev f (ldX (Ag R i))),none⟩):=by kernel_rfl) (ho:(ung R i&&(Ox (Ag R i)&&ldK P (ldT (Ag R i)) C (pO (fev f (ldX (Ag R i))))))=true:=by kernel_rfl) (hr:rdy R z i l=true:=by kernel_rfl)
  (hfu:Nat.beq fu ((fu - 1) + 1)=true:=by kernel_rfl):DWP P n R PQ Post z Sw fu l f w:=by
 simp only [Bool.and_eq_true] at ho;refine DWP.tk i (fun w' hw=>?_) k ho.1 hr hfu;have:=Fg ho.2.1;rw [this];exact Pg hx (hp w' hw) ho.2.2
theorem Dx (i j:Nat) {fu b o kk:Nat} {C:Array Value} {E:TypeId} {fz:Nat×Nat} {cs:List Value} (hp:∀ w',Sw (l.toArray.getD z true) w'->w'.heap[b]? =some (.cells C E fz)) (hc:Al C o kk=cs) (k:DWP P n R PQ Post z Sw (fu - 1) (l.set i true) (AZ f (A5 R i) (lxV P (ldT (Ag R i)) cs j)) w)
  (hx:fev f (ldX (Ag R i))=.pointer (some ⟨b,o + j,none⟩):=by kernel_rfl) (ho:(ung R i&&(Ox (Ag R i)&&lxK P (ldT (Ag R i)) cs j kk))=true:=by kernel_rfl) (hr:rdy R z i l=true:=by kernel_rfl)
  (hfu:Nat.beq fu ((fu - 1) + 1)=true:=by kernel_rfl):DWP P n R PQ Post z Sw fu l f w:=by
 simp only [Bool.and_eq_true] at ho;refine DWP.tk i (fun w' hw=>?_) k ho.1 hr hfu;have:=Fg ho.2.1;rw [this];exact Pd hx (hp w' hw) hc ho.2.2
theorem Di (i:Nat) {fu m:Nat} {q:Int} (hi:0<=q/\q < (m:Int)) (k:DWP P n R PQ Post z Sw (fu - 1) (l.set i true) (AZ f (A5 R i) (.pointer (some ⟨sB (fev f (ixX (Ag R i))),sO (fev f (ixX (Ag R i))) + q.toNat * elS P (ixT (Ag R i)),none⟩))) w)
  (hx:fev f (ixX (Ag R i))=.slice (some ⟨sB (fev f (ixX (Ag R i))),sO (fev f (ixX (Ag R i))),none⟩) m (sC (fev f (ixX (Ag R i)))):=by kernel_rfl) (hy:fev f (ixY (Ag R i))=.int (iK (fev f (ixY (Ag R i)))) q:=by kernel_rfl)
  (ho:(ung R i&&(Oy (Ag R i)&&slQ P (ixT (Ag R i))))=true:=by kernel_rfl) (hr:rdy R z i l=true:=by kernel_rfl) (hfu:Nat.beq fu ((fu - 1) + 1)=true:=by kernel_rfl):DWP P n R PQ Post z Sw fu l f w:=by
 simp only [Bool.and_eq_true] at ho;refine DWP.tk i (fun w' hw=>?_) k ho.1 hr hfu;have e:=Fh ho.2.1;have:=Rm (P:=P) (w:=w') (ty:=E9 R i) hi hx hy ho.2.2;rw [<-e] at this;exact this
theorem Dj (i:Nat) {fu m:Nat} {q:Int} (hi:0<=q/\q < (m:Int)) (k:DWP P n R PQ Post z Sw (fu - 1) (l.set i true) (AZ f (A5 R i) (.pointer (some ⟨sB (fev f (ixX (Ag R i))),q.toNat * elS P (ixT (Ag R i)),none⟩))) w)
  (hx:fev f (ixX (Ag R i))=.slice (some ⟨sB (fev f (ixX (Ag R i))),0,none⟩) m (sC (fev f (ixX (Ag R i)))):=by kernel_rfl) (hy:fev f (ixY (Ag R i))=.int (iK (fev f (ixY (Ag R i)))) q:=by kernel_rfl)
  (ho:(ung R i&&(Oy (Ag R i)&&slQ P (ixT (Ag R i))))=true:=by kernel_rfl) (hr:rdy R z i l=true:=by kernel_rfl) (hfu:Nat.beq fu ((fu - 1) + 1)=true:=by kernel_rfl):DWP P n R PQ Post z Sw fu l f w:=by
 simp only [Bool.and_eq_true] at ho;refine DWP.tk i (fun w' hw=>?_) k ho.1 hr hfu;have e:=Fh ho.2.1;have:=PR (P:=P) (w:=w') (ty:=E9 R i) hi hx hy ho.2.2;rw [<-e] at this;exact this
theorem D1 (i:Nat) {fu:Nat} (h:Ay P n R PQ Post z Sw (fu - 1) l i f w) (hr:Region.ready .any R l.toArray=[i]:=by kernel_rfl) (hfu:Nat.beq fu ((fu - 1) + 1)=true:=by kernel_rfl):DWP P n R PQ Post z Sw fu l f w:=by
 have:=Nat.eq_of_beq_eq_true hfu;rw [this];exact DWP.one hr h
theorem zdT {zd:Bool} {A:Prop} (h:zd=true):zd=false->A:=fun e=>by rw [h] at e;cases e
theorem DCl {fid:FuncId} {args:List Value} {post:Mem->Value->Prop} (hok:Af P fid) (hs:HS w0 F0 w F L) (hc:Calls P fid args.toArray w (AF w F post))
  (k:∀ v F1 w1,HS w0 F0 w1 F1 L->U2 F F1->post F1 v->DWP P n R PQ Post z (DZ Fs Lc Lz) fuel (l.set i true) (AZ f (A5 R i) v) w1) (ha:clV f (Ag R i)=some (fid,args):=by kernel_rfl) (ho:ung R i=true:=by kernel_rfl)
  (hz:((l.set i true).toArray.getD z true==l.toArray.getD z true)=true:=by kernel_rfl):Ay P n R PQ Post z (DZ Fs Lc Lz) fuel l i f w:=by
 cases e:Ag R i with
 | call c=>
  obtain ⟨callee,aos,ats⟩:=c;have ho':=A9 ho;rw [e] at ha ho';unfold clV at ha;simp only at ha;split at ha
  ·split at ha
   ·rename_i hf;simp only [Option.some.injEq,Prod.mk.injEq] at ha;obtain ⟨rfl,rfl⟩:=ha;exact Ve rfl (by simpa using hz) rfl ho' rfl hf hok rfl hs hc k
   ·cases ha
  ·cases ha
 | _=>rw [e] at ha;simp [clV] at ha
theorem DBs (E:TypeId) (cs:List Value) (hs:HS w0 F0 w F L) (hle:U2 Fs F) (k:∀ b w',HS w0 F0 w' F ((some b,.cells cs.toArray E (0,0))::L)->DWP P n R PQ Post z (DZ Fs Lc Lz) fuel (l.set i true) (AZ f (A5 R i) (.slice (some ⟨b,0,none⟩) (bsL (Ag R i)) (bsL (Ag R i)))) w')
  (hb:bsV P f (Ag R i)=some (E,cs):=by kernel_rfl) (ho:ung R i=true:=by kernel_rfl) (hL:∀ p,p∈Lc->p∈L:=by simp) (hLz:(l.set i true).toArray.getD z true=false->∀ p,p∈Lz->p∈L:=by first | (intro _;simp;done) | exact zdT (by kernel_rfl)):Ay P n R PQ Post z (DZ Fs Lc Lz) fuel l i f w:=by
 have:=A9 ho;cases e:Ag R i with
 | buildSlice t len parts=>
  rw [e] at hb this k;exact Ay.buildSlice rfl rfl this rfl rfl hb hs hle hL hLz k
 | _=>rw [e] at hb;simp [bsV] at hb
theorem DAl (t:TypeId) (C:Array Value) (hs:HS w0 F0 w F L) (hle:U2 Fs F) (k:∀ b w',HS w0 F0 w' F ((some b,.cells C t (0,0))::L)->DWP P n R PQ Post z (DZ Fs Lc Lz) fuel (l.set i true) (AZ f (A5 R i) (.pointer (some ⟨b,0,none⟩))) w')
  (hC:(Bn P t).map Value.cells=some C:=by kernel_rfl) (ho:(ung R i&&S9 t (Ag R i))=true:=by kernel_rfl) (hL:∀ p,p∈Lc->p∈L:=by simp) (hLz:(l.set i true).toArray.getD z true=false->∀ p,p∈Lz->p∈L:=by first | (intro _;simp;done) | exact zdT (by kernel_rfl)):Ay P n R PQ Post z (DZ Fs Lc Lz) fuel l i f w:=by
 simp only [Bool.and_eq_true] at ho;cases hz:Bn P t with
 | none=>rw [hz] at hC;cases hC
 | some z=>
  rw [hz] at hC;simp only [Option.map_some,Option.some.injEq] at hC;have e:=M7 ho.2;have:=A9 ho.1;rw [e] at this;exact Ay.alloc rfl rfl this rfl hz hC hs hle hL hLz k
theorem DBx (t:TypeId) (C:Array Value) (hs:HS w0 F0 w F L) (hle:U2 Fs F) (k:∀ b w',HS w0 F0 w' F ((some b,.cells C t (0,0))::L)->DWP P n R PQ Post z (DZ Fs Lc Lz) fuel (l.set i true) (AZ f (A5 R i) (.pointer (some ⟨b,0,none⟩))) w')
  (hC:(fev f (bxX (Ag R i))).cells=C:=by kernel_rfl) (ho:(ung R i&&S8 t (Ag R i))=true:=by kernel_rfl) (hL:∀ p,p∈Lc->p∈L:=by simp) (hLz:(l.set i true).toArray.getD z true=false->∀ p,p∈Lz->p∈L:=by first | (intro _;simp;done) | exact zdT (by kernel_rfl)):Ay P n R PQ Post z (DZ Fs Lc Lz) fuel l i f w:=by
 simp only [Bool.and_eq_true] at ho;have e:=M6 ho.2;have:=A9 ho.1;rw [e] at this;exact Ay.box rfl rfl this rfl rfl hC hs hle hL hLz k
theorem DCB {fid:FuncId} {args:List Value} {wb:World} {Fb:Mem} {post:Mem->Value->Own->Prop} (hok:Af P fid) (hc:Calls P fid args.toArray w (Es wb Fb F post))
  (k:∀ v F1 w1 L',HS wb Fb w1 F1 L'->U2 F F1->post F1 v L'->DZ Fs Lc Lz ((l.set i true).toArray.getD z true) w1/\DWP P n R PQ Post z (DZ Fs Lc Lz) fuel (l.set i true) (AZ f (A5 R i) v) w1) (ha:clV f (Ag R i)=some (fid,args):=by kernel_rfl) (ho:ung R i=true:=by kernel_rfl):Ay P n R PQ Post z (DZ Fs Lc Lz) fuel l i f w:=by
 cases e:Ag R i with
 | call c=>
  obtain ⟨callee,aos,ats⟩:=c;have ho':=A9 ho;rw [e] at ha ho';unfold clV at ha;simp only at ha;split at ha
  ·split at ha
   ·rename_i hf;simp only [Option.some.injEq,Prod.mk.injEq] at ha;obtain ⟨rfl,rfl⟩:=ha;exact Ay.callB rfl rfl ho' rfl hf hok rfl hc k
   ·cases ha
  ·cases ha
 | _=>rw [e] at ha;simp [clV] at ha
def fls:Nat->List Bool
 | 0=>[]
 | n + 1=>false::fls n
variable {c : Code}
def SV (R:Array Oper):Bool:=R.all fun o=>!Lr o.op
def TB (P:Program) (n m:Nat) (c:Code):Bool:=Nat.beq (kin c) 2&&(okR n (J8 c)&&(Region.noSelect (J8 c)&&(SV (J8 c)&&Nat.beq (J8 c).size m)))
theorem TV:∀ n,Array.replicate n false=(fls n).toArray:=fun n=>by
 have:List.replicate n false=fls n:=by induction n with
  | zero=>rfl
  | succ n ih=>rw [List.replicate_succ,ih];rfl
 rw [<-this];simp
theorem SQ {R:Array Oper} (hd:SV R=true) (ro:Option Nat) {Q:Exit->Act->World->Prop} {i:Nat} {K K':Act->World->Prop} (hK:∀ a w,K a w->K' a w) {a:Act} {w:World} (h:wpOpIn (FW none) 0 P R Q i K a w):wpOpIn (FW ro) 0 P R Q i K' a w:=by
 have h:=wpOpIn_mono hK h;unfold wpOpIn at h ⊢;cases ho:R[i]? with
 | none=>simp only [ho] at h ⊢;exact h
 | some o=>
  simp only [ho] at h ⊢;split
  ·rename_i hw;simp only [hw,if_true] at h;have hi:i < R.size:=by
    rcases Nat.lt_or_ge i R.size with h' | h'
    ·exact h'
    ·simp [Array.getElem?_eq_none h'] at ho
   have hnd:Lr o.op=false:=by
    unfold SV at hd;rw [Array.all_eq_true] at hd;have:=hd i hi;have e:R[i]=o:=by simpa [Array.getElem?_eq_getElem hi] using ho
    rw [e] at this;simpa using this
   unfold Oper.wpIn at h ⊢;refine ⟨fun _ _=>trivial,?_⟩;have e:∀ r,Oper.semAt r a.eval o=execOp a.eval o:=fun r=>Hj hnd r a.eval o rfl;have h2:=h.2;rw [e] at h2 ⊢;exact h2
  ·rename_i hw;simp only [hw,if_false] at h;exact ⟨fun _ _=>trivial,h.2⟩
theorem Sb {R:Array Oper} (hd:SV R=true) (ro:Option Nat) {Q:Exit->Act->World->Prop}:∀ (fuel:Nat) (l:Array Bool) (a:Act) (w:World),wpAnyIn (FW none) 0 P .any R Q fuel l a w->wpAnyIn (FW ro) 0 P .any R Q fuel l a w
 | 0,_,_,_,h=>h
 | fuel + 1,_,_,_,h=>⟨h.1,fun i hi=>SQ hd ro (fun a w=>Sb hd ro fuel _ a w) (h.2 i hi)⟩
variable {ro : Option Nat}
theorem RDP (z m:Nat) (Lc Lz:List (Option Nat×Obj)) (hs:HS w0 F0 w F L) (PQ:List PanicEntry->List Deferred->World->Prop) (Post:Fr->World->Prop)
  (h:∀ w',HS w0 F0 w' F L->DWP P n (J8 c) PQ Post z (DZ F Lc Lz) m (fls m) f w') (k:∀ f w,Post f w->Q .normal f w) (kp:∀ c f w,PQ c f.d w->Q (.panic c) f w) (hm:P.follows .mixedOrders=true:=by kernel_rfl) (ho:TB P n m c=true:=by kernel_rfl) (hc:∀ p,p∈Lc->p∈L:=by simp) (hz:∀ p,p∈Lz->p∈L:=by simp):CWP P ro n c Q f w:=by
 simp only [TB,Bool.and_eq_true] at ho;obtain ⟨hk,hok,hns,hnd,hfu⟩:=ho
 replace hk:=Nat.eq_of_beq_eq_true hk
 replace hfu:=Nat.eq_of_beq_eq_true hfu
 subst hfu;cases c <;> simp [kin] at hk;rename_i id ops d;cases d <;> simp [kin] at hk;intro a ha;have hs':HS w0 F0 {w with drawn:=w.drawn + 1} F L:=hs.heap rfl;refine wpIn_mono (wpIn_region_any hm (Sb hnd ro _ _ _ _ (Lw (z:=z) (S:=DZ F Lc Lz) _ _ _ _ ?_))) (Q:=lq n (nq PQ Post)) ?_
 ·simp only [J8] at *
  rw [TV];exact h _ hs' hok hns (A4 hs' (U3 F) hc fun _=>hz) a ha
 ·rintro e a w ⟨f,hf,hP⟩;cases e with
  | normal=>exact ⟨f,hf,k _ _ hP⟩
  | panic c=>exact ⟨f,hf,kp _ _ _ hP⟩
  | _=>exact hP.elim
theorem RD (z m:Nat) (Lc Lz:List (Option Nat×Obj)) (hs:HS w0 F0 w F L) (Post:Fr->World->Prop)
  (h:∀ w',HS w0 F0 w' F L->DWP P n (J8 c) (fun _ _ _=>False) Post z (DZ F Lc Lz) m (fls m) f w') (k:∀ f w,Post f w->Q .normal f w) (hm:P.follows .mixedOrders=true:=by kernel_rfl) (ho:TB P n m c=true:=by kernel_rfl) (hc:∀ p,p∈Lc->p∈L:=by simp) (hz:∀ p,p∈Lz->p∈L:=by simp):CWP P ro n c Q f w:=
 RDP z m Lc Lz hs (fun _ _ _=>False) Post h k (fun _ _ _ h=>h.elim) hm ho hc hz
variable {α : Type} {T : Ty α} {E : TypeId} {a : Vq} {cap : Nat} {ls m : List α}
theorem Gj {b:Nat} {C:Array Value} {E:TypeId} (C':Array Value) (hs:HS w0 F0 w F ((some b,.cells C E (0,0))::L)) (hle:U2 Fs F) (k:∀ w',HS w0 F0 w' F ((some b,.cells C' E (0,0))::L)->DWP P n R PQ Post z (DZ Fs Lc Lz) fuel (l.set i true) f w')
  (hx:fev f (stX (Ag R i))=.pointer (some ⟨b,pO (fev f (stX (Ag R i))),none⟩):=by kernel_rfl) (hC:BD C (pO (fev f (stX (Ag R i)))) (fev f (stY (Ag R i))).cells.toList=C':=by kernel_rfl)
  (ho:(ung R i&&(Hb (Ag R i)&&(CX P (stT (Ag R i)) (fev f (stY (Ag R i))) (pO (fev f (stX (Ag R i)))) C&&(match A5 R i with | none=>true | some _=>false))))=true:=by kernel_rfl)
  (hL:∀ p,p∈Lc->p∈(some b,.cells C' E (0,0))::L:=by simp) (hLz:(l.set i true).toArray.getD z true=false->∀ p,p∈Lz->p∈(some b,.cells C' E (0,0))::L:=by first | (intro _;simp;done) | exact zdT (by kernel_rfl)):Ay P n R PQ Post z (DZ Fs Lc Lz) fuel l i f w:=by
 simp only [Bool.and_eq_true] at ho;obtain ⟨h1,h2,h3,h4⟩:=ho;have e:=Dq h2;have:=A9 h1;cases hd:A5 R i with
 | some d=>rw [hd] at h4;cases h4
 | none=>
  rw [hd] at this;have hp:=hs.put (k:=0) rfl (.cells C' E (0,0));refine Vd rfl rfl this rfl ?_ (A4 hp hle hL hLz) (k _ hp);have hr:=GI (P:=P) (ty:=E9 R i) (w:=w) hx (hs.ownAt (k:=0) rfl) h3 hC;rw [<-e] at hr;exact hr
theorem Kq {e0:Option Nat×Obj} {b:Nat} {C:Array Value} {E:TypeId} (C':Array Value) (hs:HS w0 F0 w F (e0::(some b,.cells C E (0,0))::L)) (hle:U2 Fs F) (k:∀ w',HS w0 F0 w' F (e0::(some b,.cells C' E (0,0))::L)->DWP P n R PQ Post z (DZ Fs Lc Lz) fuel (l.set i true) f w')
  (hx:fev f (stX (Ag R i))=.pointer (some ⟨b,pO (fev f (stX (Ag R i))),none⟩):=by kernel_rfl) (hC:BD C (pO (fev f (stX (Ag R i)))) (fev f (stY (Ag R i))).cells.toList=C':=by kernel_rfl)
  (ho:(ung R i&&(Hb (Ag R i)&&(CX P (stT (Ag R i)) (fev f (stY (Ag R i))) (pO (fev f (stX (Ag R i)))) C&&(match A5 R i with | none=>true | some _=>false))))=true:=by kernel_rfl)
  (hL:∀ p,p∈Lc->p∈e0::(some b,.cells C' E (0,0))::L:=by simp) (hLz:(l.set i true).toArray.getD z true=false->∀ p,p∈Lz->p∈e0::(some b,.cells C' E (0,0))::L:=by first | (intro _;simp;done) | exact zdT (by kernel_rfl)):Ay P n R PQ Post z (DZ Fs Lc Lz) fuel l i f w:=by
 simp only [Bool.and_eq_true] at ho;obtain ⟨h1,h2,h3,h4⟩:=ho;have e:=Dq h2;have:=A9 h1;cases hd:A5 R i with
 | some d=>rw [hd] at h4;cases h4
 | none=>
  rw [hd] at this;have hp:=hs.put (k:=1) rfl (.cells C' E (0,0));refine Vd rfl rfl this rfl ?_ (A4 hp hle hL hLz) (k _ hp);have hr:=GI (P:=P) (ty:=E9 R i) (w:=w) hx (hs.ownAt (k:=1) rfl) h3 hC;rw [<-e] at hr;exact hr
theorem UX {e0:Option Nat×Obj} {a2:Vq} (h1:T.One) (hs:HS w0 F0 w F (e0::e::L)) (hr:Ao T E F a cap ls e) (hm:Rd T F w a2 m) {r:List α} (hap:Cz ls m=some r) (hle:U2 Fs F)
  (k:∀ a' cap' e' w',HS w0 F0 w' F (e0::e'::L)->Ao T E F a' cap' r e'->DWP P n R PQ Post z (DZ Fs Lc Lz) fuel (l.set i true) (AZ f (A5 R i) (.slice a' r.length cap')) w')
  (hx:fev f (apX (Ag R i))=.slice a ls.length cap:=by kernel_rfl) (hy:fev f (apY (Ag R i))=.slice a2 m.length (sC (fev f (apY (Ag R i)))):=by kernel_rfl) (ho:(ung R i&&apK P E T.sz (Ag R i))=true:=by kernel_rfl)
  (hL:∀ e' p,p∈Lc->p∈e0::e'::L:=by (intro _;simp)) (hLz:(l.set i true).toArray.getD z true=false->∀ e' p,p∈Lz->p∈e0::e'::L:=by first | (intro _ _;simp;done) | exact zdT (by kernel_rfl)):Ay P n R PQ Post z (DZ Fs Lc Lz) fuel l i f w:=by
 simp only [Bool.and_eq_true] at ho;obtain ⟨t,t2,by_,zz,e1,he,hb,hni,hz,hzs⟩:=Fw ho.2;have:=A9 ho.1;rw [e1] at this;exact Ay.append rfl rfl this rfl hx hy he hb hni hz hzs h1 hs (k:=1) rfl hr hm hap hle hL hLz k
theorem MR {e0 e1:Option Nat×Obj} {b:Nat} {C:Array Value} {E:TypeId} (C':Array Value) (hs:HS w0 F0 w F (e0::e1::(some b,.cells C E (0,0))::L)) (hle:U2 Fs F) (k:∀ w',HS w0 F0 w' F (e0::e1::(some b,.cells C' E (0,0))::L)->DWP P n R PQ Post z (DZ Fs Lc Lz) fuel (l.set i true) f w')
  (hx:fev f (stX (Ag R i))=.pointer (some ⟨b,pO (fev f (stX (Ag R i))),none⟩):=by kernel_rfl) (hC:BD C (pO (fev f (stX (Ag R i)))) (fev f (stY (Ag R i))).cells.toList=C':=by kernel_rfl)
  (ho:(ung R i&&(Hb (Ag R i)&&(CX P (stT (Ag R i)) (fev f (stY (Ag R i))) (pO (fev f (stX (Ag R i)))) C&&(match A5 R i with | none=>true | some _=>false))))=true:=by kernel_rfl)
  (hL:∀ p,p∈Lc->p∈e0::e1::(some b,.cells C' E (0,0))::L:=by simp) (hLz:(l.set i true).toArray.getD z true=false->∀ p,p∈Lz->p∈e0::e1::(some b,.cells C' E (0,0))::L:=by first | (intro _;simp;done) | exact zdT (by kernel_rfl)):Ay P n R PQ Post z (DZ Fs Lc Lz) fuel l i f w:=by
 simp only [Bool.and_eq_true] at ho;obtain ⟨h1,h2,h3,h4⟩:=ho;have e:=Dq h2;have:=A9 h1;cases hd:A5 R i with
 | some d=>rw [hd] at h4;cases h4
 | none=>
  rw [hd] at this;have hp:=hs.put (k:=2) rfl (.cells C' E (0,0));refine Vd rfl rfl this rfl ?_ (A4 hp hle hL hLz) (k _ hp);have hr:=GI (P:=P) (ty:=E9 R i) (w:=w) hx (hs.ownAt (k:=2) rfl) h3 hC;rw [<-e] at hr;exact hr
theorem Tl {e0 e1 e2:Option Nat×Obj} {b:Nat} {C:Array Value} {E:TypeId} (C':Array Value) (hs:HS w0 F0 w F (e0::e1::e2::(some b,.cells C E (0,0))::L)) (hle:U2 Fs F) (k:∀ w',HS w0 F0 w' F (e0::e1::e2::(some b,.cells C' E (0,0))::L)->DWP P n R PQ Post z (DZ Fs Lc Lz) fuel (l.set i true) f w')
  (hx:fev f (stX (Ag R i))=.pointer (some ⟨b,pO (fev f (stX (Ag R i))),none⟩):=by kernel_rfl) (hC:BD C (pO (fev f (stX (Ag R i)))) (fev f (stY (Ag R i))).cells.toList=C':=by kernel_rfl)
  (ho:(ung R i&&(Hb (Ag R i)&&(CX P (stT (Ag R i)) (fev f (stY (Ag R i))) (pO (fev f (stX (Ag R i)))) C&&(match A5 R i with | none=>true | some _=>false))))=true:=by kernel_rfl)
  (hL:∀ p,p∈Lc->p∈e0::e1::e2::(some b,.cells C' E (0,0))::L:=by simp) (hLz:(l.set i true).toArray.getD z true=false->∀ p,p∈Lz->p∈e0::e1::e2::(some b,.cells C' E (0,0))::L:=by first | (intro _;simp;done) | exact zdT (by kernel_rfl)):Ay P n R PQ Post z (DZ Fs Lc Lz) fuel l i f w:=by
 simp only [Bool.and_eq_true] at ho;obtain ⟨h1,h2,h3,h4⟩:=ho;have e:=Dq h2;have:=A9 h1;cases hd:A5 R i with
 | some d=>rw [hd] at h4;cases h4
 | none=>
  rw [hd] at this;have hp:=hs.put (k:=3) rfl (.cells C' E (0,0));refine Vd rfl rfl this rfl ?_ (A4 hp hle hL hLz) (k _ hp);have hr:=GI (P:=P) (ty:=E9 R i) (w:=w) hx (hs.ownAt (k:=3) rfl) h3 hC;rw [<-e] at hr;exact hr
theorem UW {e0 e1 e2:Option Nat×Obj} {a2:Vq} (h1:T.One) (hs:HS w0 F0 w F (e0::e1::e2::e::L)) (hr:Ao T E F a cap ls e) (hm:Rd T F w a2 m) {r:List α} (hap:Cz ls m=some r) (hle:U2 Fs F)
  (k:∀ a' cap' e' w',HS w0 F0 w' F (e0::e1::e2::e'::L)->Ao T E F a' cap' r e'->DWP P n R PQ Post z (DZ Fs Lc Lz) fuel (l.set i true) (AZ f (A5 R i) (.slice a' r.length cap')) w')
  (hx:fev f (apX (Ag R i))=.slice a ls.length cap:=by kernel_rfl) (hy:fev f (apY (Ag R i))=.slice a2 m.length (sC (fev f (apY (Ag R i)))):=by kernel_rfl) (ho:(ung R i&&apK P E T.sz (Ag R i))=true:=by kernel_rfl)
  (hL:∀ e' p,p∈Lc->p∈e0::e1::e2::e'::L:=by (intro _;simp)) (hLz:(l.set i true).toArray.getD z true=false->∀ e' p,p∈Lz->p∈e0::e1::e2::e'::L:=by first | (intro _ _;simp;done) | exact zdT (by kernel_rfl)):Ay P n R PQ Post z (DZ Fs Lc Lz) fuel l i f w:=by
 simp only [Bool.and_eq_true] at ho;obtain ⟨t,t2,by_,zz,e1,he,hb,hni,hz,hzs⟩:=Fw ho.2;have:=A9 ho.1;rw [e1] at this;exact Ay.append rfl rfl this rfl hx hy he hb hni hz hzs h1 hs (k:=3) rfl hr hm hap hle hL hLz k
theorem UC {e0 e1 e2 e3:Option Nat×Obj} {b:Nat} {C:Array Value} {E:TypeId} (C':Array Value) (hs:HS w0 F0 w F (e0::e1::e2::e3::(some b,.cells C E (0,0))::L)) (hle:U2 Fs F) (k:∀ w',HS w0 F0 w' F (e0::e1::e2::e3::(some b,.cells C' E (0,0))::L)->DWP P n R PQ Post z (DZ Fs Lc Lz) fuel (l.set i true) f w')
  (hx:fev f (stX (Ag R i))=.pointer (some ⟨b,pO (fev f (stX (Ag R i))),none⟩):=by kernel_rfl) (hC:BD C (pO (fev f (stX (Ag R i)))) (fev f (stY (Ag R i))).cells.toList=C':=by kernel_rfl)
  (ho:(ung R i&&(Hb (Ag R i)&&(CX P (stT (Ag R i)) (fev f (stY (Ag R i))) (pO (fev f (stX (Ag R i)))) C&&(match A5 R i with | none=>true | some _=>false))))=true:=by kernel_rfl)
  (hL:∀ p,p∈Lc->p∈e0::e1::e2::e3::(some b,.cells C' E (0,0))::L:=by simp) (hLz:(l.set i true).toArray.getD z true=false->∀ p,p∈Lz->p∈e0::e1::e2::e3::(some b,.cells C' E (0,0))::L:=by first | (intro _;simp;done) | exact zdT (by kernel_rfl)):Ay P n R PQ Post z (DZ Fs Lc Lz) fuel l i f w:=by
 simp only [Bool.and_eq_true] at ho;obtain ⟨h1,h2,h3,h4⟩:=ho;have e:=Dq h2;have:=A9 h1;cases hd:A5 R i with
 | some d=>rw [hd] at h4;cases h4
 | none=>
  rw [hd] at this;have hp:=hs.put (k:=4) rfl (.cells C' E (0,0));refine Vd rfl rfl this rfl ?_ (A4 hp hle hL hLz) (k _ hp);have hr:=GI (P:=P) (ty:=E9 R i) (w:=w) hx (hs.ownAt (k:=4) rfl) h3 hC;rw [<-e] at hr;exact hr
theorem QX {e0 e1 e2 e3 e4:Option Nat×Obj} {b:Nat} {C:Array Value} {E:TypeId} (C':Array Value) (hs:HS w0 F0 w F (e0::e1::e2::e3::e4::(some b,.cells C E (0,0))::L)) (hle:U2 Fs F) (k:∀ w',HS w0 F0 w' F (e0::e1::e2::e3::e4::(some b,.cells C' E (0,0))::L)->DWP P n R PQ Post z (DZ Fs Lc Lz) fuel (l.set i true) f w')
  (hx:fev f (stX (Ag R i))=.pointer (some ⟨b,pO (fev f (stX (Ag R i))),none⟩):=by kernel_rfl) (hC:BD C (pO (fev f (stX (Ag R i)))) (fev f (stY (Ag R i))).cells.toList=C':=by kernel_rfl)
  (ho:(ung R i&&(Hb (Ag R i)&&(CX P (stT (Ag R i)) (fev f (stY (Ag R i))) (pO (fev f (stX (Ag R i)))) C&&(match A5 R i with | none=>true | some _=>false))))=true:=by kernel_rfl)
  (hL:∀ p,p∈Lc->p∈e0::e1::e2::e3::e4::(some b,.cells C' E (0,0))::L:=by simp) (hLz:(l.set i true).toArray.getD z true=false->∀ p,p∈Lz->p∈e0::e1::e2::e3::e4::(some b,.cells C' E (0,0))::L:=by first | (intro _;simp;done) | exact zdT (by kernel_rfl)):Ay P n R PQ Post z (DZ Fs Lc Lz) fuel l i f w:=by
 simp only [Bool.and_eq_true] at ho;obtain ⟨h1,h2,h3,h4⟩:=ho;have e:=Dq h2;have:=A9 h1;cases hd:A5 R i with
 | some d=>rw [hd] at h4;cases h4
 | none=>
  rw [hd] at this;have hp:=hs.put (k:=5) rfl (.cells C' E (0,0));refine Vd rfl rfl this rfl ?_ (A4 hp hle hL hLz) (k _ hp);have hr:=GI (P:=P) (ty:=E9 R i) (w:=w) hx (hs.ownAt (k:=5) rfl) h3 hC;rw [<-e] at hr;exact hr
theorem Tk {e0 e1 e2 e3 e4 e5:Option Nat×Obj} {b:Nat} {C:Array Value} {E:TypeId} (C':Array Value) (hs:HS w0 F0 w F (e0::e1::e2::e3::e4::e5::(some b,.cells C E (0,0))::L)) (hle:U2 Fs F) (k:∀ w',HS w0 F0 w' F (e0::e1::e2::e3::e4::e5::(some b,.cells C' E (0,0))::L)->DWP P n R PQ Post z (DZ Fs Lc Lz) fuel (l.set i true) f w')
  (hx:fev f (stX (Ag R i))=.pointer (some ⟨b,pO (fev f (stX (Ag R i))),none⟩):=by kernel_rfl) (hC:BD C (pO (fev f (stX (Ag R i)))) (fev f (stY (Ag R i))).cells.toList=C':=by kernel_rfl)
  (ho:(ung R i&&(Hb (Ag R i)&&(CX P (stT (Ag R i)) (fev f (stY (Ag R i))) (pO (fev f (stX (Ag R i)))) C&&(match A5 R i with | none=>true | some _=>false))))=true:=by kernel_rfl)
  (hL:∀ p,p∈Lc->p∈e0::e1::e2::e3::e4::e5::(some b,.cells C' E (0,0))::L:=by simp) (hLz:(l.set i true).toArray.getD z true=false->∀ p,p∈Lz->p∈e0::e1::e2::e3::e4::e5::(some b,.cells C' E (0,0))::L:=by first | (intro _;simp;done) | exact zdT (by kernel_rfl)):Ay P n R PQ Post z (DZ Fs Lc Lz) fuel l i f w:=by
 simp only [Bool.and_eq_true] at ho;obtain ⟨h1,h2,h3,h4⟩:=ho;have e:=Dq h2;have:=A9 h1;cases hd:A5 R i with
 | some d=>rw [hd] at h4;cases h4
 | none=>
  rw [hd] at this;have hp:=hs.put (k:=6) rfl (.cells C' E (0,0));refine Vd rfl rfl this rfl ?_ (A4 hp hle hL hLz) (k _ hp);have hr:=GI (P:=P) (ty:=E9 R i) (w:=w) hx (hs.ownAt (k:=6) rfl) h3 hC;rw [<-e] at hr;exact hr
theorem UV {e0 e1 e2 e3 e4 e5 e6:Option Nat×Obj} {b:Nat} {C:Array Value} {E:TypeId} (C':Array Value) (hs:HS w0 F0 w F (e0::e1::e2::e3::e4::e5::e6::(some b,.cells C E (0,0))::L)) (hle:U2 Fs F) (k:∀ w',HS w0 F0 w' F (e0::e1::e2::e3::e4::e5::e6::(some b,.cells C' E (0,0))::L)->DWP P n R PQ Post z (DZ Fs Lc Lz) fuel (l.set i true) f w')
  (hx:fev f (stX (Ag R i))=.pointer (some ⟨b,pO (fev f (stX (Ag R i))),none⟩):=by kernel_rfl) (hC:BD C (pO (fev f (stX (Ag R i)))) (fev f (stY (Ag R i))).cells.toList=C':=by kernel_rfl)
  (ho:(ung R i&&(Hb (Ag R i)&&(CX P (stT (Ag R i)) (fev f (stY (Ag R i))) (pO (fev f (stX (Ag R i)))) C&&(match A5 R i with | none=>true | some _=>false))))=true:=by kernel_rfl)
  (hL:∀ p,p∈Lc->p∈e0::e1::e2::e3::e4::e5::e6::(some b,.cells C' E (0,0))::L:=by simp) (hLz:(l.set i true).toArray.getD z true=false->∀ p,p∈Lz->p∈e0::e1::e2::e3::e4::e5::e6::(some b,.cells C' E (0,0))::L:=by first | (intro _;simp;done) | exact zdT (by kernel_rfl)):Ay P n R PQ Post z (DZ Fs Lc Lz) fuel l i f w:=by
 simp only [Bool.and_eq_true] at ho;obtain ⟨h1,h2,h3,h4⟩:=ho;have e:=Dq h2;have:=A9 h1;cases hd:A5 R i with
 | some d=>rw [hd] at h4;cases h4
 | none=>
  rw [hd] at this;have hp:=hs.put (k:=7) rfl (.cells C' E (0,0));refine Vd rfl rfl this rfl ?_ (A4 hp hle hL hLz) (k _ hp);have hr:=GI (P:=P) (ty:=E9 R i) (w:=w) hx (hs.ownAt (k:=7) rfl) h3 hC;rw [<-e] at hr;exact hr
end
theorem YP.mono {P:Program} {l:Nat} {args:List Value} {w:World} {S S':Ending->World->Prop} (h:YP P l args w S) (hi:∀ e w',S e w'->S' e w'):YP P l args w S':=
 let ⟨fn,t,a,b,h1,h2⟩:=h;⟨fn,t,a,b,h1,h2.mono hi⟩
section
variable {P : Program} {w : World} {ρ : Operand -> Value} {ty : TypeId}
def R7 (P:Program) (t:TypeId) (parts:List (Nat×Value)):Option (List Value):=
 match P.underlying t,Bn P t with
 | some (.array _ e),some z=>match P.info? e with
  | some i=>match Instr.fill (fun k=>some (k * i.size,i.size)) z.cells parts with
   | some cs=>some cs.toList
   | none=>none
  | none=>none
 | _,_=>none
theorem IP {t:TypeId} {parts:Array (Nat×Operand)} {vs:List (Nat×Value)} {cs:List Value} (hv:parts.toList.map (fun p=>(p.1,ρ p.2))=vs) (hb:R7 P t vs=some cs):
  (Ak ρ (.build t parts) ty).run P w=.ok (.value (.agg cs.toArray)) w:=by
 subst hv;unfold R7 at hb;split at hb
 ·rename_i n e z hu hz;split at hb
  ·rename_i i hi;split at hb
   ·rename_i cs' hfill;simp only [Option.some.injEq] at hb;subst hb;have e1:Ak ρ (.build t parts) ty=(do pure (Next.value (<-Instr.build t (parts.map fun (i,x)=>(i,ρ x))))):=rfl;have hzv:(zeroValue t).run P w=.ok z w:=by
     unfold Bn at hz;split at hz
     ·rename_i i hi;simp [zeroValue,typeInfo,hi,hz]
     ·cases hz
    rw [e1];simp only [Instr.build,Sem.run_bind,hzv,Result.andThen_ok,run_underlying hu,CS hi];have hl:(parts.map fun (i,x)=>(i,ρ x)).toList=parts.toList.map (fun p=>(p.1,ρ p.2)):=by simp
    rw [hl,hfill];simp
   ·cases hb
  ·cases hb
 ·cases hb
theorem PV {t E:TypeId} {len:Nat} {x y:Operand} {k:IntKind} {i:Int} {cs:List Value} {v:Value} (hx:ρ x=.agg cs.toArray) (hy:ρ y=.int k i) (hu:P.underlying t=some (.array len E)) (ht:D4 P E=some (false,1)) (hlen:cs.length=len) (hv:idx cs i=some v):
  (Ak ρ (.index t x y) ty).run P w=.ok (.value v) w:=by
 obtain ⟨⟨h0,h1⟩,h2⟩:=Aq hv;have hc:Al cs.toArray (i.toNat * 1) 1=[v]:=by
  rw [Nat.mul_one];exact HJ.2 (by simpa using h2)
 have hp:=Gk (P:=P) (t:=E) (C:=cs.toArray) (o:=i.toNat * 1) ht (by rw [hc];rfl) (.inr rfl) w;rw [hc] at hp;simp only [Ak,execOp,hx,hy,Instr.index,asIntOf,Sem.run_bind,Sem.run_pure,Result.andThen_ok,run_underlying hu,CL ht];rw [if_pos (show 0<=i/\i < (len:Int) by omega)];simp only [Sem.run_bind,CL ht,Result.andThen_ok];rw [hp];rfl
theorem Oz {α:Type} {f:α->Value} {l:List α} {i:Int} {x:α} (h:idx l i=some x):idx (l.map f) i=some (f x):=by
 obtain ⟨⟨h0,h1⟩,h2⟩:=Aq h;unfold idx;rw [if_pos h0,List.getElem?_map,h2];rfl
def toB (l:List Int):Vp:=l.map fun n=>UInt8.ofNat n.toNat
theorem Mc:∀ (ns:List Int) (A:Array UInt8),ns.foldl (fun r n=>ByteArray.push r (UInt8.ofNat n.toNat)) ⟨A⟩=⟨A++(toB ns).toArray⟩
 | [],A=>by simp [toB]
 | n::ns,A=>by
  rw [List.foldl_cons];have:ByteArray.push ⟨A⟩ (UInt8.ofNat n.toNat)=⟨A.push (UInt8.ofNat n.toNat)⟩:=rfl;rw [this,Mc ns];simp [toB]
theorem SI {w0:World} {F0 F:Mem} {L:Own} {s d E:TypeId} {x:Operand} {a:Vq} {cap q:Nat} {l:List Int} {e:Option Nat×Obj} (hx:ρ x=.slice a l.length cap) (hs:P.underlying s=some (.slice E)) (hE:P.underlying E=some (.int .u8)) (hd:P.underlying d=some .string)
  (hh:HS w0 F0 w F L) (hq:L[q]? =some e) (hr:Ao tU8 E F a cap l e):(Ak ρ (.convert s d x) ty).run P w=.ok (.value (.string ⟨(toB l).toArray⟩)) w:=by
 have e1:Ak ρ (.convert s d x) ty=(do pure (Next.value (<-convert s d (ρ x)))):=rfl;rw [e1,hx,Sem.run_bind,run_convert_bytes_string w s d E a l.length cap hs hE hd];rcases hr.2 with ⟨rfl,rfl,rfl,_⟩ | ⟨b,C,rfl,rfl,hc,hsz,hR⟩
 ·rfl
 ·have hb:=hh.ownAt hq;have hl:=run_loadCells_list (P:=P) (w:=w) ⟨b,0,none⟩ (l.map (Value.int .u8)) (fun j v hj=>by
   rw [List.getElem?_map] at hj;cases hlj:l[j]? with
   | none=>rw [hlj] at hj;cases hj
   | some n=>
    rw [hlj] at hj;cases hj;have h1:Al C (j * 1) 1=[.int .u8 n]:=hR j n hlj;rw [Nat.mul_one] at h1;have h2:=HJ.1 h1;rw [Addr.add_lit];simp [World.cell?,hb,h2])
  rw [List.length_map] at hl;have h2:=run_bytesToString (P:=P) w ⟨b,0,none⟩ l.length cap l (by rw [hl]);rw [h2,show ByteArray.empty=⟨#[]⟩ from rfl,Mc];simp [Result.andThen]
end
section
variable {P : Program} {n : Nat} {R : Array Oper} {f : Fr} {w : World} {PQ : List PanicEntry -> List Deferred -> World -> Prop} {Post : Fr -> World -> Prop} {z : Nat} {fuel : Nat} {l l' : List Bool} {zd : Bool} {i : Nat} {dst : Option Nat} {ty : TypeId} {g : Option (Nat × Bool)}
theorem Ay.callO {w0:World} {F0 F Fs:Mem} {L Lc Lz:List (Option Nat×Obj)} {f0:Operand} {aos:Array Operand} {ats:Array TypeId} {fid:FuncId} {first cap:Array Value} {args:List Value} {post:Mem->Value->Own->Prop}
  (hl:l.set i true=l') (hzd:l'.toArray.getD z true=zd) (h0:l.toArray.getD z true=zd)
  (ho:opq R i=some (dst,.call {callee:=.value f0,args:=aos,argTypes:=ats},ty,g)) (hg:gd R f g=true) (hf:fev f f0=.func (.func fid) first cap) (hok:Af P fid)
  (ha:first.toList++aos.toList.map (fev f)++cap.toList=args) (hs:HS w0 F0 w F L) (hc:Calls P fid args.toArray w (KM w F post))
  (k:∀ v F1 w1 L',HS w0 F0 w1 F1 (L'++L)->U2 F F1->post F1 v L'->DWP P n R PQ Post z (DZ Fs Lc Lz) fuel l' (AZ f dst v) w1):Ay P n R PQ Post z (DZ Fs Lc Lz) fuel l i f w:=by
 intro hokR hns hS a haf;obtain ⟨o,hR,hd,hop,hty,hgd⟩:=Ct ho;unfold FD wpOpIn;simp only [hR];rw [haf.wanted R o,hgd,hg];simp only [if_true];refine ⟨Bl,?_⟩;show o.uponIn (FW none) 0 P a _ _ ((execOp a.eval o).run P w);rw [Ck,haf.evalF,hop,hty,DF hf hok ha];simp only [Oper.uponIn];refine ⟨(fun h=>by cases h),(DX hc).mono ?_⟩;rintro e w' ⟨r,F',L',rfl,h1,h2⟩;simp only;rw [h0] at hS;have hS':DZ Fs Lc Lz zd w':=hS.keep h1.keep;rw [hl,hd,hzd];exact ⟨hS',k r F' w' L' (hs.callO h1) h1.le h2 hokR hns (by rw [hzd];exact hS') _ (haf.put (by rw [<-hd];exact DL hokR hR) r)⟩
theorem Ay.callS {Fs:Mem} {Lc Lz:Own} {f0:Operand} {aos:Array Operand} {ats:Array TypeId} {fid:FuncId} {first cap:Array Value} {args:List Value} {S:Ending->World->Prop}
  (hl:l.set i true=l') (hzd:l'.toArray.getD z true=zd)
  (ho:opq R i=some (dst,.call {callee:=.value f0,args:=aos,argTypes:=ats},ty,g)) (hg:gd R f g=true) (hf:fev f f0=.func (.func fid) first cap) (hok:Af P fid)
  (ha:first.toList++aos.toList.map (fev f)++cap.toList=args) (hc:Calls P fid args.toArray w S)
  (k:∀ e w',S e w'->∃ v,e=.returned v/\DZ Fs Lc Lz zd w'/\DWP P n R PQ Post z (DZ Fs Lc Lz) fuel l' (AZ f dst v) w'):Ay P n R PQ Post z (DZ Fs Lc Lz) fuel l i f w:=by
 intro hokR hns hS a haf;obtain ⟨o,hR,hd,hop,hty,hgd⟩:=Ct ho;unfold FD wpOpIn;simp only [hR];rw [haf.wanted R o,hgd,hg];simp only [if_true];refine ⟨Bl,?_⟩;show o.uponIn (FW none) 0 P a _ _ ((execOp a.eval o).run P w);rw [Ck,haf.evalF,hop,hty,DF hf hok ha];simp only [Oper.uponIn];refine ⟨(fun h=>by cases h),(DX hc).mono ?_⟩;intro e w' he;obtain ⟨v,rfl,hS',hk⟩:=k e w' he;simp only;rw [hl,hd,hzd];exact ⟨hS',hk hokR hns (by rw [hzd];exact hS') _ (haf.put (by rw [<-hd];exact DL hokR hR) v)⟩
theorem Ay.callLentP {w0:World} {F0 F Fs:Mem} {L Lc Lz:List (Option Nat×Obj)} {f0:Operand} {aos:Array Operand} {ats:Array TypeId} {fid:FuncId} {first cap:Array Value} {args:List Value} {q:Nat} {e:Option Nat×Obj} {v0:Value}
  (hl:l.set i true=l') (hzd:l'.toArray.getD z true=zd) (h0:l.toArray.getD z true=zd)
  (ho:opq R i=some (dst,.call {callee:=.value f0,args:=aos,argTypes:=ats},ty,g)) (hg:gd R f g=true) (hf:fev f f0=.func (.func fid) first cap) (hok:Af P fid)
  (ha:first.toList++aos.toList.map (fev f)++cap.toList=args) (hs:HS w0 F0 w F L) (hk:L[q]? =some e) (hc:Calls P fid args.toArray w (AF w (GZ F e) fun _ v=>v=v0))
  (k:∀ F1 w1,HS w0 F0 w1 F1 L->U2 F F1->DWP P n R PQ Post z (DZ Fs Lc Lz) fuel l' (AZ f dst v0) w1):Ay P n R PQ Post z (DZ Fs Lc Lz) fuel l i f w:=by
 intro hokR hns hS a haf;obtain ⟨o,hR,hd,hop,hty,hgd⟩:=Ct ho;unfold FD wpOpIn;simp only [hR];rw [haf.wanted R o,hgd,hg];simp only [if_true];refine ⟨Bl,?_⟩;show o.uponIn (FW none) 0 P a _ _ ((execOp a.eval o).run P w);rw [Ck,haf.evalF,hop,hty,DF hf hok ha];simp only [Oper.uponIn];refine ⟨(fun h=>by cases h),(DX hc).mono ?_⟩;rintro e' w' ⟨_,F',rfl,h1,rfl⟩;simp only;rw [h0] at hS;have hS':DZ Fs Lc Lz zd w':=hS.keep h1.keep;obtain ⟨h6,h7⟩:=hs.lentCall hk h1;rw [hl,hd,hzd];exact ⟨hS',k _ w' h6 h7 hokR hns (by rw [hzd];exact hS') _ (haf.put (by rw [<-hd];exact DL hokR hR) _)⟩
end
section
variable {P : Program} {n : Nat} {R : Array Oper} {Q : Exit -> Fr -> World -> Prop} {w w0 : World} {F0 F : Mem} {L : Own} {f : Fr} {i : Nat} {rest : List Nat} {dst : Option Nat} {ty : TypeId} {g : Option (Nat × Bool)} {ro : Option Nat}
theorem RWP.callLentP {f0:Operand} {aos:Array Operand} {ats:Array TypeId} {fid:FuncId} {first cap:Array Value} {args:List Value} {q:Nat} {e:Option Nat×Obj} {v0:Value}
  (ho:opq R i=some (dst,.call {callee:=.value f0,args:=aos,argTypes:=ats},ty,g)) (hg:gd R f g=true) (hf:fev f f0=.func (.func fid) first cap) (hok:Af P fid)
  (ha:first.toList++aos.toList.map (fev f)++cap.toList=args) (hs:HS w0 F0 w F L) (hk:L[q]? =some e)
  (hc:Calls P fid args.toArray w (AF w (GZ F e) fun _ v=>v=v0))
  (k:∀ F1 w1,HS w0 F0 w1 F1 L->U2 F F1->RWP P ro n R Q rest (AZ f dst v0) w1):RWP P ro n R Q (i::rest) f w:=by
 refine U0 ho hg (DF hf hok ha) hc ?_;rintro e w' ⟨_,F',rfl,h1,rfl⟩;obtain ⟨h6,h7⟩:=hs.lentCall hk h1;exact k _ w' h6 h7
end
section
variable {P : Program} {w : World} {ρ : Operand -> Value} {ty : TypeId}
theorem GJ {mt k vt:TypeId} {d:TypeDesc} {m x:Operand} {b clk:Nat} {es:Array MapEntry} {kv v:Value} {j:Nat} (hm:ρ m=.map (some b)) (hx:ρ x=kv) (hu:P.underlying mt=some (.map k vt)) (hk:P.underlying k=some d) (hkey:MapKept.IsKey d kv)
  (hb:w.heap[b]? =some (.map es clk)) (hf:Instr.findNow d kv es.toList 0=some (some (j,v))):(Ak ρ (.lookup mt m x true) ty).run P w=.ok (.value (.tuple #[v,.bool true])) w:=by
 have e:Ak ρ (.lookup mt m x true) ty=(do pure (Next.value (<-Instr.lookup mt (ρ m) (ρ x) true))):=rfl;rw [e,hm,hx];simp [Instr.lookup,run_underlying hu,MapKept.run_getObj_map hb,MapKept.run_checkKey hk hkey,MapKept.run_findKey hk hf,Result.andThen]
theorem Nn {mt k vt:TypeId} {d:TypeDesc} {m x:Operand} {b clk:Nat} {es:Array MapEntry} {kv z:Value} (hm:ρ m=.map (some b)) (hx:ρ x=kv) (hu:P.underlying mt=some (.map k vt)) (hz:Bn P vt=some z) (hk:P.underlying k=some d) (hkey:MapKept.IsKey d kv)
  (hb:w.heap[b]? =some (.map es clk)) (hf:Instr.findNow d kv es.toList 0=some none):(Ak ρ (.lookup mt m x true) ty).run P w=.ok (.value (.tuple #[z,.bool false])) w:=by
 have hzv:(zeroValue vt).run P w=.ok z w:=by
  unfold Bn at hz;split at hz
  ·rename_i i hi;simp [zeroValue,typeInfo,hi,hz]
  ·cases hz
 have e:Ak ρ (.lookup mt m x true) ty=(do pure (Next.value (<-Instr.lookup mt (ρ m) (ρ x) true))):=rfl;rw [e,hm,hx];simp [Instr.lookup,run_underlying hu,MapKept.run_getObj_map hb,MapKept.run_checkKey hk hkey,MapKept.run_findKey hk hf,hzv,Result.andThen]
theorem Pz {x c:Int} {v:Value} {clk i:Nat} {es:List MapEntry} (h:(x==c)=true):Instr.findNow (.int .i64) (.int .i64 x) (⟨.int .i64 c,v,clk⟩::es) i=some (some (i,v)):=by
 simp [Instr.findNow,Instr.sameNow,h]
theorem H8 {x c:Int} {v:Value} {clk i:Nat} {es:List MapEntry} {r:Option (Option (Nat×Value))} (h:(x==c)=false) (k:Instr.findNow (.int .i64) (.int .i64 x) es (i + 1)=r):Instr.findNow (.int .i64) (.int .i64 x) (⟨.int .i64 c,v,clk⟩::es) i=r:=by
 simp only [Instr.findNow,Instr.sameNow,if_true,h];exact k
end
section
variable {P : Program} {w0 w : World} {F0 F : Mem} {L : List (Option Nat × Obj)} {α : Type} {T : Ty α} {E : TypeId} {l m : List α} {b cap : Nat} {C : Array Value}
theorem PK {t t2 ty:TypeId} {by_ c2:Nat} {a2:Vq} (he:A1 P t=some (E,T.sz,by_)) (hni:Ma P t2=true)
  (h1:T.One) (hs:HS w0 F0 w F L) {k:Nat} (hk:L[k]? =some (some b,.cells C E (0,0))) (hr:Ao T E F (some ⟨b,0,none⟩) cap l (some b,.cells C E (0,0))) (hm:Rd T F w a2 m) (hfit:l.length + m.length<=cap) (hlen:l.length + m.length < 4398046511104):
  ∃ C',C'.size=C.size/\(Builtin.append_ #[t,t2] ty #[.slice (some ⟨b,0,none⟩) l.length cap,.slice a2 m.length c2]).run P w=.ok (.slice (some ⟨b,0,none⟩) (l++m).length cap) (Ca w b (.cells C' E (0,0)))/\Ao T E F (some ⟨b,0,none⟩) cap (l++m) (some b,.cells C' E (0,0)):=by
 obtain ⟨i,hu,hi,his,hib⟩:=D2 he;obtain ⟨new,hnew,hload⟩:=hm.load (P:=P) c2;have hnl:=hnew.len;obtain ⟨E2,hd⟩:∃ E2,P.underlying t2=some (.slice E2):=by
  unfold Ma at hni;split at hni
  ·rename_i E2 h;exact ⟨E2,h⟩
  ·cases hni
 unfold Builtin.append_;simp only [List.getElem?_toArray,List.getElem?_cons_zero,List.getElem?_cons_succ,Sem.run_bind,run_underlying hu,Result.andThen_ok,CS hi,his];simp only [run_underlying hd,Result.andThen_ok,Sem.run_pure,Bool.false_eq_true,if_false,Builtin.lenOf];simp only [pure_bind];rw [if_pos hfit];simp only [Bool.not_false,if_true,Sem.run_bind,hload,Result.andThen_ok];rcases hr.2 with ⟨h,_⟩ | ⟨b',C0,hb',hc',hlc,hC,hx⟩
 ·cases h
 ·cases hb';cases hc';have hC1:l.length * T.sz + new.length<=C.size:=by rw [hC,hnl,<-Nat.add_mul];exact Nat.mul_le_mul_right _ hfit
  have hst:=CA (P:=P) E new w b (l.length * T.sz) 0 C (hs.ownAt hk) (by simpa using hC1) (hnew.one h1);refine ⟨BD C (l.length * T.sz) new,BZ _ _ _,?_,?_⟩
  ·simp only [Addr.add_lit,Nat.zero_add];simp only [Nat.add_zero] at hst;rw [hst];simp
  ·have hrow:CI T F l (Al C 0 (l.length * T.sz)):=by
    by_cases hl:l=[]
    ·subst hl;simp [CI,Al]
    ·exact GS hl (fun i x hi=>by rw [Nat.zero_add];exact hx i x hi)
   have hlr:=hrow.len;refine ⟨by simpa using hlen,.inr ⟨b,_,rfl,rfl,by simpa using hfit,by rw [BZ,hC],fun i x hix=>?_⟩⟩;have:=(CI.append hrow hnew).get i x hix;have hii:i < (l++m).length:=by
    rcases Nat.lt_or_ge i (l++m).length with h' | h'
    ·exact h'
    ·rw [List.getElem?_eq_none h'] at hix;cases hix
   have hle:i * T.sz + T.sz<=(Al C 0 (l.length * T.sz)++new).length:=by
    rw [List.length_append,hlr,hnl,<-Nat.add_mul,<-Nat.succ_mul];exact Nat.mul_le_mul_right _ (Nat.succ_le_of_lt (by simpa using hii))
   have e1:Al C 0 (l.length * T.sz)=C.toList.take (l.length * T.sz):=by simp [Al]
   unfold Al;rw [EC hC1];rw [e1] at this hle;rw [List.drop_append_of_le_length (by omega),List.take_append_of_le_length (by simp only [List.length_drop];omega)];exact this
theorem LP {t t2:TypeId} {by_ c2:Nat} {a2:Vq} (he:A1 P t=some (E,T.sz,by_)) (hni:Ma P t2=true)
  (h1:T.One) (hs:HS w0 F0 w F L) {k:Nat} (hk:L[k]? =some (some b,.cells C E (0,0))) (hr:Ao T E F (some ⟨b,0,none⟩) cap l (some b,.cells C E (0,0))) (hm:Rd T F w a2 m) (hfit:l.length + m.length<=cap) (hlen:l.length + m.length < 4398046511104):
  ∃ C',C'.size=C.size/\Ao T E F (some ⟨b,0,none⟩) cap (l++m) (some b,.cells C' E (0,0))/\ ∀ {ρ:Operand->Value} {x y:Operand} {ty:TypeId},ρ x=.slice (some ⟨b,0,none⟩) l.length cap->ρ y=.slice a2 m.length c2->
   (Ak ρ (.call {callee:=.builtin .append,args:=#[x,y],argTypes:=#[t,t2]}) ty).run P w=.ok (.value (.slice (some ⟨b,0,none⟩) (l++m).length cap)) (Ca w b (.cells C' E (0,0))):=by
 have key:=fun ty=>PK (ty:=ty) (c2:=c2) he hni h1 hs hk hr hm hfit hlen;obtain ⟨C',h2,h3,h4⟩:=key 0;refine ⟨C',h2,h4,fun {ρ x y ty} hx hy=>?_⟩;have h5:(Builtin.append_ #[t,t2] ty #[.slice (some ⟨b,0,none⟩) l.length cap,.slice a2 m.length c2]).run P w=.ok (.slice (some ⟨b,0,none⟩) (l++m).length cap) (Ca w b (.cells C' E (0,0))):=h3;have e1:Ak ρ (.call {callee:=.builtin .append,args:=#[x,y],argTypes:=#[t,t2]}) ty=(do pure (Next.value (<-Builtin.append_ #[t,t2] ty (Array.map ρ #[x,y])))):=rfl;rw [e1,map_toArray];simp only [List.map_cons,List.map_nil,hx,hy];rw [Sem.run_bind,h5];rfl
theorem NV {o i:Nat} {vs:List Value} (ho:o + vs.length<=C.size) (hi:i * T.sz + T.sz<=o):Al (BD C o vs) (i * T.sz) T.sz=Al C (i * T.sz) T.sz:=by
 unfold Al;rw [EC ho,List.append_assoc,List.drop_append_of_le_length (by simp;omega),List.take_append_of_le_length (by simp;omega),List.drop_take,List.take_take,Nat.min_eq_left (by omega)]
theorem Nr {t:TypeId} {by_ j k c:Nat} {z:Value} (he:A1 P t=some (E,T.sz,by_)) (hz:Bn P E=some z) (hzs:z.cells.size=T.sz) (h0:z.cells.toList.all (·.oneCell')=true)
  (hb:w.heap[b]? =some (.cells C E (0,0))) (hk:0 < k) (hfit:j * T.sz + k * T.sz<=C.size):
  ∃ vs,vs.length=k * T.sz/\ ∀ {ρ:Operand->Value} {x:Operand} {ty:TypeId},ρ x=.slice (some ⟨b,j * T.sz,none⟩) k c->(Ak ρ (.call {callee:=.builtin .clear,args:=#[x],argTypes:=#[t]}) ty).run P w=.ok (.value (.tuple #[])) (Ca w b (.cells (BD C (j * T.sz) vs) E (0,0))):=by
 obtain ⟨i,hu,hi,his,hib⟩:=D2 he;have hzv:(zeroValue E).run P w=.ok z w:=by
  unfold Bn at hz;rw [hi] at hz;simp [zeroValue,typeInfo,hi,hz]
 have hsz:(Builtin.zeroCells z.cells k).toList.length=k * T.sz:=by simp [Builtin.zeroCells,hzs]
 have hone:(Builtin.zeroCells z.cells k).toList.all (·.oneCell')=true:=by
  rw [List.all_eq_true] at h0 ⊢;intro v hv;simp only [Builtin.zeroCells,Array.toList_map,List.mem_map] at hv;obtain ⟨q,hq,rfl⟩:=hv;have hq':q < k * z.cells.size:=by simpa using hq
  have hpos:0 < z.cells.size:=by
   rcases Nat.eq_zero_or_pos z.cells.size with h | h
   ·rw [h] at hq';simp at hq'
   ·exact h
  have hlt:=Nat.mod_lt q hpos;rw [getElem!_pos z.cells _ hlt];exact h0 _ (by simp)
 have hst:=CA (P:=P) E (Builtin.zeroCells z.cells k).toList w b (j * T.sz) 0 C hb (by rw [hsz];simpa using hfit) hone;refine ⟨(Builtin.zeroCells z.cells k).toList,hsz,fun {ρ x ty} hx=>?_⟩;have e:Ak ρ (.call {callee:=.builtin .clear,args:=#[x],argTypes:=#[t]}) ty=(do pure (Next.value (<-Builtin.clear_ #[t] ty (Array.map ρ #[x])))):=rfl;rw [e,map_toArray];simp only [List.map_cons,List.map_nil,hx];obtain ⟨k',rfl⟩:∃ k',k=k' + 1:=⟨k - 1,by omega⟩;simp only [Nat.add_zero] at hst;simp [Builtin.clear_,run_underlying hu,hzv,hst,Result.andThen]
end
abbrev PC (x:(Vp×Bool)):List Value:=[(.string ⟨(x.1).toArray⟩),(.bool x.2)]
abbrev Rz (_:Mem) (_:(Vp×Bool)):Prop:=True
abbrev Ro (x:(Vp×Bool)):(Vp×Bool):=x
theorem kl9:KL Tryz.prog 9 AV:=KL.ofString (by kernel_rfl)
def Tr (x:An):Value:=.agg #[(.int .i64 x.at_),(.int .i64 x.stage_),(.int .i64 x.num_),(.int .i64 x.minute_)]
def RY (x y:An):Bool:=((x.at_==y.at_)&&((x.stage_==y.stage_)&&((x.num_==y.num_)&&((x.minute_==y.minute_)&&true))))
theorem T1 (x y:An):RY x y=decide (x=y):=by
 rw [Bool.eq_iff_iff];unfold RY;simp only [Bool.and_eq_true,beq_iff_eq,decide_eq_true_eq,and_true];constructor
 ·intro h;obtain ⟨_,_,_,_⟩:=x;obtain ⟨_,_,_,_⟩:=y
  simp_all [An.mk.injEq]
 ·rintro rfl;simp
set_option maxRecDepth 100000 in
theorem Tt:KL Tryz.prog 143 AA:=KL.ofStruct (d:=8) (by decide) Tr (fun h=>by obtain ⟨_,rfl,rfl⟩:=h;rfl) (by kernel_rfl) (fun x=>by kernel_rfl) RY (fun x y=>by kernel_rfl) T1 (fun x=>by simp [Tr,Instr.sameBits,beq_toListBytes])
def AP (N:Nat) (x0:(List AR)) (x1:(AR->Option Bool)):Int->Option (Bm Int Int):=fun h0=>
 (bif (decide (h0 < (x0.length:Int))) then ((idx x0 h0).bind fun h1=>((x1 h1).bind fun h2=>(bif h2 then some (.ret h0) else some (.next (W64 (h0 + 1)))))) else some (.done h0))
def Bq (N:Nat) (x0:(List AR)) (x1:(AR->Option Bool)):Option Int:=
 ((AW (AP N x0 x1) N 0).bind fun o=>o.k (fun r=>some r) (fun h0=>some (-1)))
theorem Dr:Af Tryz.prog 183:=fun _ _=>by kernel_rfl
theorem DA (N:Nat) (w0:World) (F0:Mem) (hF:Vr w0 F0) (x0:(List AR)) (h4:Vq) (h5:Nat) (b6:LC x0.length h5) (hd:SlA HU F0 h4 x0) (h1:FuncId) (h6 h7:List Value) (x1:AR->Option Bool) (he:Af Tryz.prog h1) (hf:O1 F0 h1 h6 h7 x1) (r:Int) (h:Bq N x0 x1=some r):
  Calls Tryz.prog 183 ([(sL h4 x0 h5),(.func (.func h1) h6.toArray h7.toArray)]:List Value).toArray w0 (AF w0 F0 fun F' v=>v=(vi r)):=by
 have hg:=U4 hF;refine Go 19 Tryz.func183<|Sq (Rg [0] ?_);refine Vs 1<|Nss<|Sq (Rg [0,1,2] ?_);refine Vs 3<|Nt ?_;obtain ⟨h9,hh,ha⟩:=bS h;refine U9 (fun f w=>∃ (hb:Int) (F2:Mem),h9=.done hb/\HS w0 F0 w F2 []/\U2 F0 F2/\FI f [] []) ?_ ?_
 ·refine Bk ?_;refine U1 (by kernel_rfl) (fun m f w=>∃ (h0:Int) (F1:Mem),AW (AP N x0 x1) m h0=some h9/\HS w0 F0 w F1 []/\U2 F0 F1/\FI f [] [(0,(sL h4 x0 h5)),(1,(.func (.func h1) h6.toArray h7.toArray)),(7,(vi (x0.length:Int))),(8,(vi h0))]) N ⟨0,F0,hh,hg,(U3 _),fI⟩ ?_;rintro b7 f hk ⟨h0,F1,hl,h2,h3,⟨_,rfl⟩⟩;obtain ⟨hm,b8,rfl,hn,h8⟩:=AM hl;refine Sq (Rg [0] ?_);refine Vs 1<|Nss<|Cd hn (fun ho hp=>?_) (fun ho hq=>?_)
  ·refine Sc ?_;refine Ab<|Sq<|Bk<|Sq (Rg [0,1] ?_);refine Vs 2<|Nss (Rg (rG 6) ?_);refine Vs 3 ?_;obtain ⟨hr,hs,ht⟩:=bS hp;obtain ⟨hu,hx48'⟩:=Aq hs;obtain ⟨b9,ba,bb,bc,bd,rfl,hF57,hE58⟩:=Va (U5 hd h3) hx48';have hv:=hE58 _ _ hx48';refine Ix hu<|Lx 0 (h2.pers _ _ hF57) hv ?_;obtain ⟨be,hw,hx⟩:=bS ht;refine Cq he h2 (hf hk F1 hr _ h3 h2.pers hw) ?_;rintro _ F3 bf hc hy rfl;refine Nt<|Cd hx (fun hz b0=>?_) (fun hz b1=>?_)
   ·refine Sq (Rg [0,1] ?_);refine Vs 2<|Nt<|Rt<|Aw<|Ae<|Ae<|Aw ?_;have hret:=BU b0 h8;subst hret;refine .inr<|Ae ?_;obtain rfl:=Aa ha;exact Re [(vi h0)] hc rfl
   ·refine Sc ?_;refine As<|Ab<|Rg [0,1]<|Vs 2<|UY ?_;have b2:=AN b1 h8;exact ⟨hm,Nat.lt_succ_self _,(W64 (h0 + 1)),F3,b2,hc,(h3.t hy),fI⟩
  ·refine Ex ?_;refine Ar<|Ar<|AC rfl ?_;have b3:=AO hq h8;exact .inl ⟨rfl,h0,F1,b3,h2,h3,fI⟩
 ·rintro f bg ⟨hb,F2,rfl,b4,bh,⟨_,rfl⟩⟩;have b5:=Bv ha;refine Ab<|Sq (Rg [0] ?_);refine Vs 1<|Nt<|Rt ?_;obtain rfl:=Aa b5;exact Re [(vi (-1))] b4 rfl
def A0 (N:Nat) (x0:(List AR)) (x1:(AR->Option Bool)):Option Bool:=
 ((Bq N x0 x1).bind fun h0=>some (decide (h0>=0)))
theorem CY:Af Tryz.prog 137:=fun _ _=>by kernel_rfl
theorem C8 (N:Nat) (w0:World) (F0:Mem) (hF:Vr w0 F0) (x0:(List AR)) (h1:Vq) (h2:Nat) (h6:LC x0.length h2) (h7:SlA HU F0 h1 x0) (h0:FuncId) (h3 h4:List Value) (x1:AR->Option Bool) (h8:Af Tryz.prog h0) (h9:O1 F0 h0 h3 h4 x1) (r:Bool) (h:A0 N x0 x1=some r):
  Calls Tryz.prog 137 ([(sL h1 x0 h2),(.func (.func h0) h3.toArray h4.toArray)]:List Value).toArray w0 (AF w0 F0 fun F' v=>v=(.bool r)):=by
 have h5:=U4 hF;refine Go 9 Tryz.func137<|Sq (Rg [0] ?_);refine Vs 1<|Nss (Rg (rG 5) ?_);refine Vs 2 ?_;obtain ⟨ha,hb,hc⟩:=bS h;refine Cl' Dr h5 (DA N w0 F0 h5.pers x0 h1 h2 h6 h7 h0 h3 h4 x1 h8 (fun w1 F1 y0 r hd he hf=>h9 w1 F1 y0 r hd he hf) _ hb) ?_;rintro _ F1 hh hg hk rfl;refine Vs 2<|Nt<|Rt ?_;obtain rfl:=Aa hc;exact Re [(.bool (decide (ha>=0)))] hg rfl
def CH (N:Nat) (x0:Ac) (x1:Ad):Option (List AR):=
 some [({has_:=x0.Report,n_:=x1.Report,most_:=599,digits_:=1}:AR),({has_:=x0.Serial,n_:=x1.Serial,most_:=99999,digits_:=3}:AR),({has_:=x0.Zone,n_:=x1.Zone,most_:=99,digits_:=2}:AR)]
theorem Ej:Af Tryz.prog 138:=fun _ _=>by kernel_rfl
theorem EV (N:Nat) (w0:World) (F0:Mem) (hF:Vr w0 F0) (x0:Ac) (x1:Ad) (r:(List AR)) (h:CH N x0 x1=some r):
  Calls Tryz.prog 138 ([(.agg (Ah x0)),(.agg (B6 x1))]:List Value).toArray w0 (AF w0 F0 fun F' v=>∃ (h2:Vq) (h3:Nat),v=(sL h2 r h3)/\LC r.length h3/\SlA HU F' h2 r):=by
 have h5:=U4 hF;refine Go 21 Tryz.func138<|Sq (Rg [0,1,2] ?_);refine Bx' 23 (Ah x0) h5 (fun hb hc h6=>?_);refine Bx' 32 (B6 x1) h6 (fun hd he h0=>?_);refine Vs 1<|Nss (Rg (rG 17) ?_);refine Vs 1<|Ld h0.at1<|Vs 1<|Ld h0.at0<|Vs 2<|Ld h0.at1<|Vs 1<|Ld h0.at0<|Vs 2<|Ld h0.at1<|Vs 1<|Ld h0.at0<|Vs 1<|Bs 180 [(.bool x0.Report),(vi x1.Report),(vi 599),(vi 1),(.bool x0.Serial),(vi x1.Serial),(vi 99999),(vi 3),(.bool x0.Zone),(vi x1.Zone),(vi 99),(vi 2)] h0 (fun h1 hf h7=>?_);have h4:Ao HU 180 F0 (some ⟨h1,0,none⟩) 3 [({has_:=x0.Report,n_:=x1.Report,most_:=599,digits_:=1}:AR),({has_:=x0.Serial,n_:=x1.Serial,most_:=99999,digits_:=3}:AR),({has_:=x0.Zone,n_:=x1.Zone,most_:=99,digits_:=2}:AR)] (some h1,.cells ([(.bool x0.Report),(vi x1.Report),(vi 599),(vi 1),(.bool x0.Serial),(vi x1.Serial),(vi 99999),(vi 3),(.bool x0.Zone),(vi x1.Zone),(vi 99),(vi 2)]:List Value).toArray 180 (0,0)):=Vj ⟨rfl,⟨rfl,⟨rfl,rfl⟩⟩⟩ (by simp);refine Vs 1<|Nt<|Rt ?_;have h8:=Vh h4;obtain ⟨F1,h9,hg,ha⟩:=h7.fr0 h4;obtain rfl:=Aa h;exact Re [(.slice (some ⟨h1,0,none⟩) [({has_:=x0.Report,n_:=x1.Report,most_:=599,digits_:=1}:AR),({has_:=x0.Serial,n_:=x1.Serial,most_:=99999,digits_:=3}:AR),({has_:=x0.Zone,n_:=x1.Zone,most_:=99,digits_:=2}:AR)].length 3)] h9 ⟨(some ⟨h1,0,none⟩),3,rfl,h8,ha⟩
def Fx (N:Nat) (x0 x1 x2:Int):Option Bool:=
 some ((decide (x0>=x1))&&(decide (x0<=x2)))
theorem Gg:Af Tryz.prog 140:=fun _ _=>by kernel_rfl
theorem GW (N:Nat) (w0:World) (F0:Mem) (hF:Vr w0 F0) (x0 x1 x2:Int) (r:Bool) (h:Fx N x0 x1 x2=some r):
  Calls Tryz.prog 140 ([(vi x0),(vi x1),(vi x2)]:List Value).toArray w0 (AF w0 F0 fun F' v=>v=(.bool r)):=by
 have h1:=U4 hF;refine Go 15 Tryz.func140<|Sq (Rg [0] ?_);refine Vs 1<|Nss (Rg (rG 9) ?_);refine U8 (fun f w=>∃ (F1:Mem),HS w0 F0 w F1 []/\U2 F0 F1/\FI f [] [(6,(.bool ((decide (x0>=x1))&&(decide (x0<=x2)))))]) ?_ ?_
 ·refine Vs 4 ?_;refine U7 (decide (x0>=x1)) (fun h0=>?_) (fun h0=>?_)
  ·refine Vgs h0 3 ?_;refine Pk1 h0<|Vs 1 ?_;exact UY ⟨rfl,F0,h1,(U3 _),(fJ ⟨(congrArg Value.bool (OW h0 rfl)),trivial⟩)⟩
  ·refine Ss h0 3 ?_;refine Pk0 h0<|Vs 1 ?_;exact UY ⟨rfl,F0,h1,(U3 _),(fJ ⟨(congrArg Value.bool (OX h0 rfl)),trivial⟩)⟩
 ·rintro f h3 ⟨F1,h2,h4,⟨_,rfl⟩⟩;refine Ab<|Rt ?_;obtain rfl:=Aa h;exact Re [(.bool ((decide (x0>=x1))&&(decide (x0<=x2))))] h2 rfl
def B3 (N:Nat) (x0:AR):Option Bool:=
 (((Fx N x0.n_ 1 x0.most_).bind fun h0=>(bif (!(x0.has_==h0)) then some true else (bif (!x0.has_) then some (x0.n_ !=0) else some false))).bind fun h1=>some h1)
theorem GR:Af Tryz.prog 139:=fun _ _=>by kernel_rfl
theorem Hg (N:Nat) (w0:World) (F0:Mem) (hF:Vr w0 F0) (x0:AR) (r:Bool) (h:B3 N x0=some r):
  Calls Tryz.prog 139 ([(.agg (H6 x0))]:List Value).toArray w0 (AF w0 F0 fun F' v=>v=(.bool r)):=by
 have h7:=U4 hF;refine Go 21 Tryz.func139<|Sq (Rg [0,1] ?_);refine Bx' 180 (H6 x0) h7 (fun h1 hl h8=>?_);refine Vs 1<|Nss ?_;obtain ⟨h5,h9,ha⟩:=bS h;refine RD 19 19 [(sb h1 (H6 x0) 180)] [] h8 (fun f w=>∃ (F1:Mem),HS w0 F0 w F1 []/\U2 F0 F1/\FI f [] [(2,(.bool h5))]) (fun hb h6=>?_) ?_
 ·refine Dvl [0] (tf 1 18) ?_;refine Dl 1 (fun _ hq=>(hq.1.2 0 _ _ rfl))<|Dvl [2] (tf 3 16)<|Dl 3 (fun _ hq=>(hq.1.2 0 _ _ rfl))<|Dvl [4] (tf 5 14)<|Dl 5 (fun _ hq=>(hq.1.2 0 _ _ rfl))<|D1 6 ?_;obtain ⟨hm,hc,hd⟩:=bS h9;refine DCl Gg h6 (GW N hb F0 h6.pers x0.n_ 1 x0.most_ _ hc) ?_;rintro _ F2 hn h3 h4 rfl;refine Dvl [7,8] (tf 9 10)<|Sd hd (fun h0 he=>?_) (fun h0 hf=>?_)
  ·refine Dkl [(9,12),(10,13),(11,14),(12,15)] 8 false 11 h0 (tf 13 6) ?_;refine Dul [(13,16),(14,17),(15,18)] 12 true 15 (tf 16 3)<|Dkl [(16,19)] 8 false 11 h0 (tf 17 2)<|Dtl 17 20 4 _ (tf 18 1) (fun _ hq=>p1 11 (.const (.bool true)) (.tmp 19) (.bool true) h0)<|Dvl [18] (tf 19 0) ?_;obtain rfl:=Aa he;exact Vf (by kernel_rfl) ⟨F2,h3.dr0,h4,fI⟩
  ·refine Dgl 9 12 0 (pt h1 0) (tf 10 9) 8 false 11 h0 (fun _ hq=>fa 180 1 0 0 1 h1 0 0) ?_;refine Dgl 10 13 4 _ (tf 11 8) 8 false 11 h0 (fun _ hq=>ld 4 12 h1 0 false 1 (.bool x0.has_) (hq.1.2 0 _ _ rfl))<|Dgl 11 14 4 (.bool (!x0.has_)) (tf 12 7) 8 false 11 h0 (fun _ hq=>Jg (t:=4) (x:=(.tmp 13)) (a:=x0.has_) rfl)<|Dgl 12 15 4 _ (tf 13 6) 8 false 11 h0 (fun _ hq=>mv 14 (.bool (!x0.has_)))<|Sd hf (fun h2 hg=>?_) (fun h2 hh=>?_)
   ·refine Dgl 13 16 0 (pt h1 1) (tf 14 5) 12 true 15 h2 (fun _ hq=>fa 180 1 1 1 1 h1 0 1) ?_;refine Dgl 14 17 3 _ (tf 15 4) 12 true 15 h2 (fun _ hq=>ld 3 16 h1 1 false 1 (vi x0.n_) (hq.1.2 0 _ _ rfl))<|Dgl 15 18 4 (.bool (x0.n_ !=0)) (tf 16 3) 12 true 15 h2 (fun _ hq=>HX (t:=3) (t':=3) (x:=(.tmp 17)) (y:=(.const (vi 0))) (k:=.i64) (a:=x0.n_) (b:=0) rfl rfl)<|Dgl 16 19 4 _ (tf 17 2) 8 false 11 h0 (fun _ hq=>p1 15 (.tmp 18) (.const (.bool false)) (.bool (x0.n_ !=0)) h2)<|Dtl 17 20 4 _ (tf 18 1) (fun _ hq=>p0 11 (.const (.bool true)) (.tmp 19) (.bool (x0.n_ !=0)) h0)<|Dvl [18] (tf 19 0) ?_;obtain rfl:=Aa hg;exact Vf (by kernel_rfl) ⟨F2,h3.dr0,h4,fI⟩
   ·refine Dkl [(13,16),(14,17),(15,18)] 12 true 15 h2 (tf 16 3) ?_;refine Dgl 16 19 4 _ (tf 17 2) 8 false 11 h0 (fun _ hq=>p0 15 (.tmp 18) (.const (.bool false)) (.bool false) h2)<|Dtl 17 20 4 _ (tf 18 1) (fun _ hq=>p0 11 (.const (.bool true)) (.tmp 19) (.bool false) h0)<|Dvl [18] (tf 19 0) ?_;obtain rfl:=Aa hh;exact Vf (by kernel_rfl) ⟨F2,h3.dr0,h4,fI⟩
 ·rintro f ho ⟨F1,hk,hp,⟨_,rfl⟩⟩;refine Ab<|Rt ?_;obtain rfl:=Aa ha;exact Re [(.bool h5)] hk rfl
def B0 (N:Nat) (x0:Ac) (x1:Ad):Option Bool:=
 ((CH N ({Report:=x0.Report,Serial:=x0.Serial,Zone:=x0.Zone}:Ac) ({Report:=x1.Report,Serial:=x1.Serial,Zone:=x1.Zone}:Ad)).bind fun h0=>((A0 N h0 (fun y0=>B3 N y0)).bind fun h1=>some (!h1)))
theorem Dc:Af Tryz.prog 75:=fun _ _=>by kernel_rfl
theorem DC (N:Nat) (w0:World) (F0:Mem) (hF:Vr w0 F0) (x0:Ac) (x1:Ad) (r:Bool) (h:B0 N x0 x1=some r):
  Calls Tryz.prog 75 ([(.agg (Ah x0)),(.agg (B6 x1))]:List Value).toArray w0 (AF w0 F0 fun F' v=>v=(.bool r)):=by
 have h2:=U4 hF;refine Go 10 Tryz.func75<|Sq (Rg [0,1,2] ?_);refine Bx' 23 (Ah x0) h2 (fun hl hm h3=>?_);refine Bx' 32 (B6 x1) h3 (fun hn h4 h0=>?_);refine Vs 1<|Nss (Rg (rG 6) ?_);refine Ld h0.at1<|Ld h0.at0 ?_;obtain ⟨h5,h6,h7⟩:=bS h;refine Cl' Ej h0 (EV N h4 F0 h0.pers (({Report:=x0.Report,Serial:=x0.Serial,Zone:=x0.Zone}:Ac)) (({Report:=x1.Report,Serial:=x1.Serial,Zone:=x1.Zone}:Ad)) _ h6) ?_;rintro _ F1 h8 h1 ho ⟨h9,ha,rfl,hb,hc⟩;obtain ⟨hd,he,hf⟩:=bS h7;refine Cl' CY h1 (C8 N h8 F1 h1.pers h5 h9 ha hb hc 139 [] [] (fun y0=>B3 N y0) GR (fun w1 F1 y0 r hp hg hh=>Hg N w1 F1 hg y0 r hh) _ he) ?_;rintro _ F2 hq hk hr rfl;refine Vs 2<|Nt<|Rt ?_;obtain rfl:=Aa hf;exact Re [(.bool (!hd))] hk rfl



def EW (N:Nat) (x0:Vp) (x1:Int) (x2:(Int->Option Bool)):Nat->Option (Bm Bool Nat):=fun h0=>
 (bif (decide (h0 < (x0).length)) then ((x2 ((IM x0 h0).1:Int)).bind fun h1=>(bif (!h1) then some (.ret false) else some (.next (h0 + (IM x0 h0).2)))) else some (.done h0))
def EX (N:Nat) (x0:Vp) (x1:Int) (x2:(Int->Option Bool)):Option Bool:=
 ((AW (EW N x0 x1 x2) N 0).bind fun o=>o.k (fun r=>some r) (fun h1=>((Fx N (x0.length:Int) 1 x1).bind fun h0=>some h0)))
theorem EU:Af Tryz.prog 198:=fun _ _=>by kernel_rfl
theorem Fv (N:Nat) (w0:World) (F0:Mem) (hF:Vr w0 F0) (x0:Vp) (x1:Int) (h2:FuncId) (h3 h4:List Value) (x2:Int->Option Bool) (hg:Af Tryz.prog h2) (hh:KK F0 h2 h3 h4 x2) (r:Bool) (h:EX N x0 x1 x2=some r):
  Calls Tryz.prog 198 ([(sv x0),(vi x1),(.func (.func h2) h3.toArray h4.toArray)]:List Value).toArray w0 (AF w0 F0 fun F' v=>v=(.bool r)):=by
 have hk:=U4 hF;refine Go 22 Tryz.func198<|Sq (Rg [0] ?_);refine Vs 1<|Nss<|Sq (Rg [0,1] ?_);refine Vs 1<|RWP.srange (dst:=(some 10)) (ty:=0) (g:=none) (by kernel_rfl) rfl (t:=9) (x:=(.tmp 9)) (a:=x0) rfl (by kernel_rfl) hk (fun h1 hl (hm:HS w0 F0 hl F0 [(some h1,(.stringIter ⟨(x0).toArray⟩ 0))])=>?_);refine Nt ?_;obtain ⟨h9,hn,ha⟩:=bS h;refine U9 (fun f w=>∃ (hb:Nat) (F2:Mem),h9=.done hb/\HS w0 F0 w F2 []/\U2 F0 F2/\FI f [] [(0,(sv x0)),(1,(vi x1))]) ?_ ?_
 ·refine Bk ?_;refine U1 (by kernel_rfl) (fun m f w=>∃ (h0:Nat) (F1:Mem),AW (EW N x0 x1 x2) m h0=some h9/\HS w0 F0 w F1 [(some h1,(.stringIter ⟨(x0).toArray⟩ h0))]/\U2 F0 F1/\FI f [] [(0,(sv x0)),(1,(vi x1)),(2,(.func (.func h2) h3.toArray h4.toArray)),(10,(pt h1 0))]) N ⟨0,F0,hn,hm,(U3 _),fI⟩ ?_;rintro b7 f b8 ⟨h0,F1,ho,h5,h6,⟨_,rfl⟩⟩;obtain ⟨hp,b9,rfl,hq,h7⟩:=AM ho;refine Sq (Rg [0,1] ?_);refine Sp hq (fun h8 hr=>?_) (fun h8 hs=>?_)
  ·refine RWP.snext1 (dst:=(some 11)) (ty:=0) (g:=none) (by kernel_rfl) rfl (x:=(.tmp 10)) (b:=h1) (a:=x0) (pos:=h0) (k:=0) rfl h5 rfl h8 (fun hc (hd:HS w0 F0 hc F1 [(some h1,(.stringIter ⟨(x0).toArray⟩ (h0 + (IM x0 h0).2)))])=>?_);refine Vs 1<|Nss<|C1 (rfl:true=true)<|Sc<|Ab<|Bk<|Sq (Rg [0,1] ?_);refine Vs 2<|Nss (Rg (rG 4) ?_);refine Vs 2 ?_;obtain ⟨ba,ht,hu⟩:=bS hr;refine Cq hg hd (hh hc F1 (((IM x0 h0).1:Int)) _ h6 hd.pers ht) ?_;rintro _ F3 bb he hv rfl;refine Vs 1<|Nt<|Cd hu (fun hw hx=>?_) (fun hw hy=>?_)
   ·refine Sq (Rg [0] ?_);refine Vs 1<|Nt<|Rt<|Aw<|Ae<|Aw ?_;have hret:=BU hx h7;subst hret;refine .inr<|Ae ?_;obtain rfl:=Aa ha;exact Re [(.bool false)] he rfl
   ·refine Sc ?_;refine As ?_;have hz:=AN hy h7;exact ⟨hp,Nat.lt_succ_self _,(h0 + (IM x0 h0).2),F3,hz,he,(h6.t hv),fI⟩
  ·refine RWP.snext0 (dst:=(some 11)) (ty:=0) (g:=none) (by kernel_rfl) rfl (x:=(.tmp 10)) (b:=h1) (a:=x0) (pos:=h0) (k:=0) rfl h5 rfl h8 ?_;refine Vs 1<|Nss<|C0 (rfl:false=false)<|Ex<|Ar<|Ar<|AC rfl ?_;have b0:=AO hs h7;exact .inl ⟨rfl,h0,F1,b0,h5.dr0,h6,fI⟩
 ·rintro f b1 ⟨hb,F2,rfl,hf,bc,⟨_,rfl⟩⟩;have b2:=Bv ha;refine Ab<|Sq (Rg (rG 5) ?_);refine Vs 3 ?_;obtain ⟨b3,b4,b5⟩:=bS b2;refine Cl' Gg hf (GW N b1 F2 hf.pers ((x0.length:Int)) 1 x1 _ b4) ?_;rintro _ F4 bd b6 be rfl;refine Vs 1<|Nt<|Rt ?_;obtain rfl:=Aa b5;exact Re [(.bool b3)] b6 rfl
def Bj (N:Nat) (x0:Int):Option Bool:=
 some ((decide (x0>=48))&&(decide (x0<=57)))
theorem Fa:Af Tryz.prog 199:=fun _ _=>by kernel_rfl
theorem FT (N:Nat) (w0:World) (F0:Mem) (hF:Vr w0 F0) (x0:Int) (r:Bool) (h:Bj N x0=some r):
  Calls Tryz.prog 199 ([(.int .i32 x0)]:List Value).toArray w0 (AF w0 F0 fun F' v=>v=(.bool r)):=by
 have h1:=U4 hF;refine Go 9 Tryz.func199<|Sq (Rg [0] ?_);refine Vs 1<|Nss (Rg (rG 7) ?_);refine U8 (fun f w=>∃ (F1:Mem),HS w0 F0 w F1 []/\U2 F0 F1/\FI f [] [(2,(.bool ((decide (x0>=48))&&(decide (x0<=57)))))]) ?_ ?_
 ·refine Vs 3 ?_;refine U7 (decide (x0>=48)) (fun h0=>?_) (fun h0=>?_)
  ·refine Vgs h0 2 ?_;refine Pk1 h0<|Vs 1 ?_;exact UY ⟨rfl,F0,h1,(U3 _),(fJ ⟨(congrArg Value.bool (OW h0 rfl)),trivial⟩)⟩
  ·refine Ss h0 2 ?_;refine Pk0 h0<|Vs 1 ?_;exact UY ⟨rfl,F0,h1,(U3 _),(fJ ⟨(congrArg Value.bool (OX h0 rfl)),trivial⟩)⟩
 ·rintro f h3 ⟨F1,h2,h4,⟨_,rfl⟩⟩;refine Ab<|Rt ?_;obtain rfl:=Aa h;exact Re [(.bool ((decide (x0>=48))&&(decide (x0<=57))))] h2 rfl
def BS (N:Nat) (x0:Int):Option Bool:=
 some ((decide (x0>=65))&&(decide (x0<=90)))
theorem EK:Af Tryz.prog 264:=fun _ _=>by kernel_rfl
theorem Fe (N:Nat) (w0:World) (F0:Mem) (hF:Vr w0 F0) (x0:Int) (r:Bool) (h:BS N x0=some r):
  Calls Tryz.prog 264 ([(.int .i32 x0)]:List Value).toArray w0 (AF w0 F0 fun F' v=>v=(.bool r)):=by
 have h1:=U4 hF;refine Go 9 Tryz.func264<|Sq (Rg [0] ?_);refine Vs 1<|Nss (Rg (rG 7) ?_);refine U8 (fun f w=>∃ (F1:Mem),HS w0 F0 w F1 []/\U2 F0 F1/\FI f [] [(2,(.bool ((decide (x0>=65))&&(decide (x0<=90)))))]) ?_ ?_
 ·refine Vs 3 ?_;refine U7 (decide (x0>=65)) (fun h0=>?_) (fun h0=>?_)
  ·refine Vgs h0 2 ?_;refine Pk1 h0<|Vs 1 ?_;exact UY ⟨rfl,F0,h1,(U3 _),(fJ ⟨(congrArg Value.bool (OW h0 rfl)),trivial⟩)⟩
  ·refine Ss h0 2 ?_;refine Pk0 h0<|Vs 1 ?_;exact UY ⟨rfl,F0,h1,(U3 _),(fJ ⟨(congrArg Value.bool (OX h0 rfl)),trivial⟩)⟩
 ·rintro f h3 ⟨F1,h2,h4,⟨_,rfl⟩⟩;refine Ab<|Rt ?_;obtain rfl:=Aa h;exact Re [(.bool ((decide (x0>=65))&&(decide (x0<=90))))] h2 rfl
def Do (N:Nat) (x0:Int):Option Bool:=
 (((BS N x0).bind fun h0=>(bif h0 then some true else ((Bj N x0).bind fun h1=>some h1))).bind fun h2=>some h2)
theorem MH:Af Tryz.prog 265:=fun _ _=>by kernel_rfl
theorem NZ (N:Nat) (w0:World) (F0:Mem) (hF:Vr w0 F0) (x0:Int) (r:Bool) (h:Do N x0=some r):
  Calls Tryz.prog 265 ([(.int .i32 x0)]:List Value).toArray w0 (AF w0 F0 fun F' v=>v=(.bool r)):=by
 have h2:=U4 hF;refine Go 9 Tryz.func265<|Sq (Rg [0] ?_);refine Vs 1<|Nss (Rg (rG 7) ?_);obtain ⟨h3,h5,h6⟩:=bS h;refine U8 (fun f w=>∃ (F1:Mem),HS w0 F0 w F1 []/\U2 F0 F1/\FI f [] [(2,(.bool h3))]) ?_ ?_
 ·refine Vs 1 ?_;obtain ⟨hh,h7,h8⟩:=bS h5;refine Cl' EK h2 (Fe N w0 F0 h2.pers x0 _ h7) ?_;rintro _ F2 h9 h1 h4 rfl;refine Vs 1<|Sp h8 (fun h0 ha=>?_) (fun h0 hb=>?_)
  ·refine Ss h0 2 ?_;refine Pk1 h0<|Vs 1 ?_;obtain rfl:=Aa ha;exact UY ⟨rfl,F2,h1,h4,fI⟩
  ·refine Vgs h0 1 ?_;obtain ⟨hk,hc,hd⟩:=bS hb;refine Cg h0 Fa h1 (FT N h9 F2 h1.pers x0 _ hc) ?_;rintro _ F3 hl he hf rfl;refine Pk0 h0<|Vs 1 ?_;obtain rfl:=Aa hd;exact UY ⟨rfl,F3,he,(h4.t hf),fI⟩
 ·rintro f hm ⟨F1,hg,hn,⟨_,rfl⟩⟩;refine Ab<|Rt ?_;obtain rfl:=Aa h6;exact Re [(.bool h3)] hg rfl
section
open Go.Proofs Go.RowKit Go.Sort Go.Lib
def EZ (p:Int->Option Bool) (x:Nat):Bool:=(p (x:Int)).getD false
def N3 (p:Int->Option Bool):Prop:=∀ x:Nat,x<=1114111->(p (x:Int)).isSome=true
def Jk (p:Int->Option Bool):Bool:=(List.range 1114112).all fun x=>(p (x:Int)).isSome
theorem Ho {p:Int->Option Bool}:Jk p=true ↔ N3 p:=by
 unfold Jk N3;rw [List.all_eq_true];exact ⟨fun h x hx=>h x (by rw [List.mem_range];omega),fun h x hx=>h x (by rw [List.mem_range] at hx;omega)⟩
theorem M2 {w:World} {F:Mem} (hF:∀ b o,F b=some o->w.heap[b]? =some o) {gq:FuncId} {k:List Value} {p:Int->Option Bool} (h:KK F gq [] k p) (ha:N3 p):PredGrows Tryz.prog gq k.toArray (EZ p) w:=by
 intro W x hx hb;have hr:=ha x hx;obtain ⟨r,hr'⟩:=Option.isSome_iff_exists.1 hr;have:=h W F (x:Int) r (U3 F) (Below.pers hF hb) hr';have e:EZ p x=r:=by unfold EZ;rw [hr'];rfl
 rw [e];have he:(#[encR x]++k.toArray:Array Value)=(([]:List Value)++(([.int .i32 (x:Int)]:List Value)++k)).toArray:=by
  apply Array.ext';simp [encR]
 rw [he];refine this.mono ?_;rintro e w' ⟨v,F',rfl,hs,rfl⟩;exact ⟨rfl,hs.fix.1,hs.fix.2.2,hs.fix.2.1,hs.size,hs.keep⟩
def Co (_N:Nat) (x0:Vp) (x1:Int->Option Bool):Option Int:=
 if Jk x1=true then some (Go.Lib.idxFunc (EZ x1) true ⟨x0.toArray⟩) else none
theorem HB:Af Tryz.prog 266:=fun _ _=>by kernel_rfl
theorem Ij (N:Nat) (w0:World) (F0:Mem) (hF:Vr w0 F0) (x0:Vp) (h0:FuncId) (h1:List Value) (x1:Int->Option Bool) (h2:Af Tryz.prog h0) (h3:KK F0 h0 [] h1 x1) (r:Int) (h:Co N x0 x1=some r):
  Calls Tryz.prog 266 ([(.string ⟨(x0).toArray⟩),(.func (.func h0) ([]:List Value).toArray h1.toArray)]:List Value).toArray w0 (AF w0 F0 fun _ v=>v=(.int .i64 r)):=by
 unfold Co at h;split at h
 ·rename_i ha;cases h;exact Vm hF (Tryz.strings_IndexFunc_grows h0 h1.toArray h2 _ _ w0 (M2 hF h3 (Ho.1 ha))) rfl
 ·cases h
def Ce (_N:Nat) (x0:Vp) (x1:Int->Option Bool) (x2:Bool):Option Int:=
 if Jk x1=true/\x0.length<=9223372036854775807 then some (Go.Lib.lastIdxFunc (EZ x1) x2 ⟨x0.toArray⟩) else none
theorem FZ:Af Tryz.prog 284:=fun _ _=>by kernel_rfl
theorem Gz (N:Nat) (w0:World) (F0:Mem) (hF:Vr w0 F0) (hG:Bt F0) (x0:Vp) (h0:FuncId) (h1:List Value) (x1:Int->Option Bool) (h2:Af Tryz.prog h0) (h3:KK F0 h0 [] h1 x1) (x2:Bool) (r:Int) (h:Ce N x0 x1 x2=some r):
  Calls Tryz.prog 284 ([(.string ⟨(x0).toArray⟩),(.func (.func h0) ([]:List Value).toArray h1.toArray),(.bool x2)]:List Value).toArray w0 (AF w0 F0 fun _ v=>v=(.int .i64 r)):=by
 unfold Ce at h;split at h
 ·rename_i ha;cases h;exact Vm hF (Tryz.strings_lastIndexFunc_grows h0 h1.toArray h2 _ _ _ w0 (by simpa [ByteArray.size] using ha.2) (hG w0 hF).2.1 (M2 hF h3 (Ho.1 ha.1))) rfl
 ·cases h
def Nh (s sep:Vp):List Vp:=(Go.Lib.splitB ⟨sep.toArray⟩ 0 (Go.Lib.countB ⟨s.toArray⟩ ⟨sep.toArray⟩) ⟨s.toArray⟩).map (·.data.toList)
def strings_Split (_N:Nat) (s sep:Vp):Option (List Vp):=if s.length < 4294967281/\1<=sep.length then some (Nh s sep) else none
theorem CC:Af Tryz.prog 93:=fun _ _=>by kernel_rfl
theorem CT (N:Nat) (w0:World) (F0:Mem) (hF:Vr w0 F0) (hG:Bt F0) (x0 x1:Vp) (r:List Vp) (h:strings_Split N x0 x1=some r):
  Calls Tryz.prog 93 ([(.string ⟨(x0).toArray⟩),(.string ⟨(x1).toArray⟩)]:List Value).toArray w0 (AF w0 F0 fun F' v=>∃ (h0:Vq) (h2:Nat),v=(.slice h0 r.length h2)/\LC r.length h2/\SlA AV F' h0 r):=by
 unfold strings_Split at h;split at h
 ·rename_i ha;cases h;obtain ⟨m,hm⟩:=(hG w0 hF).2.2.1;have hs:(⟨x0.toArray⟩:ByteArray).size < 4294967281:=by simpa [ByteArray.size] using ha.1
  have h1:1<=(⟨x1.toArray⟩:ByteArray).size:=by simpa [ByteArray.size] using ha.2
  have hle:=Go.Lib.countB_le ⟨x1.toArray⟩ h1 _ ⟨x0.toArray⟩ (Nat.le_refl _);exact AF.strs hF (Tryz.strings_Split _ _ m w0 hs hm h1) (Go.Lib.splitB_all ⟨x1.toArray⟩ h1 0 _ _ rfl) (by omega)
 ·cases h
def strings_Cut (_N:Nat) (s sep:Vp):Option (Vp×Vp×Bool):=if s.length < 4294967281 then some (Go.Lib.cut s sep) else none
theorem HC:Af Tryz.prog 164:=fun _ _=>by kernel_rfl
theorem IF (N:Nat) (w0:World) (F0:Mem) (hF:Vr w0 F0) (hG:Bt F0) (x0 x1:Vp) (r:Vp×Vp×Bool) (h:strings_Cut N x0 x1=some r):
  Calls Tryz.prog 164 ([(.string ⟨(x0).toArray⟩),(.string ⟨(x1).toArray⟩)]:List Value).toArray w0 (AF w0 F0 fun _ v=>v=(.tuple #[(.string ⟨(r.1).toArray⟩),(.string ⟨(r.2.1).toArray⟩),(.bool r.2.2)])):=by
 unfold strings_Cut at h;split at h
 ·rename_i ha;cases h;obtain ⟨m,hm⟩:=(hG w0 hF).2.2.1;refine Vm hF ((Tryz.strings_Cut ⟨x0.toArray⟩ ⟨x1.toArray⟩ m w0 (by simpa [ByteArray.size] using ha) hm).mono ?_) rfl;rintro e w' ⟨rfl,n,rfl⟩;exact ⟨rfl,OS _ _⟩
 ·cases h
def strings_Repeat (_N:Nat) (s:Vp) (n:Int):Option Vp:=if 0<=n/\n<=9223372036854775807/\s.length * n.toNat<=140737488355328 then some (Go.Lib.repeatL s n.toNat) else none
theorem JB:Af Tryz.prog 186:=fun _ _=>by kernel_rfl
theorem Kg (N:Nat) (w0:World) (F0:Mem) (hF:Vr w0 F0) (x0:Vp) (x1:Int) (r:Vp) (h:strings_Repeat N x0 x1=some r):
  Calls Tryz.prog 186 ([(.string ⟨(x0).toArray⟩),(.int .i64 x1)]:List Value).toArray w0 (AF w0 F0 fun _ v=>v=(.string ⟨(r).toArray⟩)):=by
 unfold strings_Repeat at h;split at h
 ·rename_i ha;cases h;have e:(x1.toNat:Int)=x1:=by omega
  have:=Tryz.strings_Repeat ⟨x0.toArray⟩ x1.toNat w0 (by omega) (by simpa [ByteArray.size] using ha.2.2);rw [e] at this;exact Vm hF this rfl
 ·cases h
def strings_Join (_N:Nat) (l:List Vp) (sep:Vp):Option Vp:=if l.length<=140737488355328/\(Go.Lib.join l sep).length<=140737488355328 then some (Go.Lib.join l sep) else none
theorem Cl:Af Tryz.prog 84:=fun _ _=>by kernel_rfl
theorem CF (N:Nat) (w0:World) (F0:Mem) (hF:Vr w0 F0) (x0:(List Vp)) (h1:Vq) (h0:Nat) (h2:LC x0.length h0) (h3:SlA AV F0 h1 x0) (x1 r:Vp) (h:strings_Join N x0 x1=some r):
  Calls Tryz.prog 84 ([(.slice h1 x0.length h0),(.string ⟨(x1).toArray⟩)]:List Value).toArray w0 (AF w0 F0 fun _ v=>v=(.string ⟨(r).toArray⟩)):=by
 unfold strings_Join at h;split at h
 ·rename_i ha;cases h;rcases h3 with rfl | ⟨b,o,C,E,fz,rfl,hC,hx⟩
  ·refine Vm hF ((Tryz.strings_Join_none h1 h0 ⟨x1.toArray⟩ w0).mono ?_) rfl;rintro e w' ⟨rfl,rfl⟩;exact ⟨rfl,Below.refl _ _⟩
  ·have hb:=hF _ _ hC;have hmap:(x0.map fun l=>(⟨l.toArray⟩:ByteArray)).map (·.data.toList)=x0:=by
    rw [List.map_map];conv=>rhs;rw [<-List.map_id x0]
    exact List.map_congr_left fun l _=>by simp
   have:=Tryz.strings_Join b o h0 (x0.map fun l=>⟨l.toArray⟩) ⟨x1.toArray⟩ w0 (fun j x hj=>by
    rw [List.getElem?_map] at hj;cases hl:x0[j]? with
    | none=>rw [hl] at hj;cases hj
    | some l=>
     rw [hl] at hj;cases hj;have hc:Al C (o + j * 1) 1=[.string ⟨l.toArray⟩]:=hx j l hl;rw [Nat.mul_one] at hc;have:=HJ.1 hc;simp [World.cell?,hb,this]) (Bb hb) (by simpa using ha.1) (by simpa using h2.1) (by rw [hmap];exact ha.2)
   rw [hmap,List.length_map] at this;exact Vm hF this rfl
 ·cases h
def strconv_Itoa (_N:Nat) (n:Int):Option Vp:=if -9223372036854775808<=n/\n<=9223372036854775807 then some (Go.Lib.itoa n) else none
theorem BJ:Af Tryz.prog 85:=fun _ _=>by kernel_rfl
theorem BV (N:Nat) (w0:World) (F0:Mem) (hF:Vr w0 F0) (hG:Bt F0) (x0:Int) (r:Vp) (h:strconv_Itoa N x0=some r):
  Calls Tryz.prog 85 ([(.int .i64 x0)]:List Value).toArray w0 (AF w0 F0 fun _ v=>v=(.string ⟨(r).toArray⟩)):=by
 unfold strconv_Itoa at h;split at h
 ·rename_i ha;cases h;refine Vm hF ((Tryz.strconv_Itoa x0 ha.1 ha.2 w0 (hG w0 hF).1).mono ?_) rfl;rintro e w' ⟨rfl,k,os,rfl⟩;exact ⟨rfl,rfl,rfl,rfl,by simp [grow,World.drewN],fun j hj=>by
   show ((w0.drewN k).heap++os)[j]? =_;rw [Array.getElem?_append_left (show j < (w0.drewN k).heap.size from hj)];rfl⟩
 ·cases h
def Eb (_N:Nat) (s:Vp):Option (Int×Bool):=if s.length<=281474976710656 then (match Go.Lib.atoiAll s with
 | .ok v=>some (v,false)
 | .range=>some (Go.Lib.atoiSat s,true)
 | _=>some (0,true)) else none
theorem G5:Af Tryz.prog 163:=fun _ _=>by kernel_rfl
theorem HM (N:Nat) (w0:World) (F0:Mem) (hF:Vr w0 F0) (hG:Bt F0) (x0:Vp) (r:Int×Bool) (h:Eb N x0=some r):
  Calls Tryz.prog 163 ([(.string ⟨(x0).toArray⟩)]:List Value).toArray w0 (AF w0 F0 fun _ v=>∃ (h0:Value),v=(.tuple #[(.int .i64 r.1),h0])/\UB r.2 h0):=by
 unfold Eb at h;split at h
 ·rename_i ha;have hsz:(⟨x0.toArray⟩:ByteArray).size<=281474976710656:=by simpa [ByteArray.size] using ha
  cases hv:Go.Lib.atoiAll x0 with
  | ok v=>
   rw [hv] at h;cases h;refine Vm hF ((Tryz.strconv_Atoi_ok ⟨x0.toArray⟩ (by omega) v (by simpa using hv) w0).mono ?_) ⟨.nilIface,rfl,rfl⟩;rintro e w' ⟨rfl,(rfl | ⟨t,rfl⟩)⟩
   ·exact ⟨rfl,Below.refl _ _⟩
   ·exact ⟨rfl,rfl,rfl,rfl,by rw [Go.Lib.bytesWorld_size];omega,fun j hj=>Go.Lib.bytesWorld_at_old w0 _ _ j hj⟩
  | range=>
   rw [hv] at h;cases h;obtain ⟨tp,p,hvar⟩:=(hG w0 hF).2.2.2.1;refine (Tryz.strconv_Atoi_range_var ⟨x0.toArray⟩ hsz (by simpa using hv) tp p w0 hvar).mono ?_;rintro e w' ⟨n,rfl,_,_,hb⟩;exact ⟨_,F0,rfl,HS.below hF hb,_,rfl,_,_,rfl⟩
  | _=>
   rw [hv] at h;cases h;obtain ⟨tp,p,hvar⟩:=(hG w0 hF).2.2.2.2;refine (Tryz.strconv_Atoi_syntax_var ⟨x0.toArray⟩ hsz (by simpa using hv) tp p w0 hvar).mono ?_;rintro e w' ⟨n,rfl,_,_,hb⟩;exact ⟨_,F0,rfl,HS.below hF hb,_,rfl,_,_,rfl⟩
 ·cases h
def strings_Index (_N:Nat) (s sub:Vp):Option Int:=if s.length < 4294967281 then some (Go.Lib.index s sub) else none
theorem Gv:Af Tryz.prog 98:=fun _ _=>by kernel_rfl
theorem G8 (N:Nat) (w0:World) (F0:Mem) (hF:Vr w0 F0) (hG:Bt F0) (x0 x1:Vp) (r:Int) (h:strings_Index N x0 x1=some r):
  Calls Tryz.prog 98 ([(.string ⟨(x0).toArray⟩),(.string ⟨(x1).toArray⟩)]:List Value).toArray w0 (AF w0 F0 fun _ v=>v=(.int .i64 r)):=by
 unfold strings_Index at h;split at h
 ·rename_i ha;cases h;obtain ⟨m,hm⟩:=(hG w0 hF).2.2.1;exact Vm hF ((Tryz.strings_Index ⟨x0.toArray⟩ ⟨x1.toArray⟩ m w0 (by simpa [ByteArray.size] using ha) hm).mono fun e w' ⟨he,hw⟩=>⟨he,hw ▸ Below.refl _ _⟩) rfl
 ·cases h
def strings_CutPrefix (_N:Nat) (s p:Vp):Option (Vp×Bool):=some (Go.Lib.trimPrefix s p,Go.Lib.hasPrefix s p)
theorem A6:Af Tryz.prog 189:=fun _ _=>by kernel_rfl
theorem Ba (N:Nat) (w0:World) (F0:Mem) (hF:Vr w0 F0) (x0 x1:Vp) (r:Vp×Bool) (h:strings_CutPrefix N x0 x1=some r):
  Calls Tryz.prog 189 ([(.string ⟨(x0).toArray⟩),(.string ⟨(x1).toArray⟩)]:List Value).toArray w0 (AF w0 F0 fun _ v=>v=(.tuple #[(.string ⟨(r.1).toArray⟩),(.bool r.2)])):=by
 cases h;exact Vm hF ((Tryz.strings_CutPrefix ⟨x0.toArray⟩ ⟨x1.toArray⟩ w0).mono fun e w' ⟨he,hw⟩=>⟨he,hw ▸ Below.refl _ _⟩) rfl
def strings_TrimSuffix (_N:Nat) (s p:Vp):Option Vp:=if s.length<=9223372036854775807 then some (Go.Lib.trimSuffix s p) else none
theorem Hc:Af Tryz.prog 117:=fun _ _=>by kernel_rfl
theorem HL (N:Nat) (w0:World) (F0:Mem) (hF:Vr w0 F0) (x0 x1 r:Vp) (h:strings_TrimSuffix N x0 x1=some r):
  Calls Tryz.prog 117 ([(.string ⟨(x0).toArray⟩),(.string ⟨(x1).toArray⟩)]:List Value).toArray w0 (AF w0 F0 fun _ v=>v=(.string ⟨(r).toArray⟩)):=by
 unfold strings_TrimSuffix at h;split at h
 ·rename_i ha;cases h;exact Vm hF ((Tryz.strings_TrimSuffix ⟨x0.toArray⟩ ⟨x1.toArray⟩ w0 (by simpa [ByteArray.size] using ha)).mono fun e w' ⟨he,hw⟩=>⟨he,hw ▸ Below.refl _ _⟩) rfl
 ·cases h
end
def EY (N:Nat) (x0:Vp):Option Bool:=
 (((EX N x0 4 (fun y0=>Do N y0)).bind fun h0=>(bif h0 then ((Co N x0 (fun y0=>BS N y0)).bind fun h1=>some (decide (h1>=0))) else some false)).bind fun h2=>some h2)
theorem HI:Af Tryz.prog 225:=fun _ _=>by kernel_rfl
theorem I7 (N:Nat) (w0:World) (F0:Mem) (hF:Vr w0 F0) (x0:Vp) (r:Bool) (h:EY N x0=some r):
  Calls Tryz.prog 225 ([(sv x0)]:List Value).toArray w0 (AF w0 F0 fun F' v=>v=(.bool r)):=by
 have h4:=U4 hF;refine Go 10 Tryz.func225<|Sq (Rg [0] ?_);refine Vs 1<|Nss (Rg (rG 8) ?_);obtain ⟨h5,h7,h8⟩:=bS h;refine U8 (fun f w=>∃ (F1:Mem),HS w0 F0 w F1 []/\U2 F0 F1/\FI f [] [(2,(.bool h5))]) ?_ ?_
 ·refine Vs 1 ?_;obtain ⟨hm,h9,ha⟩:=bS h7;refine Cl' EU h4 (Fv N w0 F0 h4.pers x0 4 265 [] [] (fun y0=>Do N y0) MH (fun w1 F1 y0 r hb h1 h2=>NZ N w1 F1 h1 y0 r h2) _ h9) ?_;rintro _ F2 hc h3 h6 rfl;refine Vs 1<|Sp ha (fun h0 hd=>?_) (fun h0 he=>?_)
  ·refine Vgs h0 1 ?_;obtain ⟨hn,hf,hg⟩:=bS hd;refine Cg h0 HB h3 (Ij N hc F2 h3.pers x0 264 [] (fun y0=>BS N y0) EK (fun w1 F1 y0 r hb h1 h2=>Fe N w1 F1 h1 y0 r h2) _ hf) ?_;rintro _ F3 ho hh hk rfl;refine Vgs h0 1<|Pk1 h0<|Vs 1 ?_;obtain rfl:=Aa hg;exact UY ⟨rfl,F3,hh,(h6.t hk),fI⟩
  ·refine Ss h0 3 ?_;refine Pk0 h0<|Vs 1 ?_;obtain rfl:=Aa he;exact UY ⟨rfl,F2,h3,h6,fI⟩
 ·rintro f hp ⟨F1,hl,hq,⟨_,rfl⟩⟩;refine Ab<|Rt ?_;obtain rfl:=Aa h8;exact Re [(.bool h5)] hl rfl
def BL (N:Nat) (x0:Vp) (x1:(Int->Option Bool)):Option Int:=
 ((Ce N x0 x1 true).bind fun h0=>some h0)
theorem Ga:Af Tryz.prog 263:=fun _ _=>by kernel_rfl
theorem GA (N:Nat) (w0:World) (F0:Mem) (hF:Vr w0 F0) (hG:Bt F0) (x0:Vp) (h0:FuncId) (h1:List Value) (x1:Int->Option Bool) (h3:Af Tryz.prog h0) (h4:KK F0 h0 [] h1 x1) (r:Int) (h:BL N x0 x1=some r):
  Calls Tryz.prog 263 ([(sv x0),(.func (.func h0) ([]:List Value).toArray h1.toArray)]:List Value).toArray w0 (AF w0 F0 fun F' v=>v=(vi r)):=by
 have h2:=U4 hF;refine Go 8 Tryz.func263<|Sq (Rg [0] ?_);refine Vs 1<|Nss (Rg (rG 4) ?_);refine Vs 2 ?_;obtain ⟨h5,h6,h7⟩:=bS h;refine Cl' FZ h2 (Gz N w0 F0 h2.pers hG x0 h0 h1 x1 h3 (fun w1 F1 y0 r h8 h9 ha=>h4 w1 F1 y0 r h8 h9 ha) true _ h6) ?_;rintro _ F1 hc hb hd rfl;refine Vs 1<|Nt<|Rt ?_;obtain rfl:=Aa h7;exact Re [(vi h5)] hb rfl
def JU (N:Nat) (x0:Vp):Option (Vp×Vp×Bool):=
 ((BL N x0 (fun y0=>Bj N y0)).bind fun h1=>(((Mx x0 0 (W64 (h1 + 1))).bind fun h2=>((Mx x0 (W64 (h1 + 1)) (x0.length:Int)).bind fun h3=>some (h2,h3))).bind fun h0=>((bif (decide ((W64 (h1 + 1)) > 0)) then ((EY N h0.1).bind fun h4=>(bif h4 then ((EX N h0.2 4 (fun y0=>BS N y0)).bind fun h5=>some h5) else some false)) else some false).bind fun h6=>some (h0.1,h0.2,h6))))
theorem OI:Af Tryz.prog 222:=fun _ _=>by kernel_rfl
theorem PH (N:Nat) (w0:World) (F0:Mem) (hF:Vr w0 F0) (hG:Bt F0) (x0:Vp) (r:(Vp×Vp×Bool)) (h:JU N x0=some r):
  Calls Tryz.prog 222 ([(sv x0)]:List Value).toArray w0 (AF w0 F0 fun F' v=>v=(.tuple #[(sv r.1),(sv r.2.1),(.bool r.2.2)])):=by
 have h8:=U4 hF;refine Go 27 Tryz.func222<|Sq (Rg [0,1,2] ?_);refine Vs 3<|Nss (Rg (rG 4) ?_);refine Vs 1 ?_;obtain ⟨h3,hd,he⟩:=bS h;refine Cl' Ga h8 (GA N w0 F0 h8.pers hG x0 199 [] (fun y0=>Bj N y0) Fa (fun w1 F1 y0 r hf h4 h5=>FT N w1 F1 h4 y0 r h5) _ hd) ?_;rintro _ F1 b6 hg b7 rfl;refine Vs 2<|Nss ?_;obtain ⟨h0,hh,hk⟩:=bS he;refine RD 8 8 [] [] hg (fun f w=>∃ (F2:Mem),HS w0 F0 w F2 []/\U2 F1 F2/\FI f [] [(2,(sv h0.1)),(3,(sv h0.2)),(5,(vi (W64 (h3 + 1))))]) (fun b8 hl=>?_) ?_
 ·refine Dv [0,1] ?_;obtain ⟨h9,hm,hn⟩:=bS hh;refine Dt 2 11 9 (sv h9) (fun _ hq=>Jf (t:=9) (x:=(.tmp 9)) (lo:=none) (hi:=(some (.tmp 10))) (a:=x0) (il:=0) (ih:=(W64 (h3 + 1))) (v:=h9) rfl (by kernel_rfl) rfl rfl hm)<|Dv [3,4] ?_;obtain ⟨ha,ho,hp⟩:=bS hn;refine Dt 5 14 9 (sv ha) (fun _ hq=>Jf (t:=9) (x:=(.tmp 12)) (lo:=(some (.tmp 13))) (hi:=none) (a:=x0) (il:=(W64 (h3 + 1))) (ih:=(x0.length:Int)) (v:=ha) rfl (by kernel_rfl) rfl rfl ho)<|Dv [6,7] ?_;obtain rfl:=Aa hp;exact Vf (by kernel_rfl) ⟨F1,hl,(U3 _),fI⟩
 ·rintro f hr ⟨F2,h6,b9,⟨_,rfl⟩⟩;refine Ab<|Sq (Rg (rG 15) ?_);obtain ⟨hb,hs,ht⟩:=bS hk;refine U8 (fun f w=>∃ (F3:Mem),HS w0 F0 w F3 []/\U2 F2 F3/\FI f [] [(2,(sv h0.1)),(3,(sv h0.2)),(4,(.bool hb))]) ?_ ?_
  ·refine Vs 5 ?_;refine Sp hs (fun h1 hu=>?_) (fun h1 hv=>?_)
   ·refine Vgs h1 1 ?_;obtain ⟨ba,hw,hx⟩:=bS hu;refine Cg h1 HI h6 (I7 N hr F2 h6.pers h0.1 _ hw) ?_;rintro _ F4 hy h7 hc rfl;refine Pk1 h1<|Vs 1<|Sp hx (fun h2 hz=>?_) (fun h2 b0=>?_)
    ·refine Vgs h2 1 ?_;obtain ⟨bb,b1,b2⟩:=bS hz;refine Cg h2 EU h7 (Fv N hy F4 h7.pers h0.2 4 264 [] [] (fun y0=>BS N y0) EK (fun w1 F1 y0 r hf h4 h5=>Fe N w1 F1 h4 y0 r h5) _ b1) ?_;rintro _ F5 bc b3 b4 rfl;refine Pk1 h2<|Vs 3 ?_;obtain rfl:=Aa b2;exact UY ⟨rfl,F5,b3,(hc.t b4),fI⟩
    ·refine Ss h2 2 ?_;refine Pk0 h2<|Vs 3 ?_;obtain rfl:=Aa b0;exact UY ⟨rfl,F4,h7,hc,fI⟩
   ·refine Ss h1 2 ?_;refine Pk0 h1<|Vs 1<|Ss (rfl:false=false) 2<|Pk0 (rfl:false=false)<|Vs 3 ?_;obtain rfl:=Aa hv;exact UY ⟨rfl,F2,h6,(U3 _),fI⟩
  ·rintro f bd ⟨F3,b5,be,⟨_,rfl⟩⟩;refine Ab<|Rt ?_;obtain rfl:=Aa ht;exact Re [(sv h0.1),(sv h0.2),(.bool hb)] b5 rfl
def AE (N:Nat) (x0:Vp):Option (Bg×Bool):=
 ((JU N x0).bind fun h0=>some (({Area:=([]:Vp),Prefix:=h0.1,Suffix:=h0.2.1,Stroke:=([]:Vp)}:Bg),h0.2.2))
theorem Ek:Af Tryz.prog 221:=fun _ _=>by kernel_rfl
theorem EN (N:Nat) (w0:World) (F0:Mem) (hF:Vr w0 F0) (hG:Bt F0) (x0:Vp) (r:(Bg×Bool)) (h:AE N x0=some r):
  Calls Tryz.prog 221 ([(sv x0)]:List Value).toArray w0 (AF w0 F0 fun F' v=>v=(.tuple #[(.agg (CO r.1)),(.bool r.2)])):=by
 have h3:=U4 hF;refine Go 17 Tryz.func221<|Sq (Rg [0,1] ?_);refine Al' 186 #[(sv (([]:Vp))),(sv (([]:Vp))),(sv (([]:Vp))),(sv (([]:Vp)))] h3 (fun h4 h5 h1=>?_);refine Vs 1<|Nss (Rg (rG 9) ?_);refine Vs 1 ?_;obtain ⟨h0,h6,h7⟩:=bS h;refine Cl' OI h1 (PH N h5 F0 h1.pers hG x0 _ h6) ?_;rintro _ F1 h9 h8 ha rfl;refine Vs 7<|Nss (Rg (rG 6) ?_);refine Vs 4<|St0 #[(sv (([]:Vp))),(sv h0.1),(sv h0.2.1),(sv (([]:Vp)))] h8 (fun hb h2=>?_);refine Vs 1<|Nt<|Rt ?_;obtain rfl:=Aa h7;exact ⟨rfl,(.tuple #[(.agg #[(sv (([]:Vp))),(sv h0.1),(sv h0.2.1),(sv (([]:Vp)))]),(.bool h0.2.2)]),AH (l:=[.cell 2 186,.tmp 3]) (by kernel_rfl) (vs:=[(.agg #[(sv (([]:Vp))),(sv h0.1),(sv h0.2.1),(sv (([]:Vp)))]),(.bool h0.2.2)]) ⟨h4,0,rfl,Aj (t:=186) (g:=true) (s:=4) (by kernel_rfl) h2.at0 rfl (by decide),⟨rfl,trivial⟩⟩,(.tuple #[(.agg #[(sv (([]:Vp))),(sv h0.1),(sv h0.2.1),(sv (([]:Vp)))]),(.bool h0.2.2)]),F1,rfl,h2.clear,rfl⟩
def Dn (N:Nat) (x0:(List Vp)) (z0:(Vp->Option (Bg×Bool))):Option (Bg×Bool):=
 (((idx x0 0).bind fun h2=>((z0 h2).bind fun h0=>some (h0.2,h0.1.Area,h0.1.Prefix,h0.1.Suffix,h0.1.Stroke))).bind fun h1=>some (({Area:=h1.2.1,Prefix:=h1.2.2.1,Suffix:=h1.2.2.2.1,Stroke:=h1.2.2.2.2}:Bg),h1.1))
theorem Mm:Af Tryz.prog 223:=fun _ _=>by kernel_rfl
theorem MP (N:Nat) (w0:World) (F0:Mem) (hF:Vr w0 F0) (x0:(List Vp)) (h6:Vq) (h7:Nat) (hx:LC x0.length h7) (hc:SlA AV F0 h6 x0) (h8:Nat) (z0:(Vp->Option (Bg×Bool))) (h3:FuncId) (h1 h2:List Value) (hd:Af Tryz.prog h3) (he:HT F0 h3 h1 h2 z0) (hf:F0 h8=some (oc #[(.func (.func h3) h1.toArray h2.toArray)] 188)) (r:(Bg×Bool)) (h:Dn N x0 z0=some r):
  Calls Tryz.prog 223 ([(sL h6 x0 h7),(pt h8 0)]:List Value).toArray w0 (AF w0 F0 fun F' v=>v=(.tuple #[(.agg (CO r.1)),(.bool r.2)])):=by
 have hg:=U4 hF;refine Go 12 Tryz.func223<|Sq (Rg [0,1] ?_);refine Al' 186 #[(sv (([]:Vp))),(sv (([]:Vp))),(sv (([]:Vp))),(sv (([]:Vp)))] hg (fun h4 hy hh=>?_);refine Vs 1<|Nss ?_;obtain ⟨h0,hk,hl⟩:=bS h;refine RD 9 9 [] [] hh (fun f w=>∃ (F1:Mem),HS w0 F0 w F1 [(sb h4 #[(sv h0.2.1),(sv h0.2.2.1),(sv h0.2.2.2.1),(sv h0.2.2.2.2)] 186)]/\U2 F0 F1/\FI f [] [(3,(pt h4 0)),(4,(.bool h0.1))]) (fun hm h9=>?_) ?_
 ·refine Dl 0 (fun _ hq=>(hq.1.1 _ _ hf)) ?_;refine Dv [1] ?_;obtain ⟨h5,hn,ho⟩:=bS hk;obtain ⟨hp,hx36'⟩:=Aq hn;obtain ⟨hz,b0,b1,b2,b3,rfl,hF45,hE46⟩:=Va hc hx36';have hr:=hE46 _ _ hx36';refine Di 2 hp<|Dx 3 0 (fun _ hq=>hq.1.1 _ _ hF45) hr<|D1 4 ?_;obtain ⟨hs,ht,hu⟩:=bS ho;refine Ve (l':=[true,true,true,true,true,false,false,false,false]) (zd:=true) (by kernel_rfl) (by kernel_rfl) (by kernel_rfl) (dst:=(some 9)) (ty:=187) (g:=none) (by kernel_rfl) rfl (f0:=(.tmp 5)) (aos:=#[(.tmp 8)]) (ats:=#[9]) (fid:=h3) (first:=h1.toArray) (cap:=h2.toArray) (args:=(h1++(([(sv h5)]:List Value)++h2))) rfl hd (D3 (l:=[(sv h5)]) (fi:=h1) (k:=h2) rfl) h9 (he hm F0 h5 _ (U3 _) h9.pers ht) ?_;rintro _ F2 b4 hv ha rfl;refine Dv [5,6]<|D1 7<|Gj (CO hs.1) hv ha (fun b5 hw=>?_);refine Dv [8] ?_;obtain rfl:=Aa hu;exact Vf (by kernel_rfl) ⟨F2,hw,ha,fI⟩
 ·rintro f b6 ⟨F1,hb,b7,⟨_,rfl⟩⟩;refine Ab<|Rt ?_;obtain rfl:=Aa hl;exact ⟨rfl,(.tuple #[(.agg #[(sv h0.2.1),(sv h0.2.2.1),(sv h0.2.2.2.1),(sv h0.2.2.2.2)]),(.bool h0.1)]),AH (l:=[.cell 3 186,.tmp 4]) (by kernel_rfl) (vs:=[(.agg #[(sv h0.2.1),(sv h0.2.2.1),(sv h0.2.2.2.1),(sv h0.2.2.2.2)]),(.bool h0.1)]) ⟨h4,0,rfl,Aj (t:=186) (g:=true) (s:=4) (by kernel_rfl) hb.at0 rfl (by decide),⟨rfl,trivial⟩⟩,(.tuple #[(.agg #[(sv h0.2.1),(sv h0.2.2.1),(sv h0.2.2.2.1),(sv h0.2.2.2.2)]),(.bool h0.1)]),F1,rfl,hb.clear,rfl⟩
def Dm (N:Nat) (x0:(List Vp)) (z0:(Vp->Option (Bg×Bool))):Option (Bg×Bool):=
 (((idx x0 1).bind fun h4=>((z0 h4).bind fun h1=>some (h1.2,h1.1.Area,h1.1.Prefix,h1.1.Suffix,h1.1.Stroke))).bind fun h0=>((idx x0 0).bind fun h3=>((bif h0.1 then ((idx x0 0).bind fun h5=>((EY N h5).bind fun h6=>(bif h6 then ((idx x0 0).bind fun h7=>((idx x0 1).bind fun h8=>some ((decide ((h7.length:Int) < (h8.length:Int))),h3,h0.2.2.1,h0.2.2.2.1,h0.2.2.2.2))) else some (false,h3,h0.2.2.1,h0.2.2.2.1,h0.2.2.2.2)))) else some (false,h3,h0.2.2.1,h0.2.2.2.1,h0.2.2.2.2)).bind fun h2=>some (({Area:=h2.2.1,Prefix:=h2.2.2.1,Suffix:=h2.2.2.2.1,Stroke:=h2.2.2.2.2}:Bg),h2.1))))
theorem Ml:Af Tryz.prog 224:=fun _ _=>by kernel_rfl
theorem MO (N:Nat) (w0:World) (F0:Mem) (hF:Vr w0 F0) (x0:(List Vp)) (hh:Vq) (h8:Nat) (cj:LC x0.length h8) (ho:SlA AV F0 hh x0) (hp:Nat) (z0:(Vp->Option (Bg×Bool))) (hd:FuncId) (h5 h6:List Value) (hr:Af Tryz.prog hd) (hs:HT F0 hd h5 h6 z0) (hz:F0 hp=some (oc #[(.func (.func hd) h5.toArray h6.toArray)] 188)) (r:(Bg×Bool)) (h:Dm N x0 z0=some r):
  Calls Tryz.prog 224 ([(sL hh x0 h8),(pt hp 0)]:List Value).toArray w0 (AF w0 F0 fun F' v=>v=(.tuple #[(.agg (CO r.1)),(.bool r.2)])):=by
 have b0:=U4 hF;refine Go 38 Tryz.func224<|Sq (Rg [0,1] ?_);refine Al' 186 #[(sv (([]:Vp))),(sv (([]:Vp))),(sv (([]:Vp))),(sv (([]:Vp)))] b0 (fun h9 cl b1=>?_);refine Vs 1<|Nss ?_;obtain ⟨h0,b2,b3⟩:=bS h;refine RD 11 11 [(sb h9 #[(sv (([]:Vp))),(sv (([]:Vp))),(sv (([]:Vp))),(sv (([]:Vp)))] 186)] [] b1 (fun f w=>∃ (F1:Mem) (hf:Nat),HS w0 F0 w F1 [(sb hf #[(sv h0.2.1),(sv h0.2.2.1),(sv h0.2.2.2.1),(sv h0.2.2.2.2)] 186),(sb h9 #[(sv (([]:Vp))),(sv (([]:Vp))),(sv (([]:Vp))),(sv (([]:Vp)))] 186)]/\U2 F0 F1/\FI f [] [(0,(sL hh x0 h8)),(3,(pt h9 0)),(5,(pt hf 0)),(6,(.bool h0.1))]) (fun b4 hk=>?_) ?_
 ·refine Dl 0 (fun _ hq=>(hq.1.1 _ _ hz)) ?_;refine Dv [1] ?_;obtain ⟨ha,b5,ht⟩:=bS b2;obtain ⟨b6,hx39'⟩:=Aq b5;obtain ⟨cm,cn,co,cp,cq,rfl,hF48,hE49⟩:=Va ho hx39';have b7:=hE49 _ _ hx39';refine Di 2 b6<|Dx 3 0 (fun _ hq=>hq.1.1 _ _ hF48) b7<|Vb (i:=4) (j:=8) (by kernel_rfl) ?_ ?_
  ·obtain ⟨b8,b9,ba⟩:=bS ht;refine Ve (l':=[true,true,true,true,true,false,false,false,false,false,false]) (zd:=true) (by kernel_rfl) (by kernel_rfl) (by kernel_rfl) (dst:=(some 12)) (ty:=187) (g:=none) (by kernel_rfl) rfl (f0:=(.tmp 8)) (aos:=#[(.tmp 11)]) (ats:=#[9]) (fid:=hd) (first:=h5.toArray) (cap:=h6.toArray) (args:=(h5++(([(sv ha)]:List Value)++h6))) rfl hr (D3 (l:=[(sv ha)]) (fi:=h5) (k:=h6) rfl) hk (hs b4 F0 ha _ (U3 _) hk.pers b9) ?_;rintro _ F2 cr bb hl rfl;refine Dv [5,6,7]<|D1 8<|DAl 186 #[(sv (([]:Vp))),(sv (([]:Vp))),(sv (([]:Vp))),(sv (([]:Vp)))] bb hl (fun bc ct bd=>?_);refine D1 9<|Gj (CO b8.1) bd hl (fun cu be=>?_);refine Dv [10] ?_;obtain rfl:=Aa ba;exact Vf (by kernel_rfl) ⟨F2,bc,be,hl,fI⟩
  ·refine DAl 186 #[(sv (([]:Vp))),(sv (([]:Vp))),(sv (([]:Vp))),(sv (([]:Vp)))] hk (U3 _) (fun bf bg hu=>?_);refine D1 4 ?_;obtain ⟨bh,bi,bj⟩:=bS ht;refine Ve (l':=[true,true,true,true,true,false,false,false,true,false,false]) (zd:=true) (by kernel_rfl) (by kernel_rfl) (by kernel_rfl) (dst:=(some 12)) (ty:=187) (g:=none) (by kernel_rfl) rfl (f0:=(.tmp 8)) (aos:=#[(.tmp 11)]) (ats:=#[9]) (fid:=hd) (first:=h5.toArray) (cap:=h6.toArray) (args:=(h5++(([(sv ha)]:List Value)++h6))) rfl hr (D3 (l:=[(sv ha)]) (fi:=h5) (k:=h6) rfl) hu (hs bg F0 ha _ (U3 _) hu.pers bi) ?_;rintro _ F3 cv bk hv rfl;refine Dv [5,6,7]<|D1 9<|Gj (CO bh.1) bk hv (fun cw bl=>?_);refine Dv [10] ?_;obtain rfl:=Aa bj;exact Vf (by kernel_rfl) ⟨F3,bf,bl,hv,fI⟩
 ·rintro f cx ⟨F1,hf,hw,bm,⟨_,rfl⟩⟩;refine Ab<|Sq (Rg (rG 5) ?_);refine Vs 1 ?_;obtain ⟨he,bn,bo⟩:=bS b3;obtain ⟨bp,hx79'⟩:=Aq bn;obtain ⟨h3,h4,cy,cz,d0,rfl,hF88,hE89⟩:=Va (U5 ho bm) hx79';have bq:=hE89 _ _ hx79';refine Ix bp<|Lx 0 (hw.pers _ _ hF88) bq<|Vs 1<|St0 #[(sv he),(sv h0.2.2.1),(sv h0.2.2.2.1),(sv h0.2.2.2.2)] hw (fun d1 br=>?_);refine Nss ?_;obtain ⟨h1,bs,bt⟩:=bS bo;refine RD 21 21 [(sb hf #[(sv he),(sv h0.2.2.1),(sv h0.2.2.2.1),(sv h0.2.2.2.2)] 186)] [] br (fun f w=>∃ (F4:Mem),HS w0 F0 w F4 [(sb h9 #[(sv h1.2.1),(sv h1.2.2.1),(sv h1.2.2.2.1),(sv h1.2.2.2.2)] 186)]/\U2 F1 F4/\FI f [] [(3,(pt h9 0)),(4,(.bool h1.1))]) (fun bu hm=>?_) ?_
  ·refine Dl 0 (fun _ hq=>(hq.1.2 0 _ _ rfl)) ?_;refine Dvl [1,2] (tf 3 18)<|Sd bs (fun h7 bv=>?_) (fun h7 bw=>?_)
   ·refine Dgl 3 22 55 _ (tf 4 17) 2 true 21 h7 (fun _ hq=>mv 0 (.slice (some ⟨h3,h4,none⟩) x0.length h8)) ?_;obtain ⟨hn,bx,bz⟩:=bS bv;obtain ⟨c0,hx109'⟩:=Aq bx;have c1:=hE89 _ _ hx109';refine Dgl 4 23 0 (.pointer (some ⟨h3,(h4 + (0:Int).toNat * 1),none⟩)) (tf 5 16) 2 true 21 h7 (fun _ hq=>Cj (t:=55) (x:=(.tmp 22)) (y:=(.const (vi 0))) (b:=h3) (o:=h4) (E:=9) (s:=1) (by_:=16) rfl rfl (by kernel_rfl) c0)<|Dgl 5 24 9 _ (tf 6 15) 2 true 21 h7 (fun _ hq=>lx 9 23 0 1 false 1 (sv hn) (hq.1.1 _ _ hF88) c1)<|D1 6 ?_;obtain ⟨c3,c4,c5⟩:=bS bz;refine Ve (l':=[true,true,true,true,true,true,true,false,false,false,false,false,false,false,false,false,false,false,false,false,false]) (zd:=true) (by kernel_rfl) (by kernel_rfl) (by kernel_rfl) (dst:=(some 25)) (ty:=4) (g:=(some (2,true))) (by kernel_rfl) (GN (d:=21) (by kernel_rfl) rfl h7) (f0:=(.func 225)) (aos:=#[(.tmp 24)]) (ats:=#[9]) (fid:=225) (first:=#[]) (cap:=#[]) (args:=[(sv hn)]) rfl HI rfl hm (I7 N bu F1 hm.pers hn _ c4) ?_;rintro _ F5 d2 hx hg rfl;refine Dtl 7 26 4 _ (tf 8 13) (fun _ hq=>p1 21 (.tmp 25) (.const (.bool false)) (.bool c3) h7)<|Dvl [8] (tf 9 12)<|Sd c5 (fun h2 c6=>?_) (fun h2 c7=>?_)
    ·refine Dgl 9 28 55 _ (tf 10 11) 8 true 27 h2 (fun _ hq=>mv 0 (.slice (some ⟨h3,h4,none⟩) x0.length h8)) ?_;obtain ⟨hb,c8,c9⟩:=bS c6;obtain ⟨ca,hx126'⟩:=Aq c8;have cb:=hE89 _ _ hx126';refine Dgl 10 29 0 (.pointer (some ⟨h3,(h4 + (0:Int).toNat * 1),none⟩)) (tf 11 10) 8 true 27 h2 (fun _ hq=>Cj (t:=55) (x:=(.tmp 28)) (y:=(.const (vi 0))) (b:=h3) (o:=h4) (E:=9) (s:=1) (by_:=16) rfl rfl (by kernel_rfl) ca)<|Dgl 11 30 9 _ (tf 12 9) 8 true 27 h2 (fun _ hq=>lx 9 29 0 1 false 1 (sv hb) (hq.1.1 _ _ hF88) cb)<|Dgl 12 31 3 (vi (hb.length:Int)) (tf 13 8) 8 true 27 h2 (fun _ hq=>LK (x:=(.tmp 30)) (ats:=#[9]) (t:=9) (a:=hb) rfl rfl (by kernel_rfl))<|Dgl 13 32 55 _ (tf 14 7) 8 true 27 h2 (fun _ hq=>mv 0 (.slice (some ⟨h3,h4,none⟩) x0.length h8)) ?_;obtain ⟨hc,cc,cd⟩:=bS c9;obtain ⟨ce,hx132'⟩:=Aq cc;have cf:=hE89 _ _ hx132';refine Dgl 14 33 0 (.pointer (some ⟨h3,(h4 + (1:Int).toNat * 1),none⟩)) (tf 15 6) 8 true 27 h2 (fun _ hq=>Cj (t:=55) (x:=(.tmp 32)) (y:=(.const (vi 1))) (b:=h3) (o:=h4) (E:=9) (s:=1) (by_:=16) rfl rfl (by kernel_rfl) ce)<|Dgl 15 34 9 _ (tf 16 5) 8 true 27 h2 (fun _ hq=>lx 9 33 0 1 false 1 (sv hc) (hq.1.1 _ _ hF88) cf)<|Dgl 16 35 3 (vi (hc.length:Int)) (tf 17 4) 8 true 27 h2 (fun _ hq=>LK (x:=(.tmp 34)) (ats:=#[9]) (t:=9) (a:=hc) rfl rfl (by kernel_rfl))<|Dgl 17 36 4 (.bool (decide ((hb.length:Int) < (hc.length:Int)))) (tf 18 3) 8 true 27 h2 (fun _ hq=>Jh (t:=3) (t':=3) (x:=(.tmp 31)) (y:=(.tmp 35)) (k:=.i64) (a:=(hb.length:Int)) (b:=(hc.length:Int)) rfl rfl)<|Dtl 18 37 4 _ (tf 19 2) (fun _ hq=>p1 27 (.tmp 36) (.const (.bool false)) (.bool (decide ((hb.length:Int) < (hc.length:Int)))) h2)<|D1 19<|Kq #[(sv he),(sv h0.2.2.1),(sv h0.2.2.2.1),(sv h0.2.2.2.2)] hx hg (fun d3 cg=>?_);refine Dvl [20] (tf 21 0) ?_;obtain rfl:=Aa cd;exact Vf (by kernel_rfl) ⟨F5,cg.dr0,hg,fI⟩
    ·refine Dkl [(9,28),(10,29),(11,30),(12,31),(13,32),(14,33)] 8 true 27 h2 (tf 15 6) ?_;refine Dkl [(15,34),(16,35),(17,36)] 8 true 27 h2 (tf 18 3)<|Dtl 18 37 4 _ (tf 19 2) (fun _ hq=>p0 27 (.tmp 36) (.const (.bool false)) (.bool false) h2)<|D1 19<|Kq #[(sv he),(sv h0.2.2.1),(sv h0.2.2.2.1),(sv h0.2.2.2.2)] hx hg (fun d4 ch=>?_);refine Dvl [20] (tf 21 0) ?_;obtain rfl:=Aa c7;exact Vf (by kernel_rfl) ⟨F5,ch.dr0,hg,fI⟩
   ·refine Dkl [(3,22),(4,23),(5,24),(6,25)] 2 true 21 h7 (tf 7 14) ?_;refine Dtl 7 26 4 _ (tf 8 13) (fun _ hq=>p0 21 (.tmp 25) (.const (.bool false)) (.bool false) h7)<|Dvl [8] (tf 9 12)<|Dkl [(9,28),(10,29),(11,30),(12,31),(13,32),(14,33)] 8 true 27 rfl (tf 15 6)<|Dkl [(15,34),(16,35),(17,36)] 8 true 27 rfl (tf 18 3)<|Dtl 18 37 4 _ (tf 19 2) (fun _ hq=>p0 27 (.tmp 36) (.const (.bool false)) (.bool false) rfl)<|D1 19<|Kq #[(sv he),(sv h0.2.2.1),(sv h0.2.2.2.1),(sv h0.2.2.2.2)] hm (U3 _) (fun d6 ci=>?_);refine Dvl [20] (tf 21 0) ?_;obtain rfl:=Aa bw;exact Vf (by kernel_rfl) ⟨F1,ci.dr0,(U3 _),fI⟩
  ·rintro f d7 ⟨F4,hy,d8,⟨_,rfl⟩⟩;refine Ab<|Rt ?_;obtain rfl:=Aa bt;exact ⟨rfl,(.tuple #[(.agg #[(sv h1.2.1),(sv h1.2.2.1),(sv h1.2.2.2.1),(sv h1.2.2.2.2)]),(.bool h1.1)]),AH (l:=[.cell 3 186,.tmp 4]) (by kernel_rfl) (vs:=[(.agg #[(sv h1.2.1),(sv h1.2.2.1),(sv h1.2.2.2.1),(sv h1.2.2.2.2)]),(.bool h1.1)]) ⟨h9,0,rfl,Aj (t:=186) (g:=true) (s:=4) (by kernel_rfl) hy.at0 rfl (by decide),⟨rfl,trivial⟩⟩,(.tuple #[(.agg #[(sv h1.2.1),(sv h1.2.2.1),(sv h1.2.2.2.1),(sv h1.2.2.2.2)]),(.bool h1.1)]),F4,rfl,hy.clear,rfl⟩
def DY (N:Nat) (x0:Vp):Option Bool:=
 (((EX N x0 4 (fun y0=>BS N y0)).bind fun h0=>(bif h0 then some true else ((EX N x0 1 (fun y0=>Bj N y0)).bind fun h1=>some h1))).bind fun h2=>some h2)
theorem IE:Af Tryz.prog 227:=fun _ _=>by kernel_rfl
theorem JS (N:Nat) (w0:World) (F0:Mem) (hF:Vr w0 F0) (x0:Vp) (r:Bool) (h:DY N x0=some r):
  Calls Tryz.prog 227 ([(sv x0)]:List Value).toArray w0 (AF w0 F0 fun F' v=>v=(.bool r)):=by
 have h4:=U4 hF;refine Go 9 Tryz.func227<|Sq (Rg [0] ?_);refine Vs 1<|Nss (Rg (rG 7) ?_);obtain ⟨h5,h7,h8⟩:=bS h;refine U8 (fun f w=>∃ (F1:Mem),HS w0 F0 w F1 []/\U2 F0 F1/\FI f [] [(2,(.bool h5))]) ?_ ?_
 ·refine Vs 1 ?_;obtain ⟨hm,h9,ha⟩:=bS h7;refine Cl' EU h4 (Fv N w0 F0 h4.pers x0 4 264 [] [] (fun y0=>BS N y0) EK (fun w1 F1 y0 r hb h1 h2=>Fe N w1 F1 h1 y0 r h2) _ h9) ?_;rintro _ F2 hc h3 h6 rfl;refine Vs 1<|Sp ha (fun h0 hd=>?_) (fun h0 he=>?_)
  ·refine Ss h0 2 ?_;refine Pk1 h0<|Vs 1 ?_;obtain rfl:=Aa hd;exact UY ⟨rfl,F2,h3,h6,fI⟩
  ·refine Vgs h0 1 ?_;obtain ⟨hn,hf,hg⟩:=bS he;refine Cg h0 EU h3 (Fv N hc F2 h3.pers x0 1 199 [] [] (fun y0=>Bj N y0) Fa (fun w1 F1 y0 r hb h1 h2=>FT N w1 F1 h1 y0 r h2) _ hf) ?_;rintro _ F3 ho hh hk rfl;refine Pk0 h0<|Vs 1 ?_;obtain rfl:=Aa hg;exact UY ⟨rfl,F3,hh,(h6.t hk),fI⟩
 ·rintro f hp ⟨F1,hl,hq,⟨_,rfl⟩⟩;refine Ab<|Rt ?_;obtain rfl:=Aa h8;exact Re [(.bool h5)] hl rfl
def Dh (N:Nat) (x0:(List Vp)) (z0:(Vp->Option (Bg×Bool))):Option (Bg×Bool):=
 (((idx x0 0).bind fun h4=>((z0 h4).bind fun h1=>some (h1.2,h1.1.Area,h1.1.Prefix,h1.1.Suffix,h1.1.Stroke))).bind fun h0=>((idx x0 1).bind fun h3=>((bif h0.1 then ((idx x0 1).bind fun h5=>((DY N h5).bind fun h6=>some (h6,h0.2.1,h0.2.2.1,h0.2.2.2.1,h3))) else some (false,h0.2.1,h0.2.2.1,h0.2.2.2.1,h3)).bind fun h2=>some (({Area:=h2.2.1,Prefix:=h2.2.2.1,Suffix:=h2.2.2.2.1,Stroke:=h2.2.2.2.2}:Bg),h2.1))))
theorem Mk:Af Tryz.prog 226:=fun _ _=>by kernel_rfl
theorem MN (N:Nat) (w0:World) (F0:Mem) (hF:Vr w0 F0) (x0:(List Vp)) (hb:Vq) (h8:Nat) (c5:LC x0.length h8) (hk:SlA AV F0 hb x0) (hl:Nat) (z0:(Vp->Option (Bg×Bool))) (h7:FuncId) (h2 h3:List Value) (hm:Af Tryz.prog h7) (hn:HT F0 h7 h2 h3 z0) (hv:F0 hl=some (oc #[(.func (.func h7) h2.toArray h3.toArray)] 188)) (r:(Bg×Bool)) (h:Dh N x0 z0=some r):
  Calls Tryz.prog 226 ([(sL hb x0 h8),(pt hl 0)]:List Value).toArray w0 (AF w0 F0 fun F' v=>v=(.tuple #[(.agg (CO r.1)),(.bool r.2)])):=by
 have hw:=U4 hF;refine Go 27 Tryz.func226<|Sq (Rg [0,1] ?_);refine Al' 186 #[(sv (([]:Vp))),(sv (([]:Vp))),(sv (([]:Vp))),(sv (([]:Vp)))] hw (fun h5 c6 hx=>?_);refine Vs 1<|Nss ?_;obtain ⟨h1,hy,hz⟩:=bS h;refine RD 11 11 [(sb h5 #[(sv (([]:Vp))),(sv (([]:Vp))),(sv (([]:Vp))),(sv (([]:Vp)))] 186)] [] hx (fun f w=>∃ (F1:Mem) (h9:Nat),HS w0 F0 w F1 [(sb h9 #[(sv h1.2.1),(sv h1.2.2.1),(sv h1.2.2.2.1),(sv h1.2.2.2.2)] 186),(sb h5 #[(sv (([]:Vp))),(sv (([]:Vp))),(sv (([]:Vp))),(sv (([]:Vp)))] 186)]/\U2 F0 F1/\FI f [] [(0,(sL hb x0 h8)),(3,(pt h5 0)),(5,(pt h9 0)),(6,(.bool h1.1))]) (fun b0 hc=>?_) ?_
 ·refine Dl 0 (fun _ hq=>(hq.1.1 _ _ hv)) ?_;refine Dv [1] ?_;obtain ⟨h6,b1,ho⟩:=bS hy;obtain ⟨b2,hx39'⟩:=Aq b1;obtain ⟨c7,c8,c9,ca,cb,rfl,hF48,hE49⟩:=Va hk hx39';have b3:=hE49 _ _ hx39';refine Di 2 b2<|Dx 3 0 (fun _ hq=>hq.1.1 _ _ hF48) b3<|Vb (i:=4) (j:=8) (by kernel_rfl) ?_ ?_
  ·obtain ⟨b4,b5,b6⟩:=bS ho;refine Ve (l':=[true,true,true,true,true,false,false,false,false,false,false]) (zd:=true) (by kernel_rfl) (by kernel_rfl) (by kernel_rfl) (dst:=(some 12)) (ty:=187) (g:=none) (by kernel_rfl) rfl (f0:=(.tmp 8)) (aos:=#[(.tmp 11)]) (ats:=#[9]) (fid:=h7) (first:=h2.toArray) (cap:=h3.toArray) (args:=(h2++(([(sv h6)]:List Value)++h3))) rfl hm (D3 (l:=[(sv h6)]) (fi:=h2) (k:=h3) rfl) hc (hn b0 F0 h6 _ (U3 _) hc.pers b5) ?_;rintro _ F2 cc b7 hd rfl;refine Dv [5,6,7]<|D1 8<|DAl 186 #[(sv (([]:Vp))),(sv (([]:Vp))),(sv (([]:Vp))),(sv (([]:Vp)))] b7 hd (fun b8 cd b9=>?_);refine D1 9<|Gj (CO b4.1) b9 hd (fun ce ba=>?_);refine Dv [10] ?_;obtain rfl:=Aa b6;exact Vf (by kernel_rfl) ⟨F2,b8,ba,hd,fI⟩
  ·refine DAl 186 #[(sv (([]:Vp))),(sv (([]:Vp))),(sv (([]:Vp))),(sv (([]:Vp)))] hc (U3 _) (fun bb bc hp=>?_);refine D1 4 ?_;obtain ⟨bd,be,bf⟩:=bS ho;refine Ve (l':=[true,true,true,true,true,false,false,false,true,false,false]) (zd:=true) (by kernel_rfl) (by kernel_rfl) (by kernel_rfl) (dst:=(some 12)) (ty:=187) (g:=none) (by kernel_rfl) rfl (f0:=(.tmp 8)) (aos:=#[(.tmp 11)]) (ats:=#[9]) (fid:=h7) (first:=h2.toArray) (cap:=h3.toArray) (args:=(h2++(([(sv h6)]:List Value)++h3))) rfl hm (D3 (l:=[(sv h6)]) (fi:=h2) (k:=h3) rfl) hp (hn bc F0 h6 _ (U3 _) hp.pers be) ?_;rintro _ F3 cf bg hr rfl;refine Dv [5,6,7]<|D1 9<|Gj (CO bd.1) bg hr (fun cg bh=>?_);refine Dv [10] ?_;obtain rfl:=Aa bf;exact Vf (by kernel_rfl) ⟨F3,bb,bh,hr,fI⟩
 ·rintro f ch ⟨F1,h9,hs,bi,⟨_,rfl⟩⟩;refine Ab<|Sq (Rg (rG 5) ?_);refine Vs 1 ?_;obtain ⟨ha,bj,bk⟩:=bS hz;obtain ⟨bl,hx79'⟩:=Aq bj;obtain ⟨he,hf,ci,cj,cl,rfl,hF88,hE89⟩:=Va (U5 hk bi) hx79';have bm:=hE89 _ _ hx79';refine Ix bl<|Lx 0 (hs.pers _ _ hF88) bm<|Vs 1<|St0 #[(sv h1.2.1),(sv h1.2.2.1),(sv h1.2.2.2.1),(sv ha)] hs (fun cm bn=>?_);refine Nss ?_;obtain ⟨h0,bo,bp⟩:=bS bk;refine RD 10 10 [(sb h9 #[(sv h1.2.1),(sv h1.2.2.1),(sv h1.2.2.2.1),(sv ha)] 186)] [] bn (fun f w=>∃ (F4:Mem),HS w0 F0 w F4 [(sb h5 #[(sv h0.2.1),(sv h0.2.2.1),(sv h0.2.2.2.1),(sv h0.2.2.2.2)] 186)]/\U2 F1 F4/\FI f [] [(3,(pt h5 0)),(4,(.bool h0.1))]) (fun bq hg=>?_) ?_
  ·refine Dl 0 (fun _ hq=>(hq.1.2 0 _ _ rfl)) ?_;refine Dv [1,2]<|Sd bo (fun h4 br=>?_) (fun h4 bs=>?_)
   ·refine Dg 3 22 55 _ 2 true 21 h4 (fun _ hq=>mv 0 (.slice (some ⟨he,hf,none⟩) x0.length h8)) ?_;obtain ⟨hh,bt,bu⟩:=bS br;obtain ⟨bv,hx109'⟩:=Aq bt;have bw:=hE89 _ _ hx109';refine Dg 4 23 0 (.pointer (some ⟨he,(hf + (1:Int).toNat * 1),none⟩)) 2 true 21 h4 (fun _ hq=>Cj (t:=55) (x:=(.tmp 22)) (y:=(.const (vi 1))) (b:=he) (o:=hf) (E:=9) (s:=1) (by_:=16) rfl rfl (by kernel_rfl) bv)<|Dg 5 24 9 _ 2 true 21 h4 (fun _ hq=>lx 9 23 0 1 false 1 (sv hh) (hq.1.1 _ _ hF88) bw)<|D1 6 ?_;obtain ⟨bx,bz,c0⟩:=bS bu;refine Ve (l':=[true,true,true,true,true,true,true,false,false,false]) (zd:=true) (by kernel_rfl) (by kernel_rfl) (by kernel_rfl) (dst:=(some 25)) (ty:=4) (g:=(some (2,true))) (by kernel_rfl) (GN (d:=21) (by kernel_rfl) rfl h4) (f0:=(.func 227)) (aos:=#[(.tmp 24)]) (ats:=#[9]) (fid:=227) (first:=#[]) (cap:=#[]) (args:=[(sv hh)]) rfl IE rfl hg (JS N bq F1 hg.pers hh _ bz) ?_;rintro _ F5 cn c1 ht rfl;refine Dt 7 26 4 _ (fun _ hq=>p1 21 (.tmp 25) (.const (.bool false)) (.bool bx) h4)<|D1 8<|Kq #[(sv h1.2.1),(sv h1.2.2.1),(sv h1.2.2.2.1),(sv ha)] c1 ht (fun co c3=>?_);refine Dv [9] ?_;obtain rfl:=Aa c0;exact Vf (by kernel_rfl) ⟨F5,c3.dr0,ht,fI⟩
   ·refine Dk [(3,22),(4,23),(5,24),(6,25)] 2 true 21 h4 ?_;refine Dt 7 26 4 _ (fun _ hq=>p0 21 (.tmp 25) (.const (.bool false)) (.bool false) h4)<|D1 8<|Kq #[(sv h1.2.1),(sv h1.2.2.1),(sv h1.2.2.2.1),(sv ha)] hg (U3 _) (fun cp c4=>?_);refine Dv [9] ?_;obtain rfl:=Aa bs;exact Vf (by kernel_rfl) ⟨F1,c4.dr0,(U3 _),fI⟩
  ·rintro f cq ⟨F4,hu,cr,⟨_,rfl⟩⟩;refine Ab<|Rt ?_;obtain rfl:=Aa bp;exact ⟨rfl,(.tuple #[(.agg #[(sv h0.2.1),(sv h0.2.2.1),(sv h0.2.2.2.1),(sv h0.2.2.2.2)]),(.bool h0.1)]),AH (l:=[.cell 3 186,.tmp 4]) (by kernel_rfl) (vs:=[(.agg #[(sv h0.2.1),(sv h0.2.2.1),(sv h0.2.2.2.1),(sv h0.2.2.2.2)]),(.bool h0.1)]) ⟨h5,0,rfl,Aj (t:=186) (g:=true) (s:=4) (by kernel_rfl) hu.at0 rfl (by decide),⟨rfl,trivial⟩⟩,(.tuple #[(.agg #[(sv h0.2.1),(sv h0.2.2.1),(sv h0.2.2.2.1),(sv h0.2.2.2.2)]),(.bool h0.1)]),F4,rfl,hu.clear,rfl⟩
def Df (N:Nat) (x0:(List Vp)) (z0:(Vp->Option (Bg×Bool))):Option (Bg×Bool):=
 (((idx x0 1).bind fun h4=>((z0 h4).bind fun h2=>some (h2.2,h2.1.Area,h2.1.Prefix,h2.1.Suffix,h2.1.Stroke))).bind fun h0=>(((idx x0 0).bind fun h5=>((idx x0 2).bind fun h6=>some (h5,h6))).bind fun h1=>((bif h0.1 then ((idx x0 0).bind fun h7=>((EY N h7).bind fun h8=>(bif h8 then ((idx x0 2).bind fun h9=>((DY N h9).bind fun ha=>some (ha,h1.1,h0.2.2.1,h0.2.2.2.1,h1.2))) else some (false,h1.1,h0.2.2.1,h0.2.2.2.1,h1.2)))) else some (false,h1.1,h0.2.2.1,h0.2.2.2.1,h1.2)).bind fun h3=>some (({Area:=h3.2.1,Prefix:=h3.2.2.1,Suffix:=h3.2.2.2.1,Stroke:=h3.2.2.2.2}:Bg),h3.1))))
theorem Mj:Af Tryz.prog 228:=fun _ _=>by kernel_rfl
theorem MM (N:Nat) (w0:World) (F0:Mem) (hF:Vr w0 F0) (x0:(List Vp)) (hb:Vq) (h8:Nat) (cy:LC x0.length h8) (hg:SlA AV F0 hb x0) (hp:Nat) (z0:(Vp->Option (Bg×Bool))) (hc:FuncId) (h4 h5:List Value) (hr:Af Tryz.prog hc) (hs:HT F0 hc h4 h5 z0) (b0:F0 hp=some (oc #[(.func (.func hc) h4.toArray h5.toArray)] 188)) (r:(Bg×Bool)) (h:Df N x0 z0=some r):
  Calls Tryz.prog 228 ([(sL hb x0 h8),(pt hp 0)]:List Value).toArray w0 (AF w0 F0 fun F' v=>v=(.tuple #[(.agg (CO r.1)),(.bool r.2)])):=by
 have b1:=U4 hF;refine Go 37 Tryz.func228<|Sq (Rg [0,1] ?_);refine Al' 186 #[(sv (([]:Vp))),(sv (([]:Vp))),(sv (([]:Vp))),(sv (([]:Vp)))] b1 (fun h3 cz b2=>?_);refine Vs 1<|Nss ?_;obtain ⟨h0,b3,b4⟩:=bS h;refine RD 11 11 [(sb h3 #[(sv (([]:Vp))),(sv (([]:Vp))),(sv (([]:Vp))),(sv (([]:Vp)))] 186)] [] b2 (fun f w=>∃ (F1:Mem) (h9:Nat),HS w0 F0 w F1 [(sb h9 #[(sv h0.2.1),(sv h0.2.2.1),(sv h0.2.2.2.1),(sv h0.2.2.2.2)] 186),(sb h3 #[(sv (([]:Vp))),(sv (([]:Vp))),(sv (([]:Vp))),(sv (([]:Vp)))] 186)]/\U2 F0 F1/\FI f [] [(0,(sL hb x0 h8)),(3,(pt h3 0)),(5,(pt h9 0)),(6,(.bool h0.1))]) (fun b5 hh=>?_) ?_
 ·refine Dl 0 (fun _ hq=>(hq.1.1 _ _ b0)) ?_;refine Dv [1] ?_;obtain ⟨ha,b6,ht⟩:=bS b3;obtain ⟨b7,hx39'⟩:=Aq b6;obtain ⟨d0,d1,d2,d3,d4,rfl,hF48,hE49⟩:=Va hg hx39';have b8:=hE49 _ _ hx39';refine Di 2 b7<|Dx 3 0 (fun _ hq=>hq.1.1 _ _ hF48) b8<|Vb (i:=4) (j:=8) (by kernel_rfl) ?_ ?_
  ·obtain ⟨b9,ba,bb⟩:=bS ht;refine Ve (l':=[true,true,true,true,true,false,false,false,false,false,false]) (zd:=true) (by kernel_rfl) (by kernel_rfl) (by kernel_rfl) (dst:=(some 12)) (ty:=187) (g:=none) (by kernel_rfl) rfl (f0:=(.tmp 8)) (aos:=#[(.tmp 11)]) (ats:=#[9]) (fid:=hc) (first:=h4.toArray) (cap:=h5.toArray) (args:=(h4++(([(sv ha)]:List Value)++h5))) rfl hr (D3 (l:=[(sv ha)]) (fi:=h4) (k:=h5) rfl) hh (hs b5 F0 ha _ (U3 _) hh.pers ba) ?_;rintro _ F2 d6 bc hk rfl;refine Dv [5,6,7]<|D1 8<|DAl 186 #[(sv (([]:Vp))),(sv (([]:Vp))),(sv (([]:Vp))),(sv (([]:Vp)))] bc hk (fun bd d7 be=>?_);refine D1 9<|Gj (CO b9.1) be hk (fun d8 bf=>?_);refine Dv [10] ?_;obtain rfl:=Aa bb;exact Vf (by kernel_rfl) ⟨F2,bd,bf,hk,fI⟩
  ·refine DAl 186 #[(sv (([]:Vp))),(sv (([]:Vp))),(sv (([]:Vp))),(sv (([]:Vp)))] hh (U3 _) (fun bg bh hu=>?_);refine D1 4 ?_;obtain ⟨bi,bj,bk⟩:=bS ht;refine Ve (l':=[true,true,true,true,true,false,false,false,true,false,false]) (zd:=true) (by kernel_rfl) (by kernel_rfl) (by kernel_rfl) (dst:=(some 12)) (ty:=187) (g:=none) (by kernel_rfl) rfl (f0:=(.tmp 8)) (aos:=#[(.tmp 11)]) (ats:=#[9]) (fid:=hc) (first:=h4.toArray) (cap:=h5.toArray) (args:=(h4++(([(sv ha)]:List Value)++h5))) rfl hr (D3 (l:=[(sv ha)]) (fi:=h4) (k:=h5) rfl) hu (hs bh F0 ha _ (U3 _) hu.pers bj) ?_;rintro _ F3 d9 bl hv rfl;refine Dv [5,6,7]<|D1 9<|Gj (CO bi.1) bl hv (fun da bm=>?_);refine Dv [10] ?_;obtain rfl:=Aa bk;exact Vf (by kernel_rfl) ⟨F3,bg,bm,hv,fI⟩
 ·rintro f db ⟨F1,h9,bn,hw,⟨_,rfl⟩⟩;refine Ab<|Sq ?_;obtain ⟨h2,bo,bp⟩:=bS b4;refine RD 9 10 [(sb h3 #[(sv (([]:Vp))),(sv (([]:Vp))),(sv (([]:Vp))),(sv (([]:Vp)))] 186)] [] bn (fun f w=>∃ (F4:Mem),HS w0 F0 w F4 [(sb h9 #[(sv h2.1),(sv h0.2.2.1),(sv h0.2.2.2.1),(sv h2.2)] 186),(sb h3 #[(sv (([]:Vp))),(sv (([]:Vp))),(sv (([]:Vp))),(sv (([]:Vp)))] 186)]/\U2 F1 F4/\FI f [] [(0,(sL hb x0 h8)),(3,(pt h3 0)),(5,(pt h9 0)),(6,(.bool h0.1))]) (fun dc bq=>?_) ?_
  ·refine Dv [0] ?_;obtain ⟨hx,br,bs⟩:=bS bo;obtain ⟨bt,hx92'⟩:=Aq br;obtain ⟨dd,de,df,dg,dh,rfl,hF101,hE102⟩:=Va (U5 hg hw) hx92';have bu:=hE102 _ _ hx92';refine Di 1 bt<|Dx 2 0 (fun _ hq=>hq.1.1 _ _ hF101) bu<|Dv [3] ?_;obtain ⟨bv,bw,bx⟩:=bS bs;obtain ⟨bz,hx106'⟩:=Aq bw;have c0:=hE102 _ _ hx106';refine Di 4 bz<|Dx 5 0 (fun _ hq=>hq.1.1 _ _ hF101) c0<|Dv [6]<|D1 7<|Gj #[(sv hx),(sv h0.2.2.1),(sv h0.2.2.2.1),(sv h0.2.2.2.2)] bq (U3 _) (fun di c1=>?_);refine Dv [8]<|D1 9<|Gj #[(sv hx),(sv h0.2.2.1),(sv h0.2.2.2.1),(sv bv)] c1 (U3 _) (fun dj c3=>?_);obtain rfl:=Aa bx;exact Vf (by kernel_rfl) ⟨F1,c3,(U3 _),fI⟩
  ·rintro f dk ⟨F4,c4,c5,⟨_,rfl⟩⟩;refine Ab<|Sq ?_;obtain ⟨h1,c6,c7⟩:=bS bp;refine RD 16 16 [(sb h9 #[(sv h2.1),(sv h0.2.2.1),(sv h0.2.2.2.1),(sv h2.2)] 186)] [] c4 (fun f w=>∃ (F5:Mem),HS w0 F0 w F5 [(sb h3 #[(sv h1.2.1),(sv h1.2.2.1),(sv h1.2.2.2.1),(sv h1.2.2.2.2)] 186)]/\U2 F4 F5/\FI f [] [(3,(pt h3 0)),(4,(.bool h1.1))]) (fun c8 hl=>?_) ?_
   ·refine Dl 0 (fun _ hq=>(hq.1.2 0 _ _ rfl)) ?_;refine Dv [1,2]<|Sd c6 (fun h6 c9=>?_) (fun h6 ca=>?_)
    ·refine Dg 3 26 55 _ 2 true 25 h6 (fun _ hq=>mv 0 (sL hb x0 h8)) ?_;obtain ⟨hm,cb,cc⟩:=bS c9;obtain ⟨cd,hx130'⟩:=Aq cb;obtain ⟨hd,he,dl,dm,dn,rfl,hF139,hE140⟩:=Va (U5 hg (hw.t c5)) hx130';have ce:=hE140 _ _ hx130';refine Dg 4 27 0 (.pointer (some ⟨hd,(he + (0:Int).toNat * 1),none⟩)) 2 true 25 h6 (fun _ hq=>Cj (t:=55) (x:=(.tmp 26)) (y:=(.const (vi 0))) (b:=hd) (o:=he) (E:=9) (s:=1) (by_:=16) rfl rfl (by kernel_rfl) cd)<|Dg 5 28 9 _ 2 true 25 h6 (fun _ hq=>lx 9 27 0 1 false 1 (sv hm) (hq.1.1 _ _ hF139) ce)<|D1 6 ?_;obtain ⟨cf,cg,ch⟩:=bS cc;refine Ve (l':=[true,true,true,true,true,true,true,false,false,false,false,false,false,false,false,false]) (zd:=true) (by kernel_rfl) (by kernel_rfl) (by kernel_rfl) (dst:=(some 29)) (ty:=4) (g:=(some (2,true))) (by kernel_rfl) (GN (d:=25) (by kernel_rfl) rfl h6) (f0:=(.func 225)) (aos:=#[(.tmp 28)]) (ats:=#[9]) (fid:=225) (first:=#[]) (cap:=#[]) (args:=[(sv hm)]) rfl HI rfl hl (I7 N c8 F4 hl.pers hm _ cg) ?_;rintro _ F6 ci hn hf rfl;refine Dt 7 30 4 _ (fun _ hq=>p1 25 (.tmp 29) (.const (.bool false)) (.bool cf) h6)<|Dv [8]<|Sd ch (fun h7 cj=>?_) (fun h7 cl=>?_)
     ·refine Dg 9 32 55 _ 8 true 31 h7 (fun _ hq=>mv 0 (.slice (some ⟨hd,he,none⟩) x0.length h8)) ?_;obtain ⟨ho,cm,cn⟩:=bS cj;obtain ⟨co,hx155'⟩:=Aq cm;have cp:=hE140 _ _ hx155';refine Dg 10 33 0 (.pointer (some ⟨hd,(he + (2:Int).toNat * 1),none⟩)) 8 true 31 h7 (fun _ hq=>Cj (t:=55) (x:=(.tmp 32)) (y:=(.const (vi 2))) (b:=hd) (o:=he) (E:=9) (s:=1) (by_:=16) rfl rfl (by kernel_rfl) co)<|Dg 11 34 9 _ 8 true 31 h7 (fun _ hq=>lx 9 33 0 1 false 1 (sv ho) (hq.1.1 _ _ hF139) cp)<|D1 12 ?_;obtain ⟨cq,cr,ct⟩:=bS cn;refine Ve (l':=[true,true,true,true,true,true,true,true,true,true,true,true,true,false,false,false]) (zd:=true) (by kernel_rfl) (by kernel_rfl) (by kernel_rfl) (dst:=(some 35)) (ty:=4) (g:=(some (8,true))) (by kernel_rfl) (GN (d:=31) (by kernel_rfl) rfl h7) (f0:=(.func 227)) (aos:=#[(.tmp 34)]) (ats:=#[9]) (fid:=227) (first:=#[]) (cap:=#[]) (args:=[(sv ho)]) rfl IE rfl hn (JS N ci F6 hn.pers ho _ cr) ?_;rintro _ F7 dp cu hy rfl;refine Dt 13 36 4 _ (fun _ hq=>p1 31 (.tmp 35) (.const (.bool false)) (.bool cq) h7)<|D1 14<|Kq #[(sv h2.1),(sv h0.2.2.1),(sv h0.2.2.2.1),(sv h2.2)] cu (hf.t hy) (fun dq cv=>?_);refine Dv [15] ?_;obtain rfl:=Aa ct;exact Vf (by kernel_rfl) ⟨F7,cv.dr0,(hf.t hy),fI⟩
     ·refine Dk [(9,32),(10,33),(11,34),(12,35)] 8 true 31 h7 ?_;refine Dt 13 36 4 _ (fun _ hq=>p0 31 (.tmp 35) (.const (.bool false)) (.bool false) h7)<|D1 14<|Kq #[(sv h2.1),(sv h0.2.2.1),(sv h0.2.2.2.1),(sv h2.2)] hn hf (fun dr cw=>?_);refine Dv [15] ?_;obtain rfl:=Aa cl;exact Vf (by kernel_rfl) ⟨F6,cw.dr0,hf,fI⟩
    ·refine Dk [(3,26),(4,27),(5,28),(6,29)] 2 true 25 h6 ?_;refine Dt 7 30 4 _ (fun _ hq=>p0 25 (.tmp 29) (.const (.bool false)) (.bool false) h6)<|Dv [8]<|Dk [(9,32),(10,33),(11,34),(12,35)] 8 true 31 rfl<|Dt 13 36 4 _ (fun _ hq=>p0 31 (.tmp 35) (.const (.bool false)) (.bool false) rfl)<|D1 14<|Kq #[(sv h2.1),(sv h0.2.2.1),(sv h0.2.2.2.1),(sv h2.2)] hl (U3 _) (fun ds cx=>?_);refine Dv [15] ?_;obtain rfl:=Aa ca;exact Vf (by kernel_rfl) ⟨F4,cx.dr0,(U3 _),fI⟩
   ·rintro f dt ⟨F5,hz,du,⟨_,rfl⟩⟩;refine Ab<|Rt ?_;obtain rfl:=Aa c7;exact ⟨rfl,(.tuple #[(.agg #[(sv h1.2.1),(sv h1.2.2.1),(sv h1.2.2.2.1),(sv h1.2.2.2.2)]),(.bool h1.1)]),AH (l:=[.cell 3 186,.tmp 4]) (by kernel_rfl) (vs:=[(.agg #[(sv h1.2.1),(sv h1.2.2.1),(sv h1.2.2.2.1),(sv h1.2.2.2.2)]),(.bool h1.1)]) ⟨h3,0,rfl,Aj (t:=186) (g:=true) (s:=4) (by kernel_rfl) hz.at0 rfl (by decide),⟨rfl,trivial⟩⟩,(.tuple #[(.agg #[(sv h1.2.1),(sv h1.2.2.1),(sv h1.2.2.2.1),(sv h1.2.2.2.2)]),(.bool h1.1)]),F5,rfl,hz.clear,rfl⟩
def Kn (N:Nat):Option (List BE):=
 some [({words_:=1,split_:=(fun y0=>Dn N y0 (fun y0=>AE N y0))}:BE),({words_:=2,split_:=(fun y0=>Dm N y0 (fun y0=>AE N y0))}:BE),({words_:=2,split_:=(fun y0=>Dh N y0 (fun y0=>AE N y0))}:BE),({words_:=3,split_:=(fun y0=>Df N y0 (fun y0=>AE N y0))}:BE)]
theorem NT:Af Tryz.prog 184:=fun _ _=>by kernel_rfl
theorem OQ (N:Nat) (w0:World) (F0:Mem) (hF:Vr w0 F0) (hG:Bt F0) (r:(List BE)) (h:Kn N=some r):
  Calls Tryz.prog 184 ([]:List Value).toArray w0 (AF w0 F0 fun F' v=>∃ (ha:Vq) (hb:Nat),v=(sL ha r hb)/\LC r.length hb/\SlA MU F' ha r):=by
 have hd:=U4 hF;refine Go 11 Tryz.func184<|Sq (Rg [0] ?_);refine Vs 1<|Nss (Rg [0,1] ?_);refine Al' 188 #[.nilFunc] hd (fun h1 hn he=>?_);refine St0 #[(fV 221 #[])] he (fun ho hf=>?_);refine Nss (Rg (rG 10) ?_);refine Vs 8 ?_;obtain ⟨F1,hg,h8,hF28⟩:=hf.fc0;refine Bs 228 [(vi 1),(fV 223 #[(pt h1 0)]),(vi 2),(fV 224 #[(pt h1 0)]),(vi 2),(fV 226 #[(pt h1 0)]),(vi 3),(fV 228 #[(pt h1 0)])] hg (fun h9 hp hh=>?_);have hc:Ao MU 228 F1 (some ⟨h9,0,none⟩) 4 [({words_:=1,split_:=(fun y0=>Dn N y0 (fun y0=>AE N y0))}:BE),({words_:=2,split_:=(fun y0=>Dm N y0 (fun y0=>AE N y0))}:BE),({words_:=2,split_:=(fun y0=>Dh N y0 (fun y0=>AE N y0))}:BE),({words_:=3,split_:=(fun y0=>Df N y0 (fun y0=>AE N y0))}:BE)] (some h9,.cells ([(vi 1),(fV 223 #[(pt h1 0)]),(vi 2),(fV 224 #[(pt h1 0)]),(vi 2),(fV 226 #[(pt h1 0)]),(vi 3),(fV 228 #[(pt h1 0)])]:List Value).toArray 228 (0,0)):=Vj ⟨⟨223,[],[(pt h1 0)],rfl,Mm,(fun w1 F1 y0 h4 h5 h6 h7 r h0 h2 h3=>MP N w1 F1 h2 y0 h4 h5 h6 h7 h1 (fun y0=>AE N y0) 221 [] [] Ek (HT.mono (fun w1 F1 y0 r h0 h2 h3=>EN N w1 F1 h2 (hG.mono (h8.t h0)) y0 r h3) h0) (h0 _ _ hF28) r h3)⟩,⟨⟨224,[],[(pt h1 0)],rfl,Ml,(fun w1 F1 y0 h4 h5 h6 h7 r h0 h2 h3=>MO N w1 F1 h2 y0 h4 h5 h6 h7 h1 (fun y0=>AE N y0) 221 [] [] Ek (HT.mono (fun w1 F1 y0 r h0 h2 h3=>EN N w1 F1 h2 (hG.mono (h8.t h0)) y0 r h3) h0) (h0 _ _ hF28) r h3)⟩,⟨⟨226,[],[(pt h1 0)],rfl,Mk,(fun w1 F1 y0 h4 h5 h6 h7 r h0 h2 h3=>MN N w1 F1 h2 y0 h4 h5 h6 h7 h1 (fun y0=>AE N y0) 221 [] [] Ek (HT.mono (fun w1 F1 y0 r h0 h2 h3=>EN N w1 F1 h2 (hG.mono (h8.t h0)) y0 r h3) h0) (h0 _ _ hF28) r h3)⟩,⟨⟨228,[],[(pt h1 0)],rfl,Mj,(fun w1 F1 y0 h4 h5 h6 h7 r h0 h2 h3=>MM N w1 F1 h2 y0 h4 h5 h6 h7 h1 (fun y0=>AE N y0) 221 [] [] Ek (HT.mono (fun w1 F1 y0 r h0 h2 h3=>EN N w1 F1 h2 (hG.mono (h8.t h0)) y0 r h3) h0) (h0 _ _ hF28) r h3)⟩,rfl⟩⟩⟩⟩ (by simp);refine Vs 1<|Nt<|Rt ?_;have hk:=Vh hc;obtain ⟨F2,hl,hq,hm⟩:=hh.fr0 hc;obtain rfl:=Aa h;exact Re [(.slice (some ⟨h9,0,none⟩) [({words_:=1,split_:=(fun y0=>Dn N y0 (fun y0=>AE N y0))}:BE),({words_:=2,split_:=(fun y0=>Dm N y0 (fun y0=>AE N y0))}:BE),({words_:=2,split_:=(fun y0=>Dh N y0 (fun y0=>AE N y0))}:BE),({words_:=3,split_:=(fun y0=>Df N y0 (fun y0=>AE N y0))}:BE)].length 4)] hl ⟨(some ⟨h9,0,none⟩),4,rfl,hk,hm⟩
def CR (N:Nat) (x0:Vp) (h1:(List Vp)) (h2:(List BE)):Int->Option (Bm (Bg×Bool) Int):=fun h0=>
 (bif (decide (h0 < (h2.length:Int))) then ((idx h2 h0).bind fun h3=>(bif (h3.words_ !=(h1.length:Int)) then some (.next (W64 (h0 + 1))) else ((h3.split_ h1).bind fun h4=>(bif h4.2 then some (.ret (h4.1,true)) else some (.next (W64 (h0 + 1))))))) else some (.done h0))
def H9 (N:Nat) (x0:Vp):Option (Bg×Bool):=
 (bif (decide ((x0.length:Int) > 16)) then some (({Area:=([]:Vp),Prefix:=([]:Vp),Suffix:=([]:Vp),Stroke:=([]:Vp)}:Bg),false) else ((strings_Split N x0 ([47]:Vp)).bind fun h0=>((Kn N).bind fun h1=>((AW (CR N x0 h0 h1) N 0).bind fun o=>o.k (fun r=>some r) (fun h2=>some (({Area:=([]:Vp),Prefix:=([]:Vp),Suffix:=([]:Vp),Stroke:=([]:Vp)}:Bg),false))))))
theorem NS:Af Tryz.prog 143:=fun _ _=>by kernel_rfl
theorem OP (N:Nat) (w0:World) (F0:Mem) (hF:Vr w0 F0) (hG:Bt F0) (x0:Vp) (r:(Bg×Bool)) (h:H9 N x0=some r):
  Calls Tryz.prog 143 ([(sv x0)]:List Value).toArray w0 (AF w0 F0 fun F' v=>v=(.tuple #[(.agg (CO r.1)),(.bool r.2)])):=by
 have hn:=U4 hF;refine Go 37 Tryz.func143<|Sq (Rg [0,1] ?_);refine Al' 186 #[(sv (([]:Vp))),(sv (([]:Vp))),(sv (([]:Vp))),(sv (([]:Vp)))] hn (fun h0 ho h6=>?_);refine Vs 1<|Nss<|Sq (Rg [0,1,2] ?_);refine Vs 3<|Nt<|Cd h (fun hp hq=>?_) (fun hp hr=>?_)
 ·refine Sq (Rg [0,1,2] ?_);refine Vs 1<|St0 #[(sv (([]:Vp))),(sv (([]:Vp))),(sv (([]:Vp))),(sv (([]:Vp)))] h6 (fun c5 hb=>?_);refine Vs 1<|Nt<|Rt<|Ae ?_;obtain rfl:=Aa hq;exact ⟨rfl,(.tuple #[(.agg #[(sv (([]:Vp))),(sv (([]:Vp))),(sv (([]:Vp))),(sv (([]:Vp)))]),(.bool false)]),AH (l:=[.cell 2 186,.tmp 3]) (by kernel_rfl) (vs:=[(.agg #[(sv (([]:Vp))),(sv (([]:Vp))),(sv (([]:Vp))),(sv (([]:Vp)))]),(.bool false)]) ⟨h0,0,rfl,Aj (t:=186) (g:=true) (s:=4) (by kernel_rfl) hb.at0 rfl (by decide),⟨rfl,trivial⟩⟩,(.tuple #[(.agg #[(sv (([]:Vp))),(sv (([]:Vp))),(sv (([]:Vp))),(sv (([]:Vp)))]),(.bool false)]),F0,rfl,hb.clear,rfl⟩
 ·refine Sc ?_;refine Ab<|Sq (Rg [0,1,2] ?_);refine Vs 1 ?_;obtain ⟨h7,hs,ht⟩:=bS hr;refine Cl' CC h6 (CT N ho F0 h6.pers hG x0 (([47]:Vp)) _ hs) ?_;rintro _ F1 hu hc hv ⟨hd,he,rfl,hw,hx⟩;refine Vs 1<|Nss<|Sq (Rg [0,1,2] ?_);obtain ⟨h8,hy,hz⟩:=bS ht;refine Cl' NT hc (OQ N hu F1 hc.pers (hG.mono hv) _ hy) ?_;rintro _ F2 c6 b0 b1 ⟨b2,b3,rfl,c7,b4⟩;refine Vs 2<|Nt ?_;obtain ⟨hf,b5,hg⟩:=bS hz;refine U9 (fun f w=>∃ (hh:Int) (F4:Mem),hf=.done hh/\HS w0 F0 w F4 [(sb h0 #[(sv (([]:Vp))),(sv (([]:Vp))),(sv (([]:Vp))),(sv (([]:Vp)))] 186)]/\U2 F2 F4/\FI f [] [(2,(pt h0 0))]) ?_ ?_
  ·refine Bk ?_;refine U1 (by kernel_rfl) (fun m f w=>∃ (h1:Int) (F3:Mem),AW (CR N x0 h7 h8) m h1=some hf/\HS w0 F0 w F3 [(sb h0 #[(sv (([]:Vp))),(sv (([]:Vp))),(sv (([]:Vp))),(sv (([]:Vp)))] 186)]/\U2 F2 F3/\FI f [] [(2,(pt h0 0)),(4,(sL hd h7 he)),(15,(sL b2 h8 b3)),(16,(vi (h8.length:Int))),(17,(vi h1))]) N ⟨0,F2,b5,b0,(U3 _),fI⟩ ?_;rintro c8 f c9 ⟨h1,F3,b6,h9,h2,⟨_,rfl⟩⟩;obtain ⟨hk,ca,rfl,b7,h5⟩:=AM b6;refine Sq (Rg [0] ?_);refine Vs 1<|Nss<|Cd b7 (fun b8 b9=>?_) (fun b8 ba=>?_)
   ·refine Sc ?_;refine Ab<|Sq<|Bk<|Sq (Rg (rG 4) ?_);obtain ⟨bb,bc,bd⟩:=bS b9;obtain ⟨be,hx74'⟩:=Aq bc;obtain ⟨cb,cc,cd,ce,cf,rfl,hF83,hE84⟩:=Va (U5 b4 h2) hx74';obtain ⟨bf,bg,bh,bi,bj,bk⟩:=hE84 _ _ hx74';refine Ix be<|Lx 0 (h9.pers _ _ hF83) bi<|Al' 228 #[(vi 0),.nilFunc] h9 (fun cg ch bl=>?_);refine St0 #[(vi bb.words_),(.func (.func bf) bg.toArray bh.toArray)] bl (fun bm h3=>?_);refine Nss<|Sq (Rg (rG 5) ?_);refine Vs 1<|Ld h3.at0<|Vs 3<|Nt<|Cd bd (fun bn bo=>?_) (fun bn bp=>?_)
    ·refine Ex ?_;refine Ar<|AC rfl<|Ab<|Rg [0,1]<|Vs 2<|UY ?_;have bq:=AN bo h5;exact ⟨hk,Nat.lt_succ_self _,(W64 (h1 + 1)),F3,bq,h3.dr0,h2,fI⟩
    ·refine Sc ?_;refine Ab<|Sq (Rg (rG 10) ?_);refine Vs 1<|Ld h3.at0<|Vs 1 ?_;obtain ⟨h4,br,bs⟩:=bS bp;refine Cq bj h3 (bk bm F3 h7 hd he hw (U5 hx (b1.t h2)) _ (U3 _) h3.pers br) ?_;rintro _ F5 ci bt bu rfl;refine Vs 3<|Al' 186 #[(sv (([]:Vp))),(sv (([]:Vp))),(sv (([]:Vp))),(sv (([]:Vp)))] bt (fun cj cl bv=>?_);refine St0 (CO h4.1) bv (fun cm ha=>?_);refine Vs 1<|Nss (Rg [0] ?_);refine Vs 1<|Nt<|Cd bs (fun bw bx=>?_) (fun bw bz=>?_)
     ·refine Sq (Rg [0,1,2] ?_);refine Ld ha.at0<|St2 (CO h4.1) ha (fun cn hl=>?_);refine Vs 1<|Nt<|Rt<|Aw<|Ae<|Ae<|Aw ?_;have hret:=BU bx h5;subst hret;refine .inr<|Ae ?_;obtain rfl:=Aa hg;exact ⟨rfl,(.tuple #[(.agg (CO h4.1)),(.bool true)]),AH (l:=[.cell 2 186,.tmp 3]) (by kernel_rfl) (vs:=[(.agg (CO h4.1)),(.bool true)]) ⟨h0,0,rfl,Aj (t:=186) (g:=true) (s:=4) (by kernel_rfl) hl.at2 rfl (by decide),⟨rfl,trivial⟩⟩,(.tuple #[(.agg (CO h4.1)),(.bool true)]),F5,rfl,hl.clear,rfl⟩
     ·refine Sc ?_;refine As<|Ab<|Rg [0,1]<|Vs 2<|UY ?_;have c0:=AN bz h5;exact ⟨hk,Nat.lt_succ_self _,(W64 (h1 + 1)),F5,c0,ha.dr0.dr0,(h2.t bu),fI⟩
   ·refine Ex ?_;refine Ar<|Ar<|AC rfl ?_;have c1:=AO ba h5;exact .inl ⟨rfl,h1,F3,c1,h9,h2,fI⟩
  ·rintro f co ⟨hh,F4,rfl,c3,cp,⟨_,rfl⟩⟩;have c4:=Bv hg;refine Ab<|Sq (Rg [0,1,2] ?_);refine Vs 1<|St0 #[(sv (([]:Vp))),(sv (([]:Vp))),(sv (([]:Vp))),(sv (([]:Vp)))] c3 (fun cq hm=>?_);refine Vs 1<|Nt<|Rt ?_;obtain rfl:=Aa c4;exact ⟨rfl,(.tuple #[(.agg #[(sv (([]:Vp))),(sv (([]:Vp))),(sv (([]:Vp))),(sv (([]:Vp)))]),(.bool false)]),AH (l:=[.cell 2 186,.tmp 3]) (by kernel_rfl) (vs:=[(.agg #[(sv (([]:Vp))),(sv (([]:Vp))),(sv (([]:Vp))),(sv (([]:Vp)))]),(.bool false)]) ⟨h0,0,rfl,Aj (t:=186) (g:=true) (s:=4) (by kernel_rfl) hm.at0 rfl (by decide),⟨rfl,trivial⟩⟩,(.tuple #[(.agg #[(sv (([]:Vp))),(sv (([]:Vp))),(sv (([]:Vp))),(sv (([]:Vp)))]),(.bool false)]),F4,rfl,hm.clear,rfl⟩
def Fy (N:Nat) (x0:Vp):Option Bool:=
 ((H9 N x0).bind fun h0=>some h0.2)
theorem JH:Af Tryz.prog 79:=fun _ _=>by kernel_rfl
theorem Kk (N:Nat) (w0:World) (F0:Mem) (hF:Vr w0 F0) (hG:Bt F0) (x0:Vp) (r:Bool) (h:Fy N x0=some r):
  Calls Tryz.prog 79 ([(sv x0)]:List Value).toArray w0 (AF w0 F0 fun F' v=>v=(.bool r)):=by
 have h0:=U4 hF;refine Go 11 Tryz.func79<|Sq (Rg [0] ?_);refine Vs 1<|Nss (Rg (rG 8) ?_);refine Vs 1 ?_;obtain ⟨h1,h2,h3⟩:=bS h;refine Cl' NS h0 (OP N w0 F0 h0.pers hG x0 _ h2) ?_;rintro _ F1 h7 h4 h8 rfl;refine Vs 3<|Al' 186 #[(sv (([]:Vp))),(sv (([]:Vp))),(sv (([]:Vp))),(sv (([]:Vp)))] h4 (fun h9 ha h5=>?_);refine St0 (CO h1.1) h5 (fun hb h6=>?_);refine Vs 1<|Nss (Rg [0,1] ?_);refine Vs 2<|Nt<|Rt ?_;obtain rfl:=Aa h3;exact Re [(.bool h1.2)] h6 rfl
def BR (N:Nat) (x0 x1:Int):Option Vp:=
 ((strconv_Itoa N x0).bind fun h0=>((strings_Repeat N ([48]:Vp) (max 0 (W64 (x1 - (h0.length:Int))))).bind fun h1=>((DP h1 h0).bind fun h2=>some h2)))
theorem Gh:Af Tryz.prog 146:=fun _ _=>by kernel_rfl
theorem GX (N:Nat) (w0:World) (F0:Mem) (hF:Vr w0 F0) (hG:Bt F0) (x0 x1:Int) (r:Vp) (h:BR N x0 x1=some r):
  Calls Tryz.prog 146 ([(vi x0),(vi x1)]:List Value).toArray w0 (AF w0 F0 fun F' v=>v=(sv r)):=by
 have h0:=U4 hF;refine Go 16 Tryz.func146<|Sq (Rg [0] ?_);refine Vs 1<|Nss (Rg [0,1,2] ?_);refine Vs 1 ?_;obtain ⟨h1,h4,h5⟩:=bS h;refine Cl' BJ h0 (BV N w0 F0 h0.pers hG x0 _ h4) ?_;rintro _ F1 h6 h2 hd rfl;refine Vs 1<|Nss (Rg (rG 9) ?_);refine Vs 5 ?_;obtain ⟨h7,h8,h9⟩:=bS h5;refine Cl' JB h2 (Kg N h6 F1 h2.pers (([48]:Vp)) ((max 0 (W64 (x1 - (h1.length:Int))))) _ h8) ?_;rintro _ F2 he ha hf rfl;refine Vs 1 ?_;obtain ⟨h3,hb,hc⟩:=bS h9;refine V 15 9 (A2 (t:=9) (t':=9) (x:=(.tmp 13)) (y:=(.tmp 14)) (a:=h7) (b:=h1) (v:=h3) rfl rfl hb)<|Vs 1<|Nt<|Rt ?_;obtain rfl:=Aa hc;exact Re [(sv h3)] ha rfl
def CW (N:Nat) (x0:Int):Option (Vp×Int):=
 ((Fx N x0 0 20000).bind fun h0=>(bif (!h0) then some (([]:Vp),1) else ((strconv_Itoa N (W64 ((W64 (Int.tdiv x0 1440)) + 1))).bind fun h1=>((DP h1 ([32]:Vp)).bind fun h2=>((BR N (Int.tmod (W64 (Int.tdiv x0 60)) 24) 2).bind fun h3=>((DP h2 h3).bind fun h4=>((BR N (Int.tmod x0 60) 2).bind fun h5=>((DP h4 h5).bind fun h6=>some (h6,0)))))))))
theorem Gy:Af Tryz.prog 82:=fun _ _=>by kernel_rfl
theorem Ha (N:Nat) (w0:World) (F0:Mem) (hF:Vr w0 F0) (hG:Bt F0) (x0:Int) (r:(Vp×Int)) (h:CW N x0=some r):
  Calls Tryz.prog 82 ([(vi x0)]:List Value).toArray w0 (AF w0 F0 fun F' v=>v=(.tuple #[(sv r.1),(vi r.2)])):=by
 have h2:=U4 hF;refine Go 21 Tryz.func82<|Sq (Rg [0,1] ?_);refine Vs 2<|Nss<|Sq (Rg [0,1,2] ?_);refine Vs 1 ?_;obtain ⟨b0,h9,ha⟩:=bS h;refine Cl' Gg h2 (GW N w0 F0 h2.pers x0 0 20000 _ h9) ?_;rintro _ F1 hb h0 h1 rfl;refine Vs 1<|Nt<|Cd ha (fun hc hd=>?_) (fun hc he=>?_)
 ·refine Sq (Rg [0,1] ?_);refine Vs 2<|Nt<|Rt<|Ae ?_;obtain rfl:=Aa hd;exact Re [(sv (([]:Vp))),(vi 1)] h0 rfl
 ·refine Sc ?_;refine Ab<|Sq (Rg (rG 16) ?_);refine Vs 3 ?_;obtain ⟨hf,hg,hh⟩:=bS he;refine Cl' BJ h0 (BV N hb F1 h0.pers (hG.mono h1) ((W64 ((W64 (Int.tdiv x0 1440)) + 1))) _ hg) ?_;rintro _ F2 hk h3 h4 rfl;obtain ⟨h5,hl,hm⟩:=bS hh;refine V 11 9 (A2 (t:=9) (t':=9) (x:=(.tmp 10)) (y:=(.const (sv ([32]:Vp)))) (a:=hf) (b:=([32]:Vp)) (v:=h5) rfl rfl hl)<|Vs 3 ?_;obtain ⟨hn,ho,hp⟩:=bS hm;refine Cl' Gh h3 (GX N hk F2 h3.pers (hG.mono (h1.t h4)) ((Int.tmod (W64 (Int.tdiv x0 60)) 24)) 2 _ ho) ?_;rintro _ F3 hq h6 hr rfl;obtain ⟨h7,hs,ht⟩:=bS hp;refine V 16 9 (A2 (t:=9) (t':=9) (x:=(.tmp 11)) (y:=(.tmp 15)) (a:=h5) (b:=hn) (v:=h7) rfl rfl hs)<|Vs 2 ?_;obtain ⟨hu,hv,hw⟩:=bS ht;refine Cl' Gh h6 (GX N hq F3 h6.pers (hG.mono ((h1.t h4).trans hr)) ((Int.tmod x0 60)) 2 _ hv) ?_;rintro _ F4 b1 hx b2 rfl;obtain ⟨h8,hy,hz⟩:=bS hw;refine V 20 9 (A2 (t:=9) (t':=9) (x:=(.tmp 16)) (y:=(.tmp 19)) (a:=h7) (b:=hu) (v:=h8) rfl rfl hy)<|Vs 2<|Nt<|Rt ?_;obtain rfl:=Aa hz;exact Re [(sv h8),(vi 0)] hx rfl
def CE (N:Nat) (x0:(List Vp)):Int->Option (Bm Vp Int):=fun h0=>
 (bif (decide (h0 < (x0.length:Int))) then ((idx x0 h0).bind fun h1=>(bif (h1 !=([]:Vp)) then some (.ret h1) else some (.next (W64 (h0 + 1))))) else some (.done h0))
def EM (N:Nat) (x0:(List Vp)):Option Vp:=
 ((AW (CE N x0) N 0).bind fun o=>o.k (fun r=>some r) (fun h0=>some ([]:Vp)))
theorem Ke:Af Tryz.prog 147:=fun _ _=>by kernel_rfl
theorem Li (N:Nat) (w0:World) (F0:Mem) (hF:Vr w0 F0) (x0:(List Vp)) (h2:Vq) (h3:Nat) (hw:LC x0.length h3) (h9:SlA AV F0 h2 x0) (r:Vp) (h:EM N x0=some r):
  Calls Tryz.prog 147 ([(sL h2 x0 h3)]:List Value).toArray w0 (AF w0 F0 fun F' v=>v=(sv r)):=by
 have ha:=U4 hF;refine Go 18 Tryz.func147<|Sq (Rg [0] ?_);refine Vs 1<|Nss (Rg [0] ?_);refine Vs 1<|Nss<|Sq (Rg [0,1,2] ?_);refine Vs 3<|Nt ?_;obtain ⟨h6,hb,h7⟩:=bS h;refine U9 (fun f w=>∃ (h8:Int) (F2:Mem),h6=.done h8/\HS w0 F0 w F2 []/\U2 F0 F2/\FI f [] [(3,(sv (([]:Vp))))]) ?_ ?_
 ·refine Bk ?_;refine U1 (by kernel_rfl) (fun m f w=>∃ (h0:Int) (F1:Mem),AW (CE N x0) m h0=some h6/\HS w0 F0 w F1 []/\U2 F0 F1/\FI f [] [(3,(sv (([]:Vp)))),(6,(sL h2 x0 h3)),(7,(vi (x0.length:Int))),(8,(vi h0))]) N ⟨0,F0,hb,ha,(U3 _),fI⟩ ?_;rintro hx f hy ⟨h0,F1,hc,h1,h4,⟨_,rfl⟩⟩;obtain ⟨hd,hz,rfl,he,h5⟩:=AM hc;refine Sq (Rg [0] ?_);refine Vs 1<|Nss<|Cd he (fun hf hg=>?_) (fun hf hh=>?_)
  ·refine Sc ?_;refine Ab<|Sq<|Bk<|Sq (Rg [0,1,2] ?_);obtain ⟨hk,hl,hm⟩:=bS hg;obtain ⟨hn,hx49'⟩:=Aq hl;obtain ⟨b0,b1,b2,b3,b4,rfl,hF58,hE59⟩:=Va (U5 h9 h4) hx49';have ho:=hE59 _ _ hx49';refine Ix hn<|Lx 0 (h1.pers _ _ hF58) ho<|Vs 1<|Nss (Rg [0,1,2] ?_);refine Vs 3<|Nt<|Cd hm (fun hp hq=>?_) (fun hp hr=>?_)
   ·refine Sq (Rg [0,1] ?_);refine Vs 2<|Nt<|Rt<|Aw<|Ae<|Ae<|Aw ?_;have hret:=BU hq h5;subst hret;refine .inr<|Ae ?_;obtain rfl:=Aa h7;exact Re [(sv hk)] h1 rfl
   ·refine Sc ?_;refine As<|Ab<|Rg [0,1]<|Vs 2<|UY ?_;have hs:=AN hr h5;exact ⟨hd,Nat.lt_succ_self _,(W64 (h0 + 1)),F1,hs,h1,h4,fI⟩
  ·refine Ex ?_;refine Ar<|Ar<|AC rfl ?_;have ht:=AO hh h5;exact .inl ⟨rfl,h0,F1,ht,h1,h4,fI⟩
 ·rintro f b5 ⟨h8,F2,rfl,hu,b6,⟨_,rfl⟩⟩;have hv:=Bv h7;refine Ab<|Sq (Rg [0,1] ?_);refine Vs 2<|Nt<|Rt ?_;obtain rfl:=Aa hv;exact Re [(sv (([]:Vp)))] hu rfl
def BW (N:Nat) (x0:Ac) (x1:Ad) (h6:Bool) (h2:(List AR)):(List Vp×Int)->Option (Bm (Vp×Int) (List Vp×Int)):=fun h0=>
 (bif (decide (h0.2 < (h2.length:Int))) then ((idx h2 h0.2).bind fun h1=>((bif h1.has_ then ((BR N h1.n_ h1.digits_).bind fun h3=>((Cz h0.1 [h3]).bind fun h4=>some h4)) else some h0.1).bind fun h5=>some (.next (h5,(W64 (h0.2 + 1)))))) else some (.done (h0.1,h0.2)))
def BF (N:Nat) (x0:Ac) (x1:Ad):Option (Vp×Int):=
 ((B0 N ({Report:=x0.Report,Serial:=x0.Serial,Zone:=x0.Zone}:Ac) ({Report:=x1.Report,Serial:=x1.Serial,Zone:=x1.Zone}:Ad)).bind fun h0=>(bif (!h0) then some (([]:Vp),1) else ((CH N ({Report:=x0.Report,Serial:=x0.Serial,Zone:=x0.Zone}:Ac) ({Report:=x1.Report,Serial:=x1.Serial,Zone:=x1.Zone}:Ad)).bind fun h1=>((AW (BW N x0 x1 h0 h1) N (([]:List Vp),0)).bind fun o=>o.k (fun r=>some r) (fun h2=>((strings_Join N h2.1 ([32]:Vp)).bind fun h3=>((EM N ([h3,([45]:Vp)])).bind fun h4=>some (h4,0))))))))
theorem Dd:Af Tryz.prog 83:=fun _ _=>by kernel_rfl
theorem DD (N:Nat) (w0:World) (F0:Mem) (hF:Vr w0 F0) (hG:Bt F0) (x0:Ac) (x1:Ad) (r:(Vp×Int)) (h:BF N x0 x1=some r):
  Calls Tryz.prog 83 ([(.agg (Ah x0)),(.agg (B6 x1))]:List Value).toArray w0 (AF w0 F0 fun F' v=>v=(.tuple #[(sv r.1),(vi r.2)])):=by
 have hz:=U4 hF;refine Go 36 Tryz.func83<|Sq (Rg (rG 4) ?_);refine Bx' 23 (Ah x0) hz (fun d2 d3 b0=>?_);refine Bx' 32 (B6 x1) b0 (fun d4 b1 h8=>?_);refine Vs 2<|Nss<|Sq (Rg (rG 4) ?_);refine Ld h8.at1<|Ld h8.at0 ?_;obtain ⟨b2,b3,b4⟩:=bS h;refine Cl' Dc h8 (DC N b1 F0 h8.pers (({Report:=x0.Report,Serial:=x0.Serial,Zone:=x0.Zone}:Ac)) (({Report:=x1.Report,Serial:=x1.Serial,Zone:=x1.Zone}:Ad)) _ b3) ?_;rintro _ F1 b5 h2 b6 rfl;refine Vs 1<|Nt<|Cd b4 (fun b7 b8=>?_) (fun b7 b9=>?_)
 ·refine Sq (Rg [0,1] ?_);refine Vs 2<|Nt<|Rt<|Ae ?_;obtain rfl:=Aa b8;exact Re [(sv (([]:Vp))),(vi 1)] h2 rfl
 ·refine Sc ?_;refine Ab<|Sq (Rg [0] ?_);refine Vs 1<|Nss<|Sq (Rg (rG 5) ?_);refine Ld h2.at1<|Ld h2.at0 ?_;obtain ⟨h3,ba,bb⟩:=bS b9;refine Cl' Ej h2 (EV N b5 F1 h2.pers (({Report:=x0.Report,Serial:=x0.Serial,Zone:=x0.Zone}:Ac)) (({Report:=x1.Report,Serial:=x1.Serial,Zone:=x1.Zone}:Ad)) _ ba) ?_;rintro _ F2 d6 bc bd ⟨be,hp,rfl,d7,bf⟩;refine Vs 2<|Nt ?_;have bg:=bc.dr0.dr0.dummy (oc #[] 0);obtain ⟨hq,bh,bi⟩:=bS bb;refine U9 (fun f w=>∃ (h4:(List Vp×Int)) (F4:Mem) (h9:Vq) (ha:Nat) (hg:Option Nat×Obj),hq=.done h4/\HS w0 F0 w F4 [hg]/\U2 F2 F4/\FI f [] [(6,(sL h9 h4.1 ha))]/\Ao AV 9 F4 h9 ha h4.1 hg) ?_ ?_
  ·refine Bk ?_;refine U1 (by kernel_rfl) (fun m f w=>∃ (h0:(List Vp×Int)) (F3:Mem) (h5:Vq) (h6:Nat) (h7:Option Nat×Obj),AW (BW N x0 x1 b2 h3) m h0=some hq/\HS w0 F0 w F3 [h7]/\U2 F2 F3/\FI f [] [(6,(sL h5 h0.1 h6)),(15,(sL be h3 hp)),(16,(vi (h3.length:Int))),(17,(vi h0.2))]/\Ao AV 9 F3 h5 h6 h0.1 h7) N ⟨(([]:List Vp),0),F2,none,0,(none,.cells #[] 0 (0,0)),bh,bg,(U3 _),fI,(Vi AV 9 F2 _)⟩ ?_;rintro d8 f d9 ⟨h0,F3,h5,h6,h7,bj,hh,hb,⟨_,rfl⟩,hk⟩;obtain ⟨bk,da,rfl,bl,hr⟩:=AM bj;refine Sq (Rg [0] ?_);refine Vs 1<|Nss<|Cd bl (fun bm bn=>?_) (fun bm bo=>?_)
   ·refine Sc ?_;refine Ab<|Sq<|Bk<|Sq (Rg (rG 4) ?_);obtain ⟨hl,bp,bq⟩:=bS bn;obtain ⟨br,hx76'⟩:=Aq bp;obtain ⟨bs,bt,db,dc,dd,rfl,hF85,hE86⟩:=Va (U5 bf hb) hx76';have bu:=hE86 _ _ hx76';refine Ix br<|Lx 0 (hh.pers _ _ hF85) bu<|Al' 180 #[(.bool false),(vi 0),(vi 0),(vi 0)] hh (fun de df bv=>?_);refine St0 (H6 hl) bv (fun bw h1=>?_);refine Nss (Rg [0,1] ?_);refine Vs 1<|Ld h1.at0<|Nt ?_;obtain ⟨hm,bx,bz⟩:=bS bq;refine U9 (fun f w=>∃ (F5:Mem) (hc:Vq) (hd:Nat) (he:Option Nat×Obj),HS w0 F0 w F5 [he]/\U2 F3 F5/\FI f [] [(6,(sL hc hm hd)),(15,(.slice (some ⟨bs,bt,none⟩) h3.length hp)),(16,(vi (h3.length:Int))),(17,(vi h0.2))]/\Ao AV 9 F5 hc hd hm he) ?_ ?_
    ·refine Cd bx (fun c0 c1=>?_) (fun c0 c3=>?_)
     ·refine Rg (rG 9) ?_;refine Vs 2<|Ld h1.at0<|Vs 1<|Ld h1.at0 ?_;obtain ⟨hn,c4,c5⟩:=bS c1;refine Cl' Gh h1 (GX N bw F3 h1.pers (hG.mono ((b6.t bd).trans hb)) hl.n_ hl.digits_ _ c4) ?_;rintro _ F6 dg c6 hs rfl;refine Bs 9 [(sv hn)] c6 (fun ht dh hu=>?_);have c7:Ao AV 9 F6 (some ⟨ht,0,none⟩) 1 [hn] (some ht,.cells ([(sv hn)]:List Value).toArray 9 (0,0)):=Vj ⟨rfl,rfl⟩ (by simp);obtain ⟨di,c8,c9⟩:=bS c5;refine Ap2 Uj hu (hk.mono hs) (hu.rd0 c7) c8 (fun ca cb cc dj cd ce=>?_);refine Vs 1<|UY ?_;obtain rfl:=Aa c9;exact .inl ⟨rfl,F6,ca,cb,cc,cd.dr0.dr0,hs,fI,ce⟩
     ·refine Sc ?_;obtain rfl:=Aa c3;exact .inl ⟨rfl,F3,h5,h6,h7,h1.dr0,(U3 _),fI,hk⟩
    ·rintro f dk ⟨F5,hc,hd,he,cf,cg,⟨_,rfl⟩,ch⟩;refine As<|Ab<|Rg [0,1]<|Vs 2<|UY ?_;have ci:=AN bz hr;exact ⟨bk,Nat.lt_succ_self _,(hm,(W64 (h0.2 + 1))),F5,hc,hd,he,ci,cf,(hb.t cg),fI,ch⟩
   ·refine Ex ?_;refine Ar<|Ar<|AC rfl ?_;have cj:=AO bo hr;exact .inl ⟨rfl,(h0.1,h0.2),F3,h5,h6,h7,cj,hh,hb,fI,hk⟩
  ·rintro f cl ⟨h4,F4,h9,ha,hg,rfl,cm,dl,⟨_,rfl⟩,hv⟩;have cn:=Bv bi;refine Ab<|Sq (Rg (rG 6) ?_);refine Vs 1 ?_;have co:=Vh hv;obtain ⟨F7,hw,dm,cp⟩:=cm.fr0 hv;obtain ⟨hf,cq,cr⟩:=bS cn;refine Cl' Cl hw (CF N cl F7 hw.pers h4.1 h9 ha co cp (([32]:Vp)) _ cq) ?_;rintro _ F8 dn ct dp rfl;refine Bs 9 [(sv hf),(sv (([45]:Vp)))] ct (fun ho cu cv=>?_);have hx:Ao AV 9 F8 (some ⟨ho,0,none⟩) 2 [hf,([45]:Vp)] (some ho,.cells ([(sv hf),(sv (([45]:Vp)))]:List Value).toArray 9 (0,0)):=Vj ⟨rfl,⟨rfl,rfl⟩⟩ (by simp);have cw:=Vh hx;obtain ⟨F9,hy,dq,cx⟩:=cv.fr0 hx;obtain ⟨cy,cz,d0⟩:=bS cr;refine Cl' Ke hy (Li N cu F9 hy.pers ([hf,([45]:Vp)]) (some ⟨ho,0,none⟩) 2 cw cx _ cz) ?_;rintro _ dr ds d1 dt rfl;refine Vs 2<|Nt<|Rt ?_;obtain rfl:=Aa d0;exact Re [(sv cy),(vi 0)] d1 rfl




def CJ (N:Nat) (x0:(List Vp)) (x1:Vp):Int->Option (Bm Int Int):=fun h0=>
 (bif (decide (h0 < (x0.length:Int))) then ((idx x0 h0).bind fun h1=>(bif (x1==h1) then some (.ret h0) else some (.next (W64 (h0 + 1))))) else some (.done h0))
def B8 (N:Nat) (x0:(List Vp)) (x1:Vp):Option Int:=
 ((AW (CJ N x0 x1) N 0).bind fun o=>o.k (fun r=>some r) (fun h0=>some (-1)))
theorem CM:Af Tryz.prog 94:=fun _ _=>by kernel_rfl
theorem CU (N:Nat) (w0:World) (F0:Mem) (hF:Vr w0 F0) (x0:(List Vp)) (h2:Vq) (h3:Nat) (hv:LC x0.length h3) (h9:SlA AV F0 h2 x0) (x1:Vp) (r:Int) (h:B8 N x0 x1=some r):
  Calls Tryz.prog 94 ([(sL h2 x0 h3),(sv x1)]:List Value).toArray w0 (AF w0 F0 fun F' v=>v=(vi r)):=by
 have ha:=U4 hF;refine Go 19 Tryz.func94<|Sq (Rg [0] ?_);refine Vs 1<|Nss<|Sq (Rg [0,1,2] ?_);refine Vs 3<|Nt ?_;obtain ⟨h6,hb,h7⟩:=bS h;refine U9 (fun f w=>∃ (h8:Int) (F2:Mem),h6=.done h8/\HS w0 F0 w F2 []/\U2 F0 F2/\FI f [] []) ?_ ?_
 ·refine Bk ?_;refine U1 (by kernel_rfl) (fun m f w=>∃ (h0:Int) (F1:Mem),AW (CJ N x0 x1) m h0=some h6/\HS w0 F0 w F1 []/\U2 F0 F1/\FI f [] [(0,(sL h2 x0 h3)),(1,(sv x1)),(7,(vi (x0.length:Int))),(8,(vi h0))]) N ⟨0,F0,hb,ha,(U3 _),fI⟩ ?_;rintro hw f hx ⟨h0,F1,hc,h1,h4,⟨_,rfl⟩⟩;obtain ⟨hd,hy,rfl,he,h5⟩:=AM hc;refine Sq (Rg [0] ?_);refine Vs 1<|Nss<|Cd he (fun hf hg=>?_) (fun hf hh=>?_)
  ·refine Sc ?_;refine Ab<|Sq<|Bk<|Sq (Rg [0,1] ?_);refine Vs 2<|Nss (Rg (rG 6) ?_);refine Vs 3 ?_;obtain ⟨hz,hk,hl⟩:=bS hg;obtain ⟨hm,hx48'⟩:=Aq hk;obtain ⟨b0,b1,b2,b3,b4,rfl,hF57,hE58⟩:=Va (U5 h9 h4) hx48';have hn:=hE58 _ _ hx48';refine Ix hm<|Lx 0 (h1.pers _ _ hF57) hn<|Vs 1<|Nt<|Cd hl (fun ho hp=>?_) (fun ho hq=>?_)
   ·refine Sq (Rg [0,1] ?_);refine Vs 2<|Nt<|Rt<|Aw<|Ae<|Ae<|Aw ?_;have hret:=BU hp h5;subst hret;refine .inr<|Ae ?_;obtain rfl:=Aa h7;exact Re [(vi h0)] h1 rfl
   ·refine Sc ?_;refine As<|Ab<|Rg [0,1]<|Vs 2<|UY ?_;have hr:=AN hq h5;exact ⟨hd,Nat.lt_succ_self _,(W64 (h0 + 1)),F1,hr,h1,h4,fI⟩
  ·refine Ex ?_;refine Ar<|Ar<|AC rfl ?_;have hs:=AO hh h5;exact .inl ⟨rfl,h0,F1,hs,h1,h4,fI⟩
 ·rintro f b5 ⟨h8,F2,rfl,ht,b6,⟨_,rfl⟩⟩;have hu:=Bv h7;refine Ab<|Sq (Rg [0] ?_);refine Vs 1<|Nt<|Rt ?_;obtain rfl:=Aa hu;exact Re [(vi (-1))] ht rfl
def Cc (N:Nat) (x0:Vp):Option Int:=
 ((EX N x0 9 (fun y0=>Bj N y0)).bind fun h0=>(bif (!h0) then some (-1) else ((Eb N x0).bind fun h1=>some h1.1)))
theorem DI:Af Tryz.prog 165:=fun _ _=>by kernel_rfl
theorem Eo (N:Nat) (w0:World) (F0:Mem) (hF:Vr w0 F0) (hG:Bt F0) (x0:Vp) (r:Int) (h:Cc N x0=some r):
  Calls Tryz.prog 165 ([(sv x0)]:List Value).toArray w0 (AF w0 F0 fun F' v=>v=(vi r)):=by
 have h1:=U4 hF;refine Go 14 Tryz.func165<|Sq (Rg [0] ?_);refine Vs 1<|Nss<|Sq (Rg [0,1,2] ?_);refine Vs 1 ?_;obtain ⟨hf,h2,h3⟩:=bS h;refine Cl' EU h1 (Fv N w0 F0 h1.pers x0 9 199 [] [] (fun y0=>Bj N y0) Fa (fun w1 F1 y0 r hg h4 h5=>FT N w1 F1 h4 y0 r h5) _ h2) ?_;rintro _ F1 h6 h0 h7 rfl;refine Vs 1<|Nt<|Cd h3 (fun h8 h9=>?_) (fun h8 ha=>?_)
 ·refine Sq (Rg [0] ?_);refine Vs 1<|Nt<|Rt<|Ae ?_;obtain rfl:=Aa h9;exact Re [(vi (-1))] h0 rfl
 ·refine Sc ?_;refine Ab<|Sq (Rg (rG 7) ?_);refine Vs 1 ?_;obtain ⟨hb,hc,hd⟩:=bS ha;refine Cl' G5 h0 (HM N h6 F1 h0.pers (hG.mono h7) x0 _ hc) ?_;rintro _ F2 hh he hk ⟨hl,rfl,hm⟩;refine Vs 5<|Nss (Rg [0,1] ?_);refine Vs 2<|Nt<|Rt ?_;obtain rfl:=Aa hd;exact Re [(vi hb.1)] he rfl
def Fz (N:Nat) (x0:Vp):Option (Int×Int):=
 ((strings_Cut N x0 ([32]:Vp)).bind fun h2=>((Cc N h2.1).bind fun h1=>((Cc N h2.2.1).bind fun h0=>(bif ((decide (h1 < 1))||((decide (h1 > 20000))||(decide (h0 < 0)))) then some (0,13) else ((CW N (W64 ((W64 ((W64 ((W64 (h1 - 1)) * 1440)) + (W64 ((W64 (Int.tdiv h0 100)) * 60)))) + (Int.tmod h0 100)))).bind fun h3=>(bif ((h3.2 !=0)||(h3.1 !=x0)) then some (0,13) else some ((W64 ((W64 ((W64 ((W64 (h1 - 1)) * 1440)) + (W64 ((W64 (Int.tdiv h0 100)) * 60)))) + (Int.tmod h0 100))),0)))))))
theorem JI:Af Tryz.prog 96:=fun _ _=>by kernel_rfl
theorem Kl (N:Nat) (w0:World) (F0:Mem) (hF:Vr w0 F0) (hG:Bt F0) (x0:Vp) (r:(Int×Int)) (h:Fz N x0=some r):
  Calls Tryz.prog 96 ([(sv x0)]:List Value).toArray w0 (AF w0 F0 fun F' v=>v=(.tuple #[(vi r.1),(vi r.2)])):=by
 have h9:=U4 hF;refine Go 55 Tryz.func96<|Sq (Rg [0,1] ?_);refine Vs 2<|Nss (Rg (rG 9) ?_);refine Vs 1 ?_;obtain ⟨ha,hg,hh⟩:=bS h;refine Cl' HC h9 (IF N w0 F0 h9.pers hG x0 (([32]:Vp)) _ hg) ?_;rintro _ F1 hk hb h5 rfl;refine Vs 7<|Nss (Rg (rG 6) ?_);refine Vs 1 ?_;obtain ⟨h0,hl,hm⟩:=bS hh;refine Cl' DI hb (Eo N hk F1 hb.pers (hG.mono h5) ha.1 _ hl) ?_;rintro _ F2 hn hc hd rfl;refine Vs 1 ?_;obtain ⟨h1,ho,hp⟩:=bS hm;refine Cl' DI hc (Eo N hn F2 hc.pers (hG.mono (h5.t hd)) ha.2.1 _ ho) ?_;rintro _ F3 b1 h6 hq rfl;refine Vs 2<|Nss<|Sq (Rg (rG 10) ?_);refine U8 (fun f w=>∃ (F4:Mem),HS w0 F0 w F4 []/\U2 F3 F4/\FI f [] [(0,(sv x0)),(7,(vi h0)),(8,(vi h1)),(31,(.bool ((decide (h0 < 1))||((decide (h0 > 20000))||(decide (h1 < 0))))))]) ?_ ?_
 ·refine Vs 3 ?_;refine U7 (decide (h0 < 1)) (fun h2=>?_) (fun h2=>?_)
  ·refine Ss h2 2 ?_;refine Pk1 h2<|Vs 1<|Ss (rfl:true=true) 2<|Pk1 (rfl:true=true) ?_;exact UY ⟨rfl,F3,h6,(U3 _),(fJ ⟨rfl,rfl,rfl,(congrArg Value.bool (Hp h2 rfl)),trivial⟩)⟩
  ·refine Vgs h2 2 ?_;refine Pk0 h2<|Vs 1<|U7 (decide (h0 > 20000)) (fun h3=>?_) (fun h3=>?_)
   ·refine Ss h3 2 ?_;refine Pk1 h3 ?_;exact UY ⟨rfl,F3,h6,(U3 _),(fJ ⟨rfl,rfl,rfl,(congrArg Value.bool (Dz h2 (Hp h3 rfl))),trivial⟩)⟩
   ·refine Vgs h3 2 ?_;refine Pk0 h3 ?_;exact UY ⟨rfl,F3,h6,(U3 _),(fJ ⟨rfl,rfl,rfl,(congrArg Value.bool (Dz h2 (Dz h3 rfl))),trivial⟩)⟩
 ·rintro f hr ⟨F4,h7,hs,⟨_,rfl⟩⟩;refine Ab<|Cd hp (fun ht hu=>?_) (fun ht hv=>?_)
  ·refine Sq (Rg [0,1] ?_);refine Vs 2<|Nt<|Rt<|Ae ?_;obtain rfl:=Aa hu;exact Re [(vi 0),(vi 13)] h7 rfl
  ·refine Sc ?_;refine Ab<|Sq (Rg (rG 11) ?_);refine Vs 11<|Nss<|Sq (Rg (rG 7) ?_);refine Vs 1 ?_;obtain ⟨h8,hw,hx⟩:=bS hv;refine Cl' Gy h7 (Ha N hr F4 h7.pers (hG.mono (((h5.t hd).trans hq).trans hs)) ((W64 ((W64 ((W64 ((W64 (h0 - 1)) * 1440)) + (W64 ((W64 (Int.tdiv h1 100)) * 60)))) + (Int.tmod h1 100)))) _ hw) ?_;rintro _ F5 b2 he b3 rfl;refine Vs 5<|Nss (Rg (rG 7) ?_);refine U8 (fun f w=>∃ (F6:Mem),HS w0 F0 w F6 []/\U2 F5 F6/\FI f [] [(9,(vi (W64 ((W64 ((W64 ((W64 (h0 - 1)) * 1440)) + (W64 ((W64 (Int.tdiv h1 100)) * 60)))) + (Int.tmod h1 100))))),(53,(.bool ((h8.2 !=0)||(h8.1 !=x0))))]) ?_ ?_
   ·refine Vs 3 ?_;refine U7 (h8.2 !=0) (fun h4=>?_) (fun h4=>?_)
    ·refine Ss h4 3 ?_;refine Pk1 h4 ?_;exact UY ⟨rfl,F5,he,(U3 _),(fJ ⟨rfl,(congrArg Value.bool (Hp h4 rfl)),trivial⟩)⟩
    ·refine Vgs h4 3 ?_;refine Pk0 h4 ?_;exact UY ⟨rfl,F5,he,(U3 _),(fJ ⟨rfl,(congrArg Value.bool (Dz h4 rfl)),trivial⟩)⟩
   ·rintro f b4 ⟨F6,hf,b5,⟨_,rfl⟩⟩;refine Ab<|Cd hx (fun hy hz=>?_) (fun hy b0=>?_)
    ·refine Sq (Rg [0,1] ?_);refine Vs 2<|Nt<|Rt<|Ae ?_;obtain rfl:=Aa hz;exact Re [(vi 0),(vi 13)] hf rfl
    ·refine Sc ?_;refine Ab<|Sq (Rg [0,1,2] ?_);refine Vs 3<|Nt<|Rt ?_;obtain rfl:=Aa b0;exact Re [(vi (W64 ((W64 ((W64 ((W64 (h0 - 1)) * 1440)) + (W64 ((W64 (Int.tdiv h1 100)) * 60)))) + (Int.tmod h1 100)))),(vi 0)] hf rfl
def D0 (N:Nat) (x0:Ac) (x1:Vp):Option (Ad×Int):=
 ((strings_Split N x1 ([32]:Vp)).bind fun h2=>(((CH N ({Report:=x0.Report,Serial:=x0.Serial,Zone:=x0.Zone}:Ac) ({Report:=0,Serial:=0,Zone:=0}:Ad)).bind fun h5=>((idx h5 0).bind fun h6=>(bif h6.has_ then some (decide ((h2.length:Int) > 0)) else some false))).bind fun h7=>((bif h7 then ((idx h2 0).bind fun h8=>((Cc N h8).bind fun h9=>((sub h2 1 (h2.length:Int)).bind fun ha=>some (ha,h9)))) else some (h2,0)).bind fun h0=>(((CH N ({Report:=x0.Report,Serial:=x0.Serial,Zone:=x0.Zone}:Ac) ({Report:=h0.2,Serial:=0,Zone:=0}:Ad)).bind fun hb=>((idx hb 1).bind fun hc=>(bif hc.has_ then some (decide ((h0.1.length:Int) > 0)) else some false))).bind fun hd=>((bif hd then ((idx h0.1 0).bind fun he=>((Cc N he).bind fun hf=>((sub h0.1 1 (h0.1.length:Int)).bind fun hg=>some (hg,hf)))) else some (h0.1,0)).bind fun h1=>(((CH N ({Report:=x0.Report,Serial:=x0.Serial,Zone:=x0.Zone}:Ac) ({Report:=h0.2,Serial:=h1.2,Zone:=0}:Ad)).bind fun hh=>((idx hh 2).bind fun hk=>(bif hk.has_ then some (decide ((h1.1.length:Int) > 0)) else some false))).bind fun hl=>((bif hl then ((idx h1.1 0).bind fun hm=>((Cc N hm).bind fun hn=>((sub h1.1 1 (h1.1.length:Int)).bind fun ho=>some (ho,hn)))) else some (h1.1,0)).bind fun h3=>((BF N ({Report:=x0.Report,Serial:=x0.Serial,Zone:=x0.Zone}:Ac) ({Report:=h0.2,Serial:=h1.2,Zone:=h3.2}:Ad)).bind fun h4=>(bif ((h4.2 !=0)||(h4.1 !=x1)) then some (({Report:=0,Serial:=0,Zone:=0}:Ad),1) else some (({Report:=h0.2,Serial:=h1.2,Zone:=h3.2}:Ad),0))))))))))
theorem Hd:Af Tryz.prog 97:=fun _ _=>by kernel_rfl
theorem HP (N:Nat) (w0:World) (F0:Mem) (hF:Vr w0 F0) (hG:Bt F0) (x0:Ac) (x1:Vp) (r:(Ad×Int)) (h:D0 N x0 x1=some r):
  Calls Tryz.prog 97 ([(.agg (Ah x0)),(sv x1)]:List Value).toArray w0 (AF w0 F0 fun F' v=>v=(.tuple #[(.agg (B6 r.1)),(vi r.2)])):=by
 have bp:=U4 hF;refine Go 60 Tryz.func97<|Sq (Rg [0,1,2] ?_);refine Bx' 23 (Ah x0) bp (fun h5 gw bq=>?_);refine Al' 32 #[(vi 0),(vi 0),(vi 0)] bq (fun h4 br b9=>?_);refine Vs 1<|Nss (Rg [0,1,2] ?_);refine Vs 1 ?_;obtain ⟨hv,bs,bt⟩:=bS h;refine Cl' CC b9 (CT N br F0 b9.pers hG x1 (([32]:Vp)) _ bs) ?_;rintro _ F1 gx bu hq ⟨ba,hw,rfl,bb,hx⟩;refine Vs 1<|Nss (Rg [0] ?_);refine Al' 32 #[(vi 0),(vi 0),(vi 0)] bu (fun h0 gy bv=>?_);refine Nss<|Sq (Rg (rG 6) ?_);refine Vs 3<|Bs 194 [(pt h0 0),(pt h0 1),(pt h0 2)] bv (fun h2 bw hd=>?_);refine Vs 2<|Nt<|Bk<|CWP.unroll (by kernel_rfl) 4<|URL.step<|Sq (Rg [0] ?_);refine Vs 1<|Nss<|C1 (rfl:true=true)<|Sc<|Ab<|Sq<|Bk<|Sq (Rg (rG 5) ?_);refine Vs 1<|V 22 0 (TA (v1:=(pt h2 0)) (by rfl) (DQ (t:=200) (x:=(.tmp 17)) (y:=(.tmp 19)) (b:=h2) (nn:=3) (c:=3) (E:=194) (s:=1) (by_:=8) (j:=0) rfl rfl (by kernel_rfl) (by decide)))<|Ld hd.at0<|Vs 2<|Nss (Rg (rG 12) ?_);obtain ⟨bx,bz,c0⟩:=bS bt;refine U8 (fun f w=>∃ (F2:Mem),HS w0 F0 w F2 [(sb h2 #[(pt h0 0),(pt h0 1),(pt h0 2)] 194),(sb h0 #[(vi 0),(vi 0),(vi 0)] 32),(sb h4 #[(vi 0),(vi 0),(vi 0)] 32),(sb h5 (Ah x0) 23)]/\U2 F1 F2/\FI f [] [(1,(sv x1)),(2,(pt h5 0)),(4,(pt h4 0)),(6,(sL ba hv hw)),(7,(pt h0 0)),(9,(pt h0 0)),(17,(.slice (some ⟨h2,0,none⟩) 3 3)),(18,(vi 3)),(19,(vi 0)),(35,(.bool bx))]) ?_ ?_
 ·refine Ld hd.at3 ?_;refine Ld hd.at1 ?_;obtain ⟨gz,c1,c3⟩:=bS bz;refine Cl' Ej hd (EV N bw F1 hd.pers (({Report:=x0.Report,Serial:=x0.Serial,Zone:=x0.Zone}:Ac)) (({Report:=0,Serial:=0,Zone:=0}:Ad)) _ c1) ?_;rintro _ F3 i0 hy bc ⟨i1,i2,rfl,i3,c4⟩;refine Vs 1 ?_;obtain ⟨i4,c5,c6⟩:=bS c3;obtain ⟨c7,hx67'⟩:=Aq c5;obtain ⟨i5,i6,i7,i8,i9,rfl,hF76,hE77⟩:=Va c4 hx67';have c8:=hE77 _ _ hx67';refine Ix c7<|Vs 1<|Lx 0 (hy.pers _ _ hF76) c8<|Vs 1<|Sp c6 (fun he c9=>?_) (fun he ca=>?_)
  ·refine Vgs he 3 ?_;refine Pk1 he ?_;obtain rfl:=Aa c9;exact UY ⟨rfl,F3,hy,bc,fI⟩
  ·refine Ss he 3 ?_;refine Pk0 he ?_;obtain rfl:=Aa ca;exact UY ⟨rfl,F3,hy,bc,fI⟩
 ·rintro f cb ⟨F2,hr,h7,⟨_,rfl⟩⟩;refine Ab ?_;obtain ⟨h1,cc,cd⟩:=bS c0;refine U9 (fun f w=>∃ (F4:Mem) (hf:Vq) (h9:Nat),HS w0 F0 w F4 [(sb h2 #[(pt h0 0),(pt h0 1),(pt h0 2)] 194),(sb h0 #[(vi h1.2),(vi 0),(vi 0)] 32),(sb h4 #[(vi 0),(vi 0),(vi 0)] 32),(sb h5 (Ah x0) 23)]/\U2 F2 F4/\FI f [] [(1,(sv x1)),(2,(pt h5 0)),(4,(pt h4 0)),(6,(sL hf h1.1 h9)),(7,(pt h0 0)),(17,(.slice (some ⟨h2,0,none⟩) 3 3)),(18,(vi 3)),(19,(vi 0))]/\LC h1.1.length h9/\SlA AV F4 hf h1.1) ?_ ?_
  ·refine Cd cc (fun ce cf=>?_) (fun ce cg=>?_)
   ·refine Sq (Rg (rG 7) ?_);refine Vs 2 ?_;obtain ⟨ch,ci,cj⟩:=bS cf;obtain ⟨cl,hx102'⟩:=Aq ci;obtain ⟨cm,cn,ia,ib,ic,rfl,hF111,hE112⟩:=Va (U5 hx h7) hx102';have co:=hE112 _ _ hx102';refine Ix cl<|Lx 0 (hr.pers _ _ hF111) co ?_;obtain ⟨cp,cq,cr⟩:=bS cj;refine Cl' DI hr (Eo N cb F2 hr.pers (hG.mono (hq.t h7)) ch _ cq) ?_;rintro _ F5 ie ct bd rfl;refine Vs 1<|St1 #[(vi cp),(vi 0),(vi 0)] ct (fun ig cu=>?_);refine Nt<|Rg [0,1,2]<|Vs 1 ?_;obtain ⟨cv,cw,cx⟩:=bS cr;obtain ⟨cy,cz,d0,d1,d2⟩:=Fj (P:=Tryz.prog) (T:=AV) (lo:=(some (.const (vi 1)))) (hi:=none) (mx:=none) (t:=55) (E:=9) (by_:=16) (c:=hw) (a:=(some ⟨cm,cn,none⟩)) (l:=hv) (r:=cv) (il:=1) (ih:=(hv.length:Int)) (im:=0) (by kernel_rfl) (by kernel_rfl) bb (U5 hx (h7.t bd)) (fun h=>by first | rfl | cases h) cw;refine V 43 55 (d2 (x:=(.tmp 42)) rfl rfl rfl trivial)<|Vs 1<|UY ?_;obtain rfl:=Aa cx;exact .inl ⟨rfl,F5,cy,cz,cu,bd,fI,d0,d1⟩
   ·refine Sc ?_;obtain rfl:=Aa cg;exact .inl ⟨rfl,F2,ba,hw,hr,(U3 _),fI,bb,(U5 hx h7)⟩
  ·rintro f d3 ⟨F4,hf,h9,hg,hz,⟨_,rfl⟩,be,b0⟩;refine As<|Ab<|Rg [0,1]<|Vs 2<|Nt<|URL.step<|Sq (Rg [0] ?_);refine Vs 1<|Nss<|C1 (rfl:true=true)<|Sc<|Ab<|Sq<|Bk<|Sq (Rg (rG 5) ?_);refine Vs 1<|V 22 0 (TA (v1:=(pt h2 1)) (by rfl) (DQ (t:=200) (x:=(.tmp 17)) (y:=(.tmp 19)) (b:=h2) (nn:=3) (c:=3) (E:=194) (s:=1) (by_:=8) (j:=1) rfl rfl (by kernel_rfl) (by decide)))<|Ld hg.at0<|Vs 2<|Nss (Rg (rG 12) ?_);obtain ⟨d4,d6,d7⟩:=bS cd;refine U8 (fun f w=>∃ (F6:Mem),HS w0 F0 w F6 [(sb h2 #[(pt h0 0),(pt h0 1),(pt h0 2)] 194),(sb h0 #[(vi h1.2),(vi 0),(vi 0)] 32),(sb h4 #[(vi 0),(vi 0),(vi 0)] 32),(sb h5 (Ah x0) 23)]/\U2 F4 F6/\FI f [] [(1,(sv x1)),(2,(pt h5 0)),(4,(pt h4 0)),(6,(sL hf h1.1 h9)),(7,(pt h0 0)),(9,(pt h0 1)),(17,(.slice (some ⟨h2,0,none⟩) 3 3)),(18,(vi 3)),(19,(vi 1)),(35,(.bool d4))]) ?_ ?_
   ·refine Ld hg.at3 ?_;refine Ld hg.at1 ?_;obtain ⟨ii,d8,d9⟩:=bS d6;refine Cl' Ej hg (EV N d3 F4 hg.pers (({Report:=x0.Report,Serial:=x0.Serial,Zone:=x0.Zone}:Ac)) (({Report:=h1.2,Serial:=0,Zone:=0}:Ad)) _ d8) ?_;rintro _ F7 ij b1 bf ⟨ik,io,rfl,ip,da⟩;refine Vs 1 ?_;obtain ⟨iq,db,dc⟩:=bS d9;obtain ⟨dd,hx159'⟩:=Aq db;obtain ⟨ir,it,iu,iv,iw,rfl,hF168,hE169⟩:=Va da hx159';have de:=hE169 _ _ hx159';refine Ix dd<|Vs 1<|Lx 0 (b1.pers _ _ hF168) de<|Vs 1<|Sp dc (fun hh df=>?_) (fun hh dg=>?_)
    ·refine Vgs hh 3 ?_;refine Pk1 hh ?_;obtain rfl:=Aa df;exact UY ⟨rfl,F7,b1,bf,fI⟩
    ·refine Ss hh 3 ?_;refine Pk0 hh ?_;obtain rfl:=Aa dg;exact UY ⟨rfl,F7,b1,bf,fI⟩
   ·rintro f dh ⟨F6,hs,ha,⟨_,rfl⟩⟩;refine Ab ?_;obtain ⟨h3,di,dj⟩:=bS d7;refine U9 (fun f w=>∃ (F8:Mem) (hk:Vq) (hb:Nat),HS w0 F0 w F8 [(sb h2 #[(pt h0 0),(pt h0 1),(pt h0 2)] 194),(sb h0 #[(vi h1.2),(vi h3.2),(vi 0)] 32),(sb h4 #[(vi 0),(vi 0),(vi 0)] 32),(sb h5 (Ah x0) 23)]/\U2 F6 F8/\FI f [] [(1,(sv x1)),(2,(pt h5 0)),(4,(pt h4 0)),(6,(sL hk h3.1 hb)),(7,(pt h0 0)),(17,(.slice (some ⟨h2,0,none⟩) 3 3)),(18,(vi 3)),(19,(vi 1))]/\LC h3.1.length hb/\SlA AV F8 hk h3.1) ?_ ?_
    ·refine Cd di (fun dk dl=>?_) (fun dk dm=>?_)
     ·refine Sq (Rg (rG 7) ?_);refine Vs 2 ?_;obtain ⟨dn,dp,dq⟩:=bS dl;obtain ⟨dr,hx194'⟩:=Aq dp;obtain ⟨ds,dt,iy,iz,j0,rfl,hF203,hE204⟩:=Va (U5 b0 ha) hx194';have du:=hE204 _ _ hx194';refine Ix dr<|Lx 0 (hs.pers _ _ hF203) du ?_;obtain ⟨dv,dw,dx⟩:=bS dq;refine Cl' DI hs (Eo N dh F6 hs.pers (hG.mono (((hq.t h7).trans hz).trans ha)) dn _ dw) ?_;rintro _ F9 j1 dy bg rfl;refine Vs 1<|St1 #[(vi h1.2),(vi dv),(vi 0)] dy (fun j2 dz=>?_);refine Nt<|Rg [0,1,2]<|Vs 1 ?_;obtain ⟨e0,e1,e2⟩:=bS dx;obtain ⟨e3,e4,e6,e7,e8⟩:=Fj (P:=Tryz.prog) (T:=AV) (lo:=(some (.const (vi 1)))) (hi:=none) (mx:=none) (t:=55) (E:=9) (by_:=16) (c:=h9) (a:=(some ⟨ds,dt,none⟩)) (l:=h1.1) (r:=e0) (il:=1) (ih:=(h1.1.length:Int)) (im:=0) (by kernel_rfl) (by kernel_rfl) be (U5 b0 (ha.t bg)) (fun h=>by first | rfl | cases h) e1;refine V 43 55 (e8 (x:=(.tmp 42)) rfl rfl rfl trivial)<|Vs 1<|UY ?_;obtain rfl:=Aa e2;exact .inl ⟨rfl,F9,e3,e4,dz,bg,fI,e6,e7⟩
     ·refine Sc ?_;obtain rfl:=Aa dm;exact .inl ⟨rfl,F6,hf,h9,hs,(U3 _),fI,be,(U5 b0 ha)⟩
    ·rintro f e9 ⟨F8,hk,hb,hl,bh,⟨_,rfl⟩,bi,b2⟩;refine As<|Ab<|Rg [0,1]<|Vs 2<|Nt<|URL.step<|Sq (Rg [0] ?_);refine Vs 1<|Nss<|C1 (rfl:true=true)<|Sc<|Ab<|Sq<|Bk<|Sq (Rg (rG 5) ?_);refine Vs 1<|V 22 0 (TA (v1:=(pt h2 2)) (by rfl) (DQ (t:=200) (x:=(.tmp 17)) (y:=(.tmp 19)) (b:=h2) (nn:=3) (c:=3) (E:=194) (s:=1) (by_:=8) (j:=2) rfl rfl (by kernel_rfl) (by decide)))<|Ld hl.at0<|Vs 2<|Nss (Rg (rG 12) ?_);obtain ⟨ea,eb,ec⟩:=bS dj;refine U8 (fun f w=>∃ (hc:Mem),HS w0 F0 w hc [(sb h2 #[(pt h0 0),(pt h0 1),(pt h0 2)] 194),(sb h0 #[(vi h1.2),(vi h3.2),(vi 0)] 32),(sb h4 #[(vi 0),(vi 0),(vi 0)] 32),(sb h5 (Ah x0) 23)]/\U2 F8 hc/\FI f [] [(1,(sv x1)),(2,(pt h5 0)),(4,(pt h4 0)),(6,(sL hk h3.1 hb)),(7,(pt h0 0)),(9,(pt h0 2)),(17,(.slice (some ⟨h2,0,none⟩) 3 3)),(18,(vi 3)),(19,(vi 2)),(35,(.bool ea))]) ?_ ?_
     ·refine Ld hl.at3 ?_;refine Ld hl.at1 ?_;obtain ⟨j3,ed,ee⟩:=bS eb;refine Cl' Ej hl (EV N e9 F8 hl.pers (({Report:=x0.Report,Serial:=x0.Serial,Zone:=x0.Zone}:Ac)) (({Report:=h1.2,Serial:=h3.2,Zone:=0}:Ad)) _ ed) ?_;rintro _ bj j4 b3 bk ⟨j5,j6,rfl,j7,ef⟩;refine Vs 1 ?_;obtain ⟨j8,eg,eh⟩:=bS ee;obtain ⟨ei,hx251'⟩:=Aq eg;obtain ⟨j9,ja,jb,jc,jd,rfl,hF260,hE261⟩:=Va ef hx251';have ej:=hE261 _ _ hx251';refine Ix ei<|Vs 1<|Lx 0 (b3.pers _ _ hF260) ej<|Vs 1<|Sp eh (fun hm ek=>?_) (fun hm el=>?_)
      ·refine Vgs hm 3 ?_;refine Pk1 hm ?_;obtain rfl:=Aa ek;exact UY ⟨rfl,bj,b3,bk,fI⟩
      ·refine Ss hm 3 ?_;refine Pk0 hm ?_;obtain rfl:=Aa el;exact UY ⟨rfl,bj,b3,bk,fI⟩
     ·rintro f en ⟨hc,ht,hn,⟨_,rfl⟩⟩;refine Ab ?_;obtain ⟨h6,eo,ep⟩:=bS ec;refine U9 (fun f w=>∃ (ho:Mem) (b4:Vq) (b5:Nat),HS w0 F0 w ho [(sb h2 #[(pt h0 0),(pt h0 1),(pt h0 2)] 194),(sb h0 #[(vi h1.2),(vi h3.2),(vi h6.2)] 32),(sb h4 #[(vi 0),(vi 0),(vi 0)] 32),(sb h5 (Ah x0) 23)]/\U2 hc ho/\FI f [] [(1,(sv x1)),(2,(pt h5 0)),(4,(pt h4 0)),(6,(sL b4 h6.1 b5)),(7,(pt h0 0)),(17,(.slice (some ⟨h2,0,none⟩) 3 3)),(18,(vi 3)),(19,(vi 2))]/\LC h6.1.length b5/\SlA AV ho b4 h6.1) ?_ ?_
      ·refine Cd eo (fun er et=>?_) (fun er eu=>?_)
       ·refine Sq (Rg (rG 7) ?_);refine Vs 2 ?_;obtain ⟨ev,ew,ex⟩:=bS et;obtain ⟨ey,hx286'⟩:=Aq ew;obtain ⟨ez,g0,je,jf,jg,rfl,hF295,hE296⟩:=Va (U5 b2 hn) hx286';have g1:=hE296 _ _ hx286';refine Ix ey<|Lx 0 (ht.pers _ _ hF295) g1 ?_;obtain ⟨g2,g3,g4⟩:=bS ex;refine Cl' DI ht (Eo N en hc ht.pers (hG.mono (((((hq.t h7).trans hz).trans ha).trans bh).trans hn)) ev _ g3) ?_;rintro _ g5 jh g6 bl rfl;refine Vs 1<|St1 #[(vi h1.2),(vi h3.2),(vi g2)] g6 (fun ji g7=>?_);refine Nt<|Rg [0,1,2]<|Vs 1 ?_;obtain ⟨g8,g9,ga⟩:=bS g4;obtain ⟨gh,gi,gk,gl,gm⟩:=Fj (P:=Tryz.prog) (T:=AV) (lo:=(some (.const (vi 1)))) (hi:=none) (mx:=none) (t:=55) (E:=9) (by_:=16) (c:=hb) (a:=(some ⟨ez,g0,none⟩)) (l:=h3.1) (r:=g8) (il:=1) (ih:=(h3.1.length:Int)) (im:=0) (by kernel_rfl) (by kernel_rfl) bi (U5 b2 (hn.t bl)) (fun h=>by first | rfl | cases h) g9;refine V 43 55 (gm (x:=(.tmp 42)) rfl rfl rfl trivial)<|Vs 1<|UY ?_;obtain rfl:=Aa ga;exact .inl ⟨rfl,g5,gh,gi,g7,bl,fI,gk,gl⟩
       ·refine Sc ?_;obtain rfl:=Aa eu;exact .inl ⟨rfl,hc,hk,hb,ht,(U3 _),fI,bi,(U5 b2 hn)⟩
      ·rintro f gn ⟨ho,b4,b5,hu,go,⟨_,rfl⟩,jj,jk⟩;refine As<|Ab<|Rg [0,1]<|Vs 2<|Nt<|URL.step<|Sq (Rg [0] ?_);refine Vs 1<|Nss<|C0 (rfl:false=false)<|Ex<|Ar<|Ar<|AC rfl<|Ab<|Sq<|Sq (Rg (rG 8) ?_);refine Ld hu.at3<|Ld hu.at1 ?_;obtain ⟨b6,gp,gr⟩:=bS ep;refine Cl' Dd hu (DD N gn ho hu.pers (hG.mono ((((((hq.t h7).trans hz).trans ha).trans bh).trans hn).trans go)) (({Report:=x0.Report,Serial:=x0.Serial,Zone:=x0.Zone}:Ac)) (({Report:=h1.2,Serial:=h3.2,Zone:=h6.2}:Ad)) _ gp) ?_;rintro _ b7 jl bm jm rfl;refine Vs 5<|Nss (Rg (rG 7) ?_);refine U8 (fun f w=>∃ (hp:Mem),HS w0 F0 w hp [(sb h0 #[(vi h1.2),(vi h3.2),(vi h6.2)] 32),(sb h4 #[(vi 0),(vi 0),(vi 0)] 32)]/\U2 b7 hp/\FI f [] [(4,(pt h4 0)),(7,(pt h0 0)),(57,(.bool ((b6.2 !=0)||(b6.1 !=x1))))]) ?_ ?_
       ·refine Vs 3 ?_;refine U7 (b6.2 !=0) (fun h8=>?_) (fun h8=>?_)
        ·refine Ss h8 3 ?_;refine Pk1 h8 ?_;exact UY ⟨rfl,b7,bm.dr0.dr2,(U3 _),(fJ ⟨rfl,rfl,(congrArg Value.bool (Hp h8 rfl)),trivial⟩)⟩
        ·refine Vgs h8 3 ?_;refine Pk0 h8 ?_;exact UY ⟨rfl,b7,bm.dr0.dr2,(U3 _),(fJ ⟨rfl,rfl,(congrArg Value.bool (Dz h8 rfl)),trivial⟩)⟩
       ·rintro f jo ⟨hp,b8,jp,⟨_,rfl⟩⟩;refine Ab<|Cd gr (fun gs gu=>?_) (fun gs gv=>?_)
        ·refine Sq (Rg [0,1,2] ?_);refine Vs 1<|St1 #[(vi 0),(vi 0),(vi 0)] b8 (fun jq bn=>?_);refine Vs 1<|Nt<|Rt<|Ae ?_;obtain rfl:=Aa gu;exact ⟨rfl,(.tuple #[(.agg #[(vi 0),(vi 0),(vi 0)]),(vi 1)]),AH (l:=[.cell 4 32,.tmp 5]) (by kernel_rfl) (vs:=[(.agg #[(vi 0),(vi 0),(vi 0)]),(vi 1)]) ⟨h4,0,rfl,Aj (t:=32) (g:=true) (s:=3) (by kernel_rfl) bn.at1 rfl (by decide),⟨rfl,trivial⟩⟩,(.tuple #[(.agg #[(vi 0),(vi 0),(vi 0)]),(vi 1)]),hp,rfl,bn.clear,rfl⟩
        ·refine Sc ?_;refine Ab<|Sq (Rg [0,1,2] ?_);refine Ld b8.at0<|St1 #[(vi h1.2),(vi h3.2),(vi h6.2)] b8 (fun jr bo=>?_);refine Vs 1<|Nt<|Rt ?_;obtain rfl:=Aa gv;exact ⟨rfl,(.tuple #[(.agg #[(vi h1.2),(vi h3.2),(vi h6.2)]),(vi 0)]),AH (l:=[.cell 4 32,.tmp 5]) (by kernel_rfl) (vs:=[(.agg #[(vi h1.2),(vi h3.2),(vi h6.2)]),(vi 0)]) ⟨h4,0,rfl,Aj (t:=32) (g:=true) (s:=3) (by kernel_rfl) bo.at1 rfl (by decide),⟨rfl,trivial⟩⟩,(.tuple #[(.agg #[(vi h1.2),(vi h3.2),(vi h6.2)]),(vi 0)]),hp,rfl,bo.clear,rfl⟩





def BX (N:Nat) (x0:(List Int)) (x1:(List Int)):Int->Option (Bm Bool Int):=fun h0=>
 (bif (decide (h0 < (x0.length:Int))) then (((idx x0 h0).bind fun h1=>((idx x1 h0).bind fun h2=>some (h1 !=h2))).bind fun h3=>(bif h3 then some (.ret false) else some (.next (W64 (h0 + 1))))) else some (.done h0))
def Cr (N:Nat) (x0:(List Int)) (x1:(List Int)):Option Bool:=
 (bif ((x0.length:Int)!=(x1.length:Int)) then some false else ((AW (BX N x0 x1) N 0).bind fun o=>o.k (fun r=>some r) (fun h0=>some true)))
theorem Gw:Af Tryz.prog 118:=fun _ _=>by kernel_rfl
theorem GT (N:Nat) (w0:World) (F0:Mem) (hF:Vr w0 F0) (x0:(List Int)) (h1:Vq) (h2:Nat) (bc:LC x0.length h2) (hd:SlA AG F0 h1 x0) (x1:(List Int)) (h3:Vq) (h4:Nat) (bd:LC x1.length h4) (he:SlA AG F0 h3 x1) (r:Bool) (h:Cr N x0 x1=some r):
  Calls Tryz.prog 118 ([(sL h1 x0 h2),(sL h3 x1 h4)]:List Value).toArray w0 (AF w0 F0 fun F' v=>v=(.bool r)):=by
 have h7:=U4 hF;refine Go 26 Tryz.func118<|Sq (Rg [0] ?_);refine Vs 1<|Nss<|Sq (Rg (rG 5) ?_);refine Vs 5<|Nt<|Cd h (fun hf hg=>?_) (fun hf hh=>?_)
 ·refine Sq (Rg [0] ?_);refine Vs 1<|Nt<|Rt<|Ae ?_;obtain rfl:=Aa hg;exact Re [(.bool false)] h7 rfl
 ·refine Sc ?_;refine Ab<|Sq<|Sq (Rg [0,1,2] ?_);refine Vs 3<|Nt ?_;obtain ⟨h8,hk,h9⟩:=bS hh;refine U9 (fun f w=>∃ (ha:Int) (F2:Mem),h8=.done ha/\HS w0 F0 w F2 []/\U2 F0 F2/\FI f [] []) ?_ ?_
  ·refine Bk ?_;refine U1 (by kernel_rfl) (fun m f w=>∃ (h0:Int) (F1:Mem),AW (BX N x0 x1) m h0=some h8/\HS w0 F0 w F1 []/\U2 F0 F1/\FI f [] [(0,(sL h1 x0 h2)),(1,(sL h3 x1 h4)),(12,(vi (x0.length:Int))),(13,(vi h0))]) N ⟨0,F0,hk,h7,(U3 _),fI⟩ ?_;rintro be f bf ⟨h0,F1,hl,hb,h5,⟨_,rfl⟩⟩;obtain ⟨hm,bg,rfl,hn,h6⟩:=AM hl;refine Sq (Rg [0] ?_);refine Vs 1<|Nss<|Cd hn (fun ho hp=>?_) (fun ho hr=>?_)
   ·refine Sc ?_;refine Ab<|Sq<|Bk<|Sq (Rg [0,1] ?_);refine Vs 2<|Nss ?_;obtain ⟨hs,ht,hu⟩:=bS hp;refine RD 9 9 [] [] hb (fun f w=>∃ (F3:Mem),HS w0 F0 w F3 []/\U2 F1 F3/\FI f [] [(0,(sL h1 x0 h2)),(1,(sL h3 x1 h4)),(12,(vi (x0.length:Int))),(13,(vi h0)),(24,(.bool hs))]) (fun bh hv=>?_) ?_
    ·refine Dv [0,1] ?_;obtain ⟨bi,hw,hx⟩:=bS ht;obtain ⟨hy,hx65'⟩:=Aq hw;obtain ⟨bj,bk,bl,bm,bn,rfl,hF74,hE75⟩:=Va (U5 hd h5) hx65';have hz:=hE75 _ _ hx65';refine Di 2 hy<|Dx 3 0 (fun _ hq=>hq.1.1 _ _ hF74) hz<|Dv [4,5] ?_;obtain ⟨bo,b0,b1⟩:=bS hx;obtain ⟨b2,hx79'⟩:=Aq b0;obtain ⟨bp,bq,br,bs,bt,rfl,hF88,hE89⟩:=Va (U5 he h5) hx79';have b3:=hE89 _ _ hx79';refine Di 6 b2<|Dx 7 0 (fun _ hq=>hq.1.1 _ _ hF88) b3<|Dv [8] ?_;obtain rfl:=Aa b1;exact Vf (by kernel_rfl) ⟨F1,hv,(U3 _),fI⟩
    ·rintro f bu ⟨F3,hc,b4,⟨_,rfl⟩⟩;refine Ab<|Cd hu (fun b5 b6=>?_) (fun b5 b7=>?_)
     ·refine Sq (Rg [0] ?_);refine Vs 1<|Nt<|Rt<|Aw<|Ae<|Ae<|Aw ?_;have hret:=BU b6 h6;subst hret;refine .inr<|Ae ?_;obtain rfl:=Aa h9;exact Re [(.bool false)] hc rfl
     ·refine Sc ?_;refine As<|Ab<|Rg [0,1]<|Vs 2<|UY ?_;have b8:=AN b7 h6;exact ⟨hm,Nat.lt_succ_self _,(W64 (h0 + 1)),F3,b8,hc,(h5.t b4),fI⟩
   ·refine Ex ?_;refine Ar<|Ar<|AC rfl ?_;have b9:=AO hr h6;exact .inl ⟨rfl,h0,F1,b9,hb,h5,fI⟩
  ·rintro f bv ⟨ha,F2,rfl,ba,bw,⟨_,rfl⟩⟩;have bb:=Bv h9;refine Ab<|Sq (Rg [0] ?_);refine Vs 1<|Nt<|Rt ?_;obtain rfl:=Aa bb;exact Re [(.bool true)] ba rfl
def CK (N:Nat) (x0:(List Vp)) (x1:Vp):Option Bool:=
 ((B8 N x0 x1).bind fun h0=>some (decide (h0>=0)))
theorem Ei:Af Tryz.prog 122:=fun _ _=>by kernel_rfl
theorem Eu (N:Nat) (w0:World) (F0:Mem) (hF:Vr w0 F0) (x0:(List Vp)) (h0:Vq) (h1:Nat) (h3:LC x0.length h1) (h4:SlA AV F0 h0 x0) (x1:Vp) (r:Bool) (h:CK N x0 x1=some r):
  Calls Tryz.prog 122 ([(sL h0 x0 h1),(sv x1)]:List Value).toArray w0 (AF w0 F0 fun F' v=>v=(.bool r)):=by
 have h2:=U4 hF;refine Go 9 Tryz.func122<|Sq (Rg [0] ?_);refine Vs 1<|Nss (Rg (rG 5) ?_);refine Vs 2 ?_;obtain ⟨h5,h6,h7⟩:=bS h;refine Cl' CM h2 (CU N w0 F0 h2.pers x0 h0 h1 h3 h4 x1 _ h6) ?_;rintro _ F1 h9 h8 ha rfl;refine Vs 2<|Nt<|Rt ?_;obtain rfl:=Aa h7;exact Re [(.bool (decide (h5>=0)))] h8 rfl
def A7 (N:Nat) (x0:List Fix):(Int×Int×List Fix)->Option (Bm (List Fix) (Int×Int×List Fix)):=fun s4=>
 (bif (decide (s4.1 < s4.2.1)) then none else some (.done (s4.1,s4.2.1,s4.2.2)))
def Bh (N:Nat) (x0:List Fix):Option (List Fix):=
 ((AW (A7 N x0) N (0,(W64 ((x0.length:Int) - 1)),x0)).bind fun o=>o.k (fun r=>some r) (fun h0=>some h0.2.2))
theorem D6:Af Tryz.prog 126:=fun _ _=>by kernel_rfl
theorem El (N:Nat) {wb w0:World} {Fb F0:Mem} {Lf:Own} (x0:List Fix) (a0:Vq) (n0:Nat) (e0:Option Nat×Obj) (h4:Ao DO 64 F0 a0 n0 x0 e0) (h5:HS wb Fb w0 F0 (e0::Lf)) (r:List Fix) (h:Bh N x0=some r):
  Calls Tryz.prog 126 ([.slice a0 x0.length n0]:List Value).toArray w0 (fun e w'=>∃ F' e',e=.returned (.tuple #[])/\HS wb Fb w' F' (e'::Lf)/\U2 F0 F'/\Ao DO 64 F' a0 n0 r e'):=by
 refine Mo (n:=28) (c:=Mu Tryz.f126) Tryz.func126 (by kernel_rfl) (by kernel_rfl) (by kernel_rfl)<|Sq (Rg (rG 5) ?_);refine Vs 1<|Vs 1<|Vs 1<|Vs 1<|Vs 1<|Nt ?_;obtain ⟨o1,h6,h3⟩:=bS h;refine U9 (fun f w=>∃ (h1:(Int×Int×List Fix)) (F2:Mem) (h2:Option Nat×Obj),o1=.done h1/\HS wb Fb w F2 (h2::Lf)/\U2 F0 F2/\FI f [] []/\Ao DO 64 F2 a0 n0 h1.2.2 h2) ?_ ?_
 ·refine Bk ?_;refine U1 (by kernel_rfl) (fun m f w=>∃ (s4:(Int×Int×List Fix)) (F1:Mem) (h0:Option Nat×Obj),AW (A7 N x0) m s4=some o1/\HS wb Fb w F1 (h0::Lf)/\U2 F0 F1/\FI f [] [(0,(sL a0 s4.2.2 n0)),(2,(vi s4.1)),(3,(vi s4.2.1))]/\Ao DO 64 F1 a0 n0 s4.2.2 h0) N ⟨(0,(W64 ((x0.length:Int) - 1)),x0),F0,e0,h6,h5,(U3 _),fI,h4⟩ ?_;rintro hn f w5 ⟨s4,F1,h0,h7,h8,h9,⟨_,rfl⟩,ha⟩;obtain ⟨ho,hp,rfl,hb,hc⟩:=AM h7;refine Sq<|Sq (Rg [0,1,2] ?_);refine Vs 1<|Vs 1<|Vs 1<|Nt<|Cd hb (fun hd he=>?_) (fun hd hf=>?_)
  ·cases he
  ·refine Ex ?_;refine Ar<|Ar<|AC rfl ?_;have hg:=AO hf hc;exact .inl ⟨rfl,(s4.1,s4.2.1,s4.2.2),F1,h0,hg,h8,h9,fI,ha⟩
 ·rintro f hq ⟨h1,F2,h2,rfl,hh,hk,⟨_,rfl⟩,hl⟩;have hm:=Bv h3;have hfin:=Aa hm;subst hfin;exact ⟨rfl,.tuple #[],AH (l:=[]) (by kernel_rfl) (vs:=[]) trivial,F2,_,rfl,hh,hk,hl⟩











def AJ (N:Nat) (x0:(List Line)) (x1:Int) (x2:(Line->Int->Option Int)):(Int×Int)->Option (Bm (Int×Bool) (Int×Int)):=fun h0=>
 (bif (decide (h0.1 < h0.2)) then ((idx x0 (W64 (Int.fdiv (IntKind.u64.wrap (W64 (h0.1 + h0.2))) (2 ^ min (1:Int).toNat IntKind.u64.bits)))).bind fun h2=>((x2 h2 x1).bind fun h1=>some (.next ((bif (decide (h1 < 0)) then (W64 ((W64 (Int.fdiv (IntKind.u64.wrap (W64 (h0.1 + h0.2))) (2 ^ min (1:Int).toNat IntKind.u64.bits))) + 1)) else h0.1),(bif (decide (h1 < 0)) then h0.2 else (W64 (Int.fdiv (IntKind.u64.wrap (W64 (h0.1 + h0.2))) (2 ^ min (1:Int).toNat IntKind.u64.bits)))))))) else some (.done (h0.1,h0.2)))
def A3 (N:Nat) (x0:(List Line)) (x1:Int) (x2:(Line->Int->Option Int)):Option (Int×Bool):=
 ((AW (AJ N x0 x1 x2) N (0,(x0.length:Int))).bind fun o=>o.k (fun r=>some r) (fun h0=>((bif (decide (h0.1 < (x0.length:Int))) then ((idx x0 h0.1).bind fun h1=>((x2 h1 x1).bind fun h2=>some (h2==0))) else some false).bind fun h3=>some (h0.1,h3))))
theorem Ci:Af Tryz.prog 252:=fun _ _=>by kernel_rfl
theorem Cw (N:Nat) (w0:World) (F0:Mem) (hF:Vr w0 F0) (x0:(List Line)) (h9:Vq) (h5:Nat) (br:LC x0.length h5) (he:SlA Az F0 h9 x0) (x1:Int) (h4:FuncId) (h2 h3:List Value) (x2:Line->Int->Option Int) (hf:Af Tryz.prog h4) (hg:Qo F0 h4 h2 h3 x2) (r:(Int×Bool)) (h:A3 N x0 x1 x2=some r):
  Calls Tryz.prog 252 ([(sL h9 x0 h5),(vi x1),(.func (.func h4) h2.toArray h3.toArray)]:List Value).toArray w0 (AF w0 F0 fun F' v=>v=(.tuple #[(vi r.1),(.bool r.2)])):=by
 have ho:=U4 hF;refine Go 49 Tryz.func252<|Sq (Rg [0,1] ?_);refine Vs 2<|Nss (Rg [0,1,2] ?_);refine Vs 3<|Nss (Rg [0,1,2] ?_);refine Vs 3<|Nss ?_;obtain ⟨hh,hp,hq⟩:=bS h;refine U9 (fun f w=>∃ (h6:(Int×Int)) (F2:Mem),hh=.done h6/\HS w0 F0 w F2 []/\U2 F0 F2/\FI f [] [(0,(sL h9 x0 h5)),(1,(vi x1)),(2,(.func (.func h4) h2.toArray h3.toArray)),(8,(vi (x0.length:Int))),(9,(vi h6.1))]) ?_ ?_
 ·refine Bk ?_;refine U1 (by kernel_rfl) (fun m f w=>∃ (h0:(Int×Int)) (F1:Mem),AW (AJ N x0 x1 x2) m h0=some hh/\HS w0 F0 w F1 []/\U2 F0 F1/\FI f [] [(0,(sL h9 x0 h5)),(1,(vi x1)),(2,(.func (.func h4) h2.toArray h3.toArray)),(8,(vi (x0.length:Int))),(9,(vi h0.1)),(10,(vi h0.2))]) N ⟨(0,(x0.length:Int)),F0,hp,ho,(U3 _),fI⟩ ?_;rintro bs f hr ⟨h0,F1,hs,ha,hb,⟨_,rfl⟩⟩;obtain ⟨ht,bt,rfl,hu,hk⟩:=AM hs;refine Sq<|Sq (Rg [0,1,2] ?_);refine Vs 3<|Nt<|Cd hu (fun hv hw=>?_) (fun hv hx=>?_)
  ·refine Sc ?_;refine Ab<|Bk<|Sq (Rg (rG 7) ?_);refine Vs 4<|V 22 222 (Sy (t:=222) (t':=222) (x:=(.tmp 21)) (y:=(.const (.int .u64 1))) (k:=.u64) (q:=.u64) (a:=(IntKind.u64.wrap (W64 (h0.1 + h0.2)))) (b:=1) rfl rfl (by decide))<|Vs 2<|Nss (Rg (rG 8) ?_);refine Vs 3 ?_;obtain ⟨hy,hz,b0⟩:=bS hw;obtain ⟨b1,hx55'⟩:=Aq hz;obtain ⟨b2,b3,bu,bv,bw,rfl,hF64,hE65⟩:=Va (U5 he hb) hx55';have b4:=hE65 _ _ hx55';refine Ix b1<|Lx 0 (ha.pers _ _ hF64) b4<|Vs 1 ?_;obtain ⟨h7,b5,b6⟩:=bS b0;refine Cq hf ha (hg hr F1 hy x1 _ hb ha.pers b5) ?_;rintro _ F3 bx hl b7 rfl;refine Vs 1<|Nt<|U9 (fun f w=>∃ (F4:Mem),HS w0 F0 w F4 []/\U2 F3 F4/\FI f [] [(0,(.slice (some ⟨b2,b3,none⟩) x0.length h5)),(1,(vi x1)),(2,(.func (.func h4) h2.toArray h3.toArray)),(8,(vi (x0.length:Int))),(9,(vi (bif (decide (h7 < 0)) then (W64 ((W64 (Int.fdiv (IntKind.u64.wrap (W64 (h0.1 + h0.2))) (2 ^ min (1:Int).toNat IntKind.u64.bits))) + 1)) else h0.1))),(10,(vi (bif (decide (h7 < 0)) then h0.2 else (W64 (Int.fdiv (IntKind.u64.wrap (W64 (h0.1 + h0.2))) (2 ^ min (1:Int).toNat IntKind.u64.bits))))))]) ?_ ?_
   ·refine Cp (decide (h7 < 0)) (fun h8=>?_) (fun h8=>?_)
    ·refine Rg [0,1,2] ?_;refine Vs 3<|UY ?_;exact .inl ⟨rfl,F3,hl,(U3 _),(fJ ⟨rfl,rfl,rfl,rfl,(congrArg (Value.int .i64) (Qj h8 rfl)),(congrArg (Value.int .i64) (Qj h8 rfl)),trivial⟩)⟩
    ·refine Rg [0,1] ?_;refine Vs 2<|UY ?_;exact .inl ⟨rfl,F3,hl,(U3 _),(fJ ⟨rfl,rfl,rfl,rfl,(congrArg (Value.int .i64) (OR h8 rfl)),(congrArg (Value.int .i64) (OR h8 rfl)),trivial⟩)⟩
   ·rintro f bz ⟨F4,b8,b9,⟨_,rfl⟩⟩;refine As ?_;have ba:=AN b6 hk;exact ⟨ht,Nat.lt_succ_self _,((bif (decide (h7 < 0)) then (W64 ((W64 (Int.fdiv (IntKind.u64.wrap (W64 (h0.1 + h0.2))) (2 ^ min (1:Int).toNat IntKind.u64.bits))) + 1)) else h0.1),(bif (decide (h7 < 0)) then h0.2 else (W64 (Int.fdiv (IntKind.u64.wrap (W64 (h0.1 + h0.2))) (2 ^ min (1:Int).toNat IntKind.u64.bits))))),F4,ba,b8,((hb.t b7).trans b9),fI⟩
  ·refine Ex ?_;refine Ar<|Ar<|AC rfl ?_;have bb:=AO hx hk;exact .inl ⟨rfl,(h0.1,h0.2),F1,bb,ha,hb,fI⟩
 ·rintro f bc ⟨h6,F2,rfl,hc,hm,⟨_,rfl⟩⟩;have bd:=Bv hq;refine Ab<|Sq (Rg (rG 16) ?_);obtain ⟨hn,be,bf⟩:=bS bd;refine U8 (fun f w=>∃ (F5:Mem),HS w0 F0 w F5 []/\U2 F2 F5/\FI f [] [(6,(vi h6.1)),(7,(.bool hn))]) ?_ ?_
  ·refine Vs 5 ?_;refine Sp be (fun h1 bg=>?_) (fun h1 bh=>?_)
   ·refine Vgs h1 3 ?_;obtain ⟨hd,bi,bj⟩:=bS bg;obtain ⟨bk,hx103'⟩:=Aq bi;obtain ⟨c0,c1,c3,c4,c5,rfl,hF112,hE113⟩:=Va (U5 he hm) hx103';have bl:=hE113 _ _ hx103';refine Ixg h1 bk<|Lxg h1 0 (hc.pers _ _ hF112) bl<|Vgs h1 1 ?_;obtain ⟨c6,bm,bn⟩:=bS bj;refine RWP.call (dst:=(some 46)) (ty:=3) (g:=(some (4,true))) (by kernel_rfl) (GN (d:=39) (by kernel_rfl) rfl h1) (f0:=(.tmp 40)) (aos:=#[(.tmp 44),(.tmp 45)]) (ats:=#[34,3]) (fid:=h4) (first:=h2.toArray) (cap:=h3.toArray) (args:=(h2++(([(.agg (BA hd)),(vi x1)]:List Value)++h3))) rfl hf (D3 (l:=[(.agg (BA hd)),(vi x1)]) (fi:=h2) (k:=h3) rfl) hc (hg bc F2 hd x1 _ hm hc.pers bm) ?_;rintro _ F6 c7 bo bp rfl;refine Vgs h1 1<|Pk1 h1<|Vs 2 ?_;obtain rfl:=Aa bn;exact UY ⟨rfl,F6,bo,bp,fI⟩
   ·refine Ss h1 8 ?_;refine Pk0 h1<|Vs 2 ?_;obtain rfl:=Aa bh;exact UY ⟨rfl,F2,hc,(U3 _),fI⟩
  ·rintro f c8 ⟨F5,bq,c9,⟨_,rfl⟩⟩;refine Ab<|Rt ?_;obtain rfl:=Aa bf;exact Re [(vi h6.1),(.bool hn)] bq rfl
def EL (N:Nat) (x0:Int):Option Bool:=
 some (x0 !=x0)
theorem Gx:Af Tryz.prog 281:=fun _ _=>by kernel_rfl
theorem G9 (N:Nat) (w0:World) (F0:Mem) (hF:Vr w0 F0) (x0:Int) (r:Bool) (h:EL N x0=some r):
  Calls Tryz.prog 281 ([(vi x0)]:List Value).toArray w0 (AF w0 F0 fun F' v=>v=(.bool r)):=by
 have h0:=U4 hF;refine Go 6 Tryz.func281<|Sq (Rg [0] ?_);refine Vs 1<|Nss (Rg (rG 4) ?_);refine Vs 4<|Nt<|Rt ?_;obtain rfl:=Aa h;exact Re [(.bool (x0 !=x0))] h0 rfl
def E4 (N:Nat) (x0 x1:Int):Option Int:=
 ((EL N x0).bind fun h1=>((EL N x1).bind fun h0=>(bif h1 then (bif h0 then some 0 else some (-1)) else (bif h0 then some 1 else (bif (decide (x0 < x1)) then some (-1) else (bif (decide (x0 > x1)) then some 1 else some 0))))))
theorem I0:Af Tryz.prog 254:=fun _ _=>by kernel_rfl
theorem JR (N:Nat) (w0:World) (F0:Mem) (hF:Vr w0 F0) (x0 x1 r:Int) (h:E4 N x0 x1=some r):
  Calls Tryz.prog 254 ([(vi x0),(vi x1)]:List Value).toArray w0 (AF w0 F0 fun F' v=>v=(vi r)):=by
 have h1:=U4 hF;refine Go 20 Tryz.func254<|Sq (Rg [0] ?_);refine Vs 1<|Nss (Rg [0,1,2] ?_);refine Vs 1 ?_;obtain ⟨hp,h3,h4⟩:=bS h;refine Cl' Gx h1 (G9 N w0 F0 h1.pers x0 _ h3) ?_;rintro _ F1 h5 h2 hq rfl;refine Vs 1<|Nss (Rg [0,1,2] ?_);refine Vs 1 ?_;obtain ⟨hr,h6,h7⟩:=bS h4;refine Cl' Gx h2 (G9 N h5 F1 h2.pers x1 _ h6) ?_;rintro _ F2 hs h0 ht rfl;refine Vs 1<|Nss<|Sq (Rg [0] ?_);refine Vs 1<|Nt<|Cd h7 (fun h8 h9=>?_) (fun h8 ha=>?_)
 ·refine Sq ?_;refine Sq (Rg [0] ?_);refine Vs 1<|Nt<|Cd h9 (fun hb hc=>?_) (fun hb hd=>?_)
  ·refine Sq (Rg [0] ?_);refine Vs 1<|Nt<|Rt<|Ae<|Ae ?_;obtain rfl:=Aa hc;exact Re [(vi 0)] h0 rfl
  ·refine Sc ?_;refine Ab<|Sq (Rg [0] ?_);refine Vs 1<|Nt<|Rt<|Ae ?_;obtain rfl:=Aa hd;exact Re [(vi (-1))] h0 rfl
 ·refine Sc ?_;refine Ab<|Sq<|Sq (Rg [0] ?_);refine Vs 1<|Nt<|Cd ha (fun he hf=>?_) (fun he hg=>?_)
  ·refine Sq (Rg [0] ?_);refine Vs 1<|Nt<|Rt<|Ae ?_;obtain rfl:=Aa hf;exact Re [(vi 1)] h0 rfl
  ·refine Sc ?_;refine Ab<|Sq<|Sq (Rg [0,1,2] ?_);refine Vs 3<|Nt<|Cd hg (fun hh hk=>?_) (fun hh hl=>?_)
   ·refine Sq (Rg [0] ?_);refine Vs 1<|Nt<|Rt<|Ae ?_;obtain rfl:=Aa hk;exact Re [(vi (-1))] h0 rfl
   ·refine Sc ?_;refine Ab<|Sq<|Sq (Rg [0,1,2] ?_);refine Vs 3<|Nt<|Cd hl (fun hm hn=>?_) (fun hm ho=>?_)
    ·refine Sq (Rg [0] ?_);refine Vs 1<|Nt<|Rt<|Ae ?_;obtain rfl:=Aa hn;exact Re [(vi 1)] h0 rfl
    ·refine Sc ?_;refine Ab<|Sq (Rg [0] ?_);refine Vs 1<|Nt<|Rt ?_;obtain rfl:=Aa ho;exact Re [(vi 0)] h0 rfl

end Go.Proofs.YthljkpeimofbbaaGreatDoor
namespace Go.Proofs.YthljkpeimofbbaaGreatDoor
def isL (b:UInt8):Bool:=decide (65<=b.toNat)&&decide (b.toNat<=90)
def isD (b:UInt8):Bool:=decide (48<=b.toNat)&&decide (b.toNat<=57)
def isE (b:UInt8):Bool:=isL b||isD b
theorem RO {b:UInt8} (h:128<=b.toNat):isL b=false:=by unfold isL;simp;omega
theorem RP {b:UInt8} (h:128<=b.toNat):isD b=false:=by unfold isD;simp;omega
theorem TQ {b:UInt8} (h:128<=b.toNat):isE b=false:=by unfold isE;rw [RO h,RP h];rfl
theorem NF {b:UInt8} (h:isE b=true):b.toNat < 128:=by unfold isE isL isD at h;simp at h;omega
theorem UO {b:UInt8} (h:isL b=true):isD b=false:=by unfold isL at h;unfold isD;simp at h ⊢;omega
theorem Oo (N:Nat) (b:UInt8):BS N (b.toNat:Int)=some (isL b):=by
 unfold BS isL;congr 2 <;> (rw [decide_eq_decide];omega)
theorem P5 (N:Nat) (b:UInt8):Bj N (b.toNat:Int)=some (isD b):=by
 unfold Bj isD;congr 2 <;> (rw [decide_eq_decide];omega)
theorem Jp (N:Nat) {n:Nat} (h:128<=n):BS N (n:Int)=some false:=by
 unfold BS;have:decide ((n:Int)<=90)=false:=by rw [decide_eq_false_iff_not];omega
 rw [this,Bool.and_false]
theorem Ky (N:Nat) {n:Nat} (h:128<=n):Bj N (n:Int)=some false:=by
 unfold Bj;have:decide ((n:Int)<=57)=false:=by rw [decide_eq_false_iff_not];omega
 rw [this,Bool.and_false]
theorem RF (N:Nat) (b:UInt8):Do N (b.toNat:Int)=some (isE b):=by
 unfold Do isE;rw [Oo,P5];cases isL b <;> rfl
theorem Ny (N:Nat) {n:Nat} (h:128<=n):Do N (n:Int)=some false:=by
 unfold Do;rw [Jp N h,Ky N h];rfl
theorem LY (N:Nat) (a b c:Int):Fx N a b c=some (decide (b<=a)&&decide (a<=c)):=rfl
structure FC (p:Int->Option Bool) (P:UInt8->Bool):Prop where
 lo:∀ b:UInt8,b.toNat < 128->p (b.toNat:Int)=some (P b)
 hi:∀ n:Nat,128<=n->p (n:Int)=some false
 big:∀ b:UInt8,128<=b.toNat->P b=false
theorem Rq (N:Nat):FC (fun y0=>BS N y0) isL:=⟨fun b _=>Oo N b,fun _ h=>Jp N h,fun _ h=>RO h⟩
theorem P0 (N:Nat):FC (fun y0=>Bj N y0) isD:=⟨fun b _=>P5 N b,fun _ h=>Ky N h,fun _ h=>RP h⟩
theorem Uh (N:Nat):FC (fun y0=>Do N y0) isE:=⟨fun b _=>RF N b,fun _ h=>Ny N h,fun _ h=>TQ h⟩
theorem FC.some {p:Int->Option Bool} {P:UInt8->Bool} (h:FC p P) (n:Nat):(p (n:Int)).isSome=true:=by
 rcases Nat.lt_or_ge n 128 with h' | h'
 ·have:=h.lo (UInt8.ofNat n) (by rw [UInt8.toNat_ofNat'];omega);have e:(UInt8.ofNat n).toNat=n:=by rw [UInt8.toNat_ofNat'];omega
  rw [e] at this;rw [this];rfl
 ·rw [h.hi n h'];rfl
theorem FC.all {p:Int->Option Bool} {P:UInt8->Bool} (h:FC p P):Jk p=true:=Ho.2 fun n _=>h.some n
theorem Gn {p:Int->Option Bool} {P:UInt8->Bool} (hp:FC p P) {N:Nat} (s:Vp) (most:Int) (hN:s.length < N):
  EX N s most p=some (s.all P&&(decide (1<=(s.length:Int))&&decide ((s.length:Int)<=most))):=by
 have key:=Eh (body:=EW N s most p) s.length (fun i (st:Nat)=>st=i/\(s.take i).all P=true)
  (fun o=>(s.all P=true/\o=.done s.length)\/(s.all P=false/\o=.ret false)) (by
   rintro i st hi ⟨rfl,hall⟩;by_cases h:st < s.length
   ·have hget:s[st]? =some s[st]:=List.getElem?_eq_getElem h;unfold EW;simp only [h,decide_true,cT];have htake:s.take (st + 1)=s.take st++[s[st]]:=by rw [List.take_add_one,hget];rfl
    have hfalse:P s[st]=false->s.all P=false:=fun hP=>by
     rw [List.all_eq_false];exact ⟨s[st],List.getElem_mem h,by rw [hP];simp⟩
    rcases Nat.lt_or_ge s[st].toNat 128 with hb | hb
    ·rw [LI hget hb,hp.lo _ hb];simp only [oS];cases hP:P s[st] with
     | true=>exact .inl ⟨st + 1,rfl,⟨rfl,by rw [htake,List.all_append,hall];simp [hP]⟩,trivial⟩
     | false=>exact .inr ⟨.ret false,rfl,(fun _ e=>by cases e),.inr ⟨hfalse hP,rfl⟩⟩
    ·have hs:=O8 hget hb;rw [hp.hi _ hs.1];simp only [oS];exact .inr ⟨.ret false,rfl,(fun _ e=>by cases e),.inr ⟨hfalse (hp.big _ hb),rfl⟩⟩
   ·have:st=s.length:=by omega
    subst this;unfold EW;simp only [Nat.lt_irrefl,decide_false,cF];exact .inr ⟨_,rfl,(fun _ e=>by cases e),.inl ⟨by simpa using hall,rfl⟩⟩) s.length N 0 0 (by omega) ⟨rfl,rfl⟩ hN
 obtain ⟨o,ho,hR⟩:=key;unfold EX;rw [ho];rcases hR with ⟨h1,rfl⟩ | ⟨h1,rfl⟩
 ·simp only [oS,Bm.k,LY,h1,Bool.true_and]
 ·simp only [oS,Bm.k,h1,Bool.false_and]
theorem M1 {p:Int->Option Bool} {P:UInt8->Bool} (hp:FC p P) {b:UInt8} (h:b.toNat < 128):EZ p b.toNat=P b:=by unfold EZ;rw [hp.lo b h];rfl
theorem Jv {p:Int->Option Bool} {P:UInt8->Bool} (hp:FC p P) (s:Vp) (ha:∀ b,b∈s->b.toNat < 128):∀ (f i:Nat),s.length<=i + f->i<=s.length->
  (0<=Go.Lib.idxFuncFrom (EZ p) true ⟨s.toArray⟩ f i ↔ (s.drop i).any P=true)
 | 0,i,h1,h2=>by
  have:i=s.length:=by omega
  subst this;simp [Go.Lib.idxFuncFrom]
 | f + 1,i,h1,h2=>by
  unfold Go.Lib.idxFuncFrom;have hsz:(⟨s.toArray⟩:ByteArray).size=s.length:=by simp [ByteArray.size]
  rw [hsz];by_cases h:i < s.length
  ·rw [if_pos h];have hget:s[i]? =some s[i]:=List.getElem?_eq_getElem h;have hd:Utf8.decode ⟨s.toArray⟩ i=(s[i].toNat,1):=LI hget (ha _ (List.getElem_mem h));rw [hd];simp only;rw [M1 hp (ha _ (List.getElem_mem h)),List.drop_eq_getElem_cons h,List.any_cons];cases hP:P s[i] with
   | true=>simp
   | false=>
    simp only [Bool.false_eq_true,if_false,Bool.false_or];exact Jv hp s ha f (i + 1) (by omega) (by omega)
  ·have:i=s.length:=by omega
   subst this;simp
theorem QO {p:Int->Option Bool} {P:UInt8->Bool} (hp:FC p P) {N:Nat} (s:Vp) (ha:∀ b,b∈s->b.toNat < 128):∃ r,Co N s p=some r/\decide (r>=0)=s.any P:=by
 refine ⟨_,by unfold Co;rw [if_pos hp.all],?_⟩;have:=Jv hp s ha s.length 0 (by omega) (by omega);have hsz:(⟨s.toArray⟩:ByteArray).size=s.length:=by simp [ByteArray.size]
 unfold Go.Lib.idxFunc;rw [hsz];rw [List.drop_zero] at this;cases hs:s.any P with
 | true=>rw [hs] at this;exact decide_eq_true (this.2 rfl)
 | false=>
  rw [hs] at this;exact decide_eq_false fun h=>by have:=this.1 h;cases this
def MD:Vp->Nat
 | []=>0
 | b::r=>if isD b then r.length + 1 else MD r
def Ch (s:Vp):Nat:=MD s.reverse
theorem OG:Ch []=0:=rfl
theorem QQ (l:Vp) (b:UInt8):Ch (l++[b])=if isD b then l.length + 1 else Ch l:=by
 unfold Ch;rw [List.reverse_append];simp [MD]
theorem NM:∀ l:Vp,MD l<=l.length
 | []=>Nat.le_refl _
 | b::r=>by
  unfold MD;split
  ·exact Nat.le_refl _
  ·exact Nat.le_succ_of_le (NM r)
theorem Tg (s:Vp):Ch s<=s.length:=by unfold Ch;have:=NM s.reverse;simpa using this
theorem M8:∀ l:Vp,∀ b,b∈l.take (l.length - MD l)->isD b=false
 | [],b,h=>by simp at h
 | c::r,b,h=>by
  unfold MD at h;split at h
  ·simp at h
  ·rename_i hc;have hc':isD c=false:=by simpa using hc
   have:=NM r;rw [show (c::r).length - MD r=(r.length - MD r) + 1 by simp;omega,List.take_succ_cons] at h;rcases List.mem_cons.1 h with rfl | h
   ·exact hc'
   ·exact M8 r b h
theorem QR (s:Vp):∀ b,b∈s.drop (Ch s)->isD b=false:=by
 intro b hb;have h:=M8 s.reverse b;have e:s.reverse.take (s.reverse.length - MD s.reverse)=(s.drop (Ch s)).reverse:=by
  rw [List.reverse_drop,List.length_reverse];rfl
 rw [e] at h;exact h (by simpa using hb)
theorem Iy (N:Nat) (s:Vp) (ha:∀ b,b∈s->b.toNat < 128):∀ (f i:Nat),i<=f->i<=s.length->
  Go.Lib.lastIdxFuncFrom (EZ fun y0=>Bj N y0) true ⟨s.toArray⟩ f i + 1=(Ch (s.take i):Int)
 | 0,i,h1,h2=>by
  have:i=0:=by omega
  subst this;simp [Go.Lib.lastIdxFuncFrom,OG]
 | f + 1,0,h1,h2=>by simp [Go.Lib.lastIdxFuncFrom,OG]
 | f + 1,i + 1,h1,h2=>by
  unfold Go.Lib.lastIdxFuncFrom;rw [if_pos (Nat.succ_pos i)];have h:i < s.length:=by omega
  have htake:s.take (i + 1)=s.take i++[s[i]]:=by rw [List.take_add_one,List.getElem?_eq_getElem h];rfl
  have hb:=ha _ (List.getElem_mem h);have hdl:Go.Lib.decodeLastL (s.take (i + 1))=(s[i].toNat,1):=by
   unfold Go.Lib.decodeLastL;rw [if_neg (fun e=>by have h9:=congrArg List.length e;rw [List.length_take,List.length_nil] at h9;omega)];have hlen:(s.take (i + 1)).length - 1=i:=by rw [List.length_take];omega
   have hg:(s.take (i + 1)).getD i 0=s[i]:=by
    rw [List.getD_eq_getElem?_getD,List.getElem?_take,if_pos (by omega),List.getElem?_eq_getElem h];rfl
   rw [hlen,hg,if_pos hb]
  simp only [List.toList_toArray] at *
  rw [hdl];simp only;rw [M1 (P0 N) hb,htake,QQ];cases hP:isD s[i] with
  | true=>
   simp only [if_true];rw [List.length_take,Nat.min_eq_left (by omega)];simp
  | false=>
   simp only [Bool.false_eq_true,if_false];rw [show i + 1 - 1=i by omega];exact Iy N s ha f i (by omega) (by omega)
theorem II (i:Nat) (h:i < 4611686018427387904):W64 ((i:Int) + 1)=((i + 1:Nat):Int):=by
 rw [DE (by omega) (by omega)];omega
def pcs (c:UInt8):Vp->List Vp
 | []=>[[]]
 | b::s=>if b=c then []::pcs c s else match pcs c s with
  | p::r=>(b::p)::r
  | []=>[[b]]
theorem Rv (c:UInt8):∀ s,pcs c s≠[]
 | []=>by simp [pcs]
 | b::s=>by
  unfold pcs;split
  ·simp
  ·split <;> simp
theorem Jm {c:UInt8}:∀ {a:Vp},c∉a->pcs c a=[a]
 | [],_=>rfl
 | b::s,h=>by
  have h1:¬ b=c:=fun e=>h (by rw [e];exact List.mem_cons_self);have h2:c∉s:=fun hm=>h (List.mem_cons_of_mem _ hm);unfold pcs;rw [if_neg h1,Jm h2]
theorem Lm {c:UInt8}:∀ {a t:Vp},c∉a->pcs c (a++c::t)=a::pcs c t
 | [],t,_=>by simp [pcs]
 | b::s,t,h=>by
  have h1:¬ b=c:=fun e=>h (by rw [e];exact List.mem_cons_self);have h2:c∉s:=fun hm=>h (List.mem_cons_of_mem _ hm);rw [List.cons_append]
  conv=>lhs;unfold pcs
  rw [if_neg h1,Lm h2]
theorem Ec {c:UInt8}:∀ {s:Vp},c∈s->∃ a t,s=a++c::t/\c∉a
 | b::s,h=>by
  by_cases hb:b=c
  ·exact ⟨[],s,by rw [hb];rfl,by simp⟩
  ·rcases List.mem_cons.1 h with e | h
   ·exact absurd e.symm hb
   ·obtain ⟨a,t,h1,h2⟩:=Ec h;exact ⟨b::a,t,by rw [h1];rfl,fun hm=>by
     rcases List.mem_cons.1 hm with e | hm
     ·exact hb e.symm
     ·exact h2 hm⟩
theorem Hz {c:UInt8}:∀ {s:Vp},c∉s->Go.Lib.index s [c]= -1
 | [],_=>rfl
 | b::s,h=>by
  have h1:¬ c=b:=fun e=>h (by rw [e];exact List.mem_cons_self);have h2:c∉s:=fun hm=>h (List.mem_cons_of_mem _ hm);unfold Go.Lib.index;rw [if_neg (by simp [List.isPrefixOf];exact h1),Hz h2];rfl
theorem Hy {c:UInt8}:∀ {a t:Vp},c∉a->Go.Lib.index (a++c::t) [c]=(a.length:Int)
 | [],t,_=>by
  show Go.Lib.index (c::t) [c]=0;unfold Go.Lib.index;rw [if_pos (by simp [List.isPrefixOf])]
 | b::s,t,h=>by
  have h1:¬ c=b:=fun e=>h (by rw [e];exact List.mem_cons_self);have h2:c∉s:=fun hm=>h (List.mem_cons_of_mem _ hm);rw [List.cons_append];unfold Go.Lib.index;rw [if_neg (by simp [List.isPrefixOf];exact h1),Hy h2,if_neg (by simp <;> omega)];simp
theorem LG {c:UInt8}:∀ (n f:Nat) (s:Vp),s.length<=n->s.length < f->Go.Lib.splitK [c] 0 (Go.Lib.countFrom [c] f s) s=pcs c s
 | _,0,s,_,h=>by omega
 | n,f + 1,s,h1,h2=>by
  by_cases hc:c∈s
  ·obtain ⟨a,t,rfl,ha⟩:=Ec hc;have hi:=Hy (t:=t) ha;unfold Go.Lib.countFrom;rw [hi,if_neg (by simp <;> omega),Nat.add_comm 1];unfold Go.Lib.splitK;rw [hi,if_neg (by simp <;> omega)];have hdrop:(a++c::t).drop (((a.length:Int)).toNat + [c].length)=t:=by
    simp
   have htake:(a++c::t).take (((a.length:Int)).toNat + 0)=a:=by simp
   rw [hdrop,htake,Lm ha];have hl:t.length < n:=by simp at h1;omega
   obtain ⟨n',rfl⟩:∃ n',n=n' + 1:=⟨n - 1,by omega⟩;rw [LG n' f t (by omega) (by simp at h2;omega)]
  ·rw [Jm hc];unfold Go.Lib.countFrom;rw [Hz hc,if_pos (by simp)];rfl
theorem N7 (c:UInt8) (s:Vp):Nh s [c]=pcs c s:=by
 unfold Nh;rw [Go.Lib.splitB_data];have:Go.Lib.countB ⟨s.toArray⟩ ⟨[c].toArray⟩=Go.Lib.countFrom [c] (s.length + 1) s:=by
  rfl
 rw [this];exact LG s.length (s.length + 1) s (Nat.le_refl _) (Nat.lt_succ_self _)
theorem P6 {N:Nat} {s:Vp} (c:UInt8) (h:s.length < 4294967281):strings_Split N s [c]=some (pcs c s):=by
 unfold strings_Split;rw [if_pos ⟨h,by simp⟩,N7]
theorem R4 {c:UInt8} {s:Vp} (h:c∉s):Go.Lib.cut s [c]=(s,[],false):=by
 unfold Go.Lib.cut;rw [Hz h,if_neg (by decide)]
theorem R3 {c:UInt8} {a t:Vp} (h:c∉a):Go.Lib.cut (a++c::t) [c]=(a,t,true):=by
 unfold Go.Lib.cut;rw [Hy h,if_pos (by omega)];simp only [Int.toNat_natCast,List.length_singleton];rw [List.drop_append];simp
theorem QL {α ρ τ:Type} {body:Int->Option (Bm ρ Int)} {l:List α} (ok:α->Bool) (bad:ρ) (hb:∀ i (h:i < l.length),body (i:Int)=some (bif ok l[i] then .next ((i + 1:Nat):Int) else .ret bad))
  (he:body (l.length:Int)=some (.done (l.length:Int))) {N:Nat} (hN:l.length < N) (fd:Int->Option τ) (fr:ρ->Option τ):((AW body N 0).bind fun o=>o.k fr fd)=bif l.all ok then fd l.length else fr bad:=by
 obtain ⟨o,ho,hR⟩:=Eh (body:=body) l.length (fun i s=>s=(i:Int)/\(l.take i).all ok=true) (fun o=>(l.all ok=true/\o=.done (l.length:Int))\/(l.all ok=false/\o=.ret bad)) (by
  rintro i s hi ⟨rfl,hk⟩;by_cases h:i < l.length
  ·rw [hb i h];cases e:ok l[i] with
   | true=>exact .inl ⟨_,rfl,⟨rfl,by rw [List.take_add_one,List.getElem?_eq_getElem h,List.all_append,hk];simp [e]⟩,h⟩
   | false=>exact .inr ⟨_,rfl,(fun _ h=>by cases h),.inr ⟨by rw [List.all_eq_false];exact ⟨l[i],List.getElem_mem h,by rw [e];simp⟩,rfl⟩⟩
  ·have:i=l.length:=by omega
   subst this;rw [he];exact .inr ⟨_,rfl,(fun _ h=>by cases h),.inl ⟨by simpa using hk,rfl⟩⟩) l.length N 0 0 (by omega) ⟨rfl,rfl⟩ hN
 rw [ho];rcases hR with ⟨h1,rfl⟩ | ⟨h1,rfl⟩ <;> rw [h1] <;> rfl
section
variable {N : Nat} {s : Vp}
theorem E0 {i n:Nat} (h:i < n):decide ((i:Int) < (n:Int))=true:=decide_eq_true (by omega)
theorem Ed {n:Nat}:decide ((n:Int) < (n:Int))=false:=decide_eq_false (by omega)
def wiB (n lo hi:Nat):Bool:=decide (lo<=n)&&decide (n<=hi)
def FV (s:Vp):Bool:=s.all isE&&wiB s.length 1 4&&s.any isL
def B2 (s:Vp):Bool:=s.all isE&&wiB (Ch s) 1 4&&(s.take (Ch s)).any isL&&wiB (s.length - Ch s) 1 4
def EF (s:Vp):Bool:=(s.all isL&&wiB s.length 1 4)||(s.all isD&&wiB s.length 1 1)
theorem Fi (n lo hi:Nat):(decide (((lo:Nat):Int)<=(n:Int))&&decide ((n:Int)<=((hi:Nat):Int)))=wiB n lo hi:=by
 unfold wiB;congr 1 <;> (rw [decide_eq_decide];omega)
theorem w14 (n:Nat):(decide ((1:Int)<=(n:Int))&&decide ((n:Int)<=(4:Int)))=wiB n 1 4:=Fi n 1 4
theorem w11 (n:Nat):(decide ((1:Int)<=(n:Int))&&decide ((n:Int)<=(1:Int)))=wiB n 1 1:=Fi n 1 1
theorem Ps (hs:s.length < 4611686018427387904) (hN:s.length < N):EY N s=some (FV s):=by
 unfold EY FV;rw [Gn (Uh N) s 4 hN,oS,w14];cases h:(s.all isE&&wiB s.length 1 4) with
 | false=>rfl
 | true=>
  rw [Bool.and_eq_true] at h;obtain ⟨r,h1,h2⟩:=QO (N:=N) (Rq N) s (fun b hb=>NF (List.all_eq_true.1 h.1 b hb));rw [cT,h1,oS,h2];rfl
theorem On (hs:s.length < 4611686018427387904) (hN:s.length < N):DY N s=some (EF s):=by
 unfold DY EF;rw [Gn (Rq N) s 4 hN,Gn (P0 N) s 1 hN,w14,w11];cases s.all isL&&wiB s.length 1 4 <;> rfl
theorem OY (s:Vp):s.all isL=(s.all isE&& !s.any isD):=by
 induction s with
 | nil=>rfl
 | cons b s ih=>
  simp only [List.all_cons,List.any_cons,ih,isE];cases hL:isL b with
  | true=>rw [UO hL];simp
  | false=>cases isD b <;> cases s.all isE <;> cases s.any isD <;> rfl
theorem RM (p:Nat->Bool) (tr:Bool) (s:Vp):∀ (f i:Nat),i<=s.length->Go.Lib.lastIdxFuncFrom p tr ⟨s.toArray⟩ f i= -1\/(0<=Go.Lib.lastIdxFuncFrom p tr ⟨s.toArray⟩ f i/\Go.Lib.lastIdxFuncFrom p tr ⟨s.toArray⟩ f i < (i:Int))
 | 0,_,_=>.inl rfl
 | f + 1,i,hi=>by
  unfold Go.Lib.lastIdxFuncFrom;split
  ·rename_i h0;have hw:=Go.Lib.decodeLastL_width (s.take i) (by rw [List.length_take];omega);simp only [List.toList_toArray] at *
   split
   ·exact .inr ⟨by omega,by omega⟩
   ·rcases RM p tr s f (i - (Go.Lib.decodeLastL (s.take i)).2) (by omega) with h | h
    ·exact .inl h
    ·exact .inr ⟨h.1,by omega⟩
  ·exact .inl rfl
theorem TH (hs:s.length < 4611686018427387904) (hN:s.length < N):∃ x y,JU N s=some (x,y,B2 s)/\(B2 s=true->x=s.take (Ch s)/\y=s.drop (Ch s)):=by
 have hr:∃ k:Nat,BL N s (fun y0=>Bj N y0)=some ((k:Int) - 1)/\k<=s.length/\((∀ b,b∈s->b.toNat < 128)->k=Ch s):=by
  have hsz:(⟨s.toArray⟩:ByteArray).size=s.length:=by simp [ByteArray.size]
  have e:BL N s (fun y0=>Bj N y0)=some (Go.Lib.lastIdxFunc (EZ fun y0=>Bj N y0) true ⟨s.toArray⟩):=by
   unfold BL Ce;rw [if_pos ⟨(P0 N).all,by omega⟩];rfl
  rw [e];unfold Go.Lib.lastIdxFunc;rw [hsz];have hrange:=RM (EZ fun y0=>Bj N y0) true s s.length s.length (Nat.le_refl _);refine ⟨(Go.Lib.lastIdxFuncFrom (EZ fun y0=>Bj N y0) true ⟨s.toArray⟩ s.length s.length + 1).toNat,?_,?_,fun ha=>?_⟩
  ·exact congrArg some (by rcases hrange with h | ⟨h,_⟩ <;> omega)
  ·rcases hrange with h | ⟨h1,h2⟩
   ·omega
   ·omega
  ·have:=Iy N s ha s.length s.length (Nat.le_refl _) (Nat.le_refl _);rw [List.take_length] at this;omega
 obtain ⟨k,h1,h2,h3⟩:=hr;have e1:W64 ((k:Int) - 1 + 1)=(k:Int):=by rw [DE (by omega) (by omega)];omega
 have e2:Mx s 0 (k:Int)=some (s.take k):=by
  have:=N6 (a:=s) (lo:=0) (hi:=k) (Nat.zero_le _) h2
  simpa using this
 have e3:Mx s (k:Int) (s.length:Int)=some (s.drop k):=by
  rw [N6 h2 (Nat.le_refl _),List.take_of_length_le (by simp)]
 have e4:=Ps (N:=N) (s:=s.take k) (by rw [List.length_take];omega) (by rw [List.length_take];omega);have e5:=Gn (Rq N) (s.drop k) 4 (N:=N) (by rw [List.length_drop];omega);refine ⟨s.take k,s.drop k,?_,?_⟩
 ·unfold JU;rw [h1,oS,e1,e2,oS,e3,oS,oS,e4,oS,e5,w14];have hbase:(decide ((k:Int) > 0)&&(FV (s.take k)&&((s.drop k).all isL&&wiB (s.drop k).length 1 4)))=B2 s:=by
   by_cases ha:s.all isE=true
   ·have hk:k=Ch s:=h3 fun b hb=>NF (List.all_eq_true.1 ha b hb);subst hk;have hle:=Tg s;have e6:(s.take (Ch s)).all isE=true:=List.all_eq_true.2 fun b hb=>List.all_eq_true.1 ha b (List.mem_of_mem_take hb);have e7:(s.drop (Ch s)).all isL=true:=by
     rw [OY];rw [Bool.and_eq_true];refine ⟨List.all_eq_true.2 fun b hb=>List.all_eq_true.1 ha b (List.mem_of_mem_drop hb),?_⟩;rw [Bool.not_eq_true',List.any_eq_false];intro b hb;rw [QR s b hb];simp
    unfold FV B2;rw [ha,e6,e7,List.length_take,Nat.min_eq_left hle,List.length_drop];have e8:(decide ((Ch s:Int) > 0)&&wiB (Ch s) 1 4)=wiB (Ch s) 1 4:=by
     unfold wiB;cases hd:decide (1<=Ch s) with
     | false=>simp
     | true=>rw [decide_eq_true (by have:=of_decide_eq_true hd;omega)];rfl
    rw [<-e8];cases decide ((Ch s:Int) > 0) <;> cases wiB (Ch s) 1 4 <;> cases (s.take (Ch s)).any isL <;> rfl
   ·have ha':s.all isE=false:=by simpa using ha
    unfold FV B2;rw [ha'];have e9:(s.take k).all isE=false\/(s.drop k).all isL=false:=by
     rw [<-List.take_append_drop k s,List.all_append] at ha';cases h5:(s.take k).all isE with
     | false=>exact .inl rfl
     | true=>
      right
      rw [h5,Bool.true_and] at ha';rw [OY,ha'];rfl
    rcases e9 with e9 | e9 <;> rw [e9] <;> simp
  rw [<-hbase];cases decide ((k:Int) > 0) <;> cases FV (s.take k) <;> rfl
 ·intro hb;have ha:s.all isE=true:=by
   unfold B2 at hb;simp only [Bool.and_eq_true] at hb;exact hb.1.1.1
  rw [h3 fun b hb=>NF (List.all_eq_true.1 ha b hb)];exact ⟨rfl,rfl⟩
end
theorem Pu {α ρ τ:Type} {body:Int->Option (Bm ρ Int)} {l:List α} (f:α->Option ρ) (hb:∀ i (h:i < l.length),body (i:Int)=some ((f l[i]).elim (.next ((i + 1:Nat):Int)) .ret))
  (he:body (l.length:Int)=some (.done (l.length:Int))) {N:Nat} (hN:l.length < N) (fd:Int->Option τ) (fr:ρ->Option τ):((AW body N 0).bind fun o=>o.k fr fd)=(l.findSome? f).elim (fd l.length) fr:=by
 obtain ⟨o,ho,hR⟩:=Eh (body:=body) l.length (fun i s=>s=(i:Int)/\l.findSome? f=(l.drop i).findSome? f) (fun o=>(l.findSome? f=none/\o=.done (l.length:Int))\/ ∃ r,l.findSome? f=some r/\o=.ret r) (by
  rintro i s hi ⟨rfl,hk⟩;by_cases h:i < l.length
  ·rw [hb i h];rw [List.drop_eq_getElem_cons h,List.findSome?_cons] at hk;cases e:f l[i] with
   | some r=>rw [e] at hk;exact .inr ⟨_,rfl,(fun _ h=>by cases h),.inr ⟨r,hk,rfl⟩⟩
   | none=>rw [e] at hk;exact .inl ⟨_,rfl,⟨rfl,hk⟩,h⟩
  ·have:i=l.length:=by omega
   subst this;rw [he];rw [List.drop_length] at hk;exact .inr ⟨_,rfl,(fun _ h=>by cases h),.inl ⟨hk,rfl⟩⟩) l.length N 0 0 (by omega) ⟨rfl,by rw [List.drop_zero]⟩ hN
 rw [ho];rcases hR with ⟨h1,rfl⟩ | ⟨r,h1,rfl⟩ <;> rw [h1] <;> rfl
theorem Pm (c:UInt8):∀ s p,p∈pcs c s->p.length<=s.length
 | [],p,h=>by simp [pcs] at h;subst h;simp
 | b::s,p,h=>by
  have ih:=Pm c s;unfold pcs at h;by_cases hb:b=c
  ·rw [if_pos hb] at h;rcases List.mem_cons.1 h with rfl | h
   ·simp
   ·exact Nat.le_succ_of_le (ih p h)
  ·rw [if_neg hb] at h;cases hp:pcs c s with
   | nil=>exact absurd hp (Rv c s)
   | cons q r=>
    rw [hp] at h ih;simp only at h;rcases List.mem_cons.1 h with rfl | h
    ·exact Nat.succ_le_succ (ih q List.mem_cons_self)
    ·exact Nat.le_succ_of_le (ih p (List.mem_cons_of_mem _ h))
def zp:Bg:={Area:=[],Prefix:=[],Suffix:=[],Stroke:=[]}
abbrev Tri:=Vp×Vp×Vp
def MS (ws:List Vp):Option Tri:=match ws with
 | [w]=>if B2 w then some ([],w,[]) else none
 | [a,b]=>if FV a&&B2 b&&decide (a.length < b.length) then some (a,b,[]) else if B2 a&&EF b then some ([],a,b) else none
 | [a,b,c]=>if FV a&&B2 b&&EF c then some (a,b,c) else none
 | _=>none
def callB (s:Vp):Option Tri:=if s.length<=16 then MS (pcs 47 s) else none
def P2 (t:Tri):Bg:={Area:=t.1,Prefix:=t.2.1.take (Ch t.2.1),Suffix:=t.2.1.drop (Ch t.2.1),Stroke:=t.2.2}
def O5 (s:Vp):Bg×Bool:=match callB s with
 | some t=>(P2 t,true)
 | none=>(zp,false)
section
variable {N : Nat}
theorem Jq {w:Vp} (hs:w.length < 4611686018427387904) (hN:w.length < N):∃ x y,AE N w=some ({Area:=[],Prefix:=x,Suffix:=y,Stroke:=[]},B2 w)/\(B2 w=true->x=w.take (Ch w)/\y=w.drop (Ch w)):=by
 obtain ⟨x,y,h1,h2⟩:=TH hs hN;exact ⟨x,y,by unfold AE;rw [h1];rfl,h2⟩
theorem T0 {w:Vp} {z0:Vp->Option (Bg×Bool)} {p:Bg} {ok:Bool} (h1:z0 w=some (p,ok)):Dn N [w] z0=some (p,ok):=by
 unfold Dn;have i0:idx [w] 0=some w:=rfl;simp only [i0,oS,h1]
theorem TZ {a b:Vp} {z0:Vp->Option (Bg×Bool)} {x y u v:Vp} {A ok:Bool} (h1:z0 b=some ({Area:=u,Prefix:=x,Suffix:=y,Stroke:=v},ok)) (h3:EY N a=some A):Dm N [a,b] z0=some ({Area:=a,Prefix:=x,Suffix:=y,Stroke:=v},ok&&A&&decide (a.length < b.length)):=by
 unfold Dm;have e:decide ((a.length:Int) < (b.length:Int))=decide (a.length < b.length):=by rw [decide_eq_decide];omega
 have i0:idx [a,b] 0=some a:=rfl;have i1:idx [a,b] 1=some b:=rfl;rw [i0,i1];simp only [oS,h1,h3];clear h1 h3;rw [e];generalize decide (a.length < b.length)=D;cases ok <;> cases A <;> rfl
theorem TY {a b:Vp} {z0:Vp->Option (Bg×Bool)} {x y u v:Vp} {A ok:Bool} (h1:z0 a=some ({Area:=u,Prefix:=x,Suffix:=y,Stroke:=v},ok)) (h3:DY N b=some A):Dh N [a,b] z0=some ({Area:=u,Prefix:=x,Suffix:=y,Stroke:=b},ok&&A):=by
 unfold Dh;have i0:idx [a,b] 0=some a:=rfl;have i1:idx [a,b] 1=some b:=rfl;rw [i0,i1];simp only [oS,h1,h3];clear h1 h3;cases ok <;> cases A <;> rfl
theorem TX {a b c:Vp} {z0:Vp->Option (Bg×Bool)} {x y u v:Vp} {A B ok:Bool} (h1:z0 b=some ({Area:=u,Prefix:=x,Suffix:=y,Stroke:=v},ok)) (h3:EY N a=some A) (h4:DY N c=some B):Df N [a,b,c] z0=some ({Area:=a,Prefix:=x,Suffix:=y,Stroke:=c},ok&&A&&B):=by
 unfold Df;have i0:idx [a,b,c] 0=some a:=rfl;have i1:idx [a,b,c] 1=some b:=rfl;have i2:idx [a,b,c] 2=some c:=rfl;rw [i0,i1,i2];simp only [oS,h1,h3,h4];clear h1 h3 h4;cases ok <;> cases A <;> cases B <;> rfl
theorem S3 {w:Vp} (hs:w.length<=16) (hN:16 < N):∃ x y,Dn N [w] (fun y0=>AE N y0)=some ({Area:=[],Prefix:=x,Suffix:=y,Stroke:=[]},B2 w)/\(B2 w=true->x=w.take (Ch w)/\y=w.drop (Ch w)):=by
 obtain ⟨x,y,h1,h2⟩:=Jq (w:=w) (N:=N) (by omega) (by omega);exact ⟨x,y,T0 (z0:=fun y0=>AE N y0) h1,h2⟩
theorem S2 {a b:Vp} (ha:a.length<=16) (hb:b.length<=16) (hN:16 < N):∃ x y,Dm N [a,b] (fun y0=>AE N y0)=some ({Area:=a,Prefix:=x,Suffix:=y,Stroke:=[]},B2 b&&FV a&&decide (a.length < b.length))/\(B2 b=true->x=b.take (Ch b)/\y=b.drop (Ch b)):=by
 obtain ⟨x,y,h1,h2⟩:=Jq (w:=b) (N:=N) (by omega) (by omega);exact ⟨x,y,TZ (z0:=fun y0=>AE N y0) h1 (Ps (N:=N) (s:=a) (by omega) (by omega)),h2⟩
theorem S1 {a b:Vp} (ha:a.length<=16) (hb:b.length<=16) (hN:16 < N):∃ x y,Dh N [a,b] (fun y0=>AE N y0)=some ({Area:=[],Prefix:=x,Suffix:=y,Stroke:=b},B2 a&&EF b)/\(B2 a=true->x=a.take (Ch a)/\y=a.drop (Ch a)):=by
 obtain ⟨x,y,h1,h2⟩:=Jq (w:=a) (N:=N) (by omega) (by omega);exact ⟨x,y,TY (z0:=fun y0=>AE N y0) h1 (On (N:=N) (s:=b) (by omega) (by omega)),h2⟩
theorem S0 {a b c:Vp} (ha:a.length<=16) (hb:b.length<=16) (hc:c.length<=16) (hN:16 < N):∃ x y,Df N [a,b,c] (fun y0=>AE N y0)=some ({Area:=a,Prefix:=x,Suffix:=y,Stroke:=c},B2 b&&FV a&&EF c)/\(B2 b=true->x=b.take (Ch b)/\y=b.drop (Ch b)):=by
 obtain ⟨x,y,h1,h2⟩:=Jq (w:=b) (N:=N) (by omega) (by omega);exact ⟨x,y,TX (z0:=fun y0=>AE N y0) h1 (Ps (N:=N) (s:=a) (by omega) (by omega)) (On (N:=N) (s:=c) (by omega) (by omega)),h2⟩
def O3 (ws:List Vp) (fm:BE):Option (Bg×Bool):=if fm.words_=(ws.length:Int) then match fm.split_ ws with
 | some (p,true)=>some (p,true)
 | _=>none
 else none
theorem O4 {s:Vp} {ws:List Vp} (hle:∀ w,w∈ws->w.length<=16) (hN:4 < N) (f2 f3 f4 f5:List Vp->Option (Bg×Bool))
  (H2:∀ w:Vp,w.length<=16->∃ x y,f2 [w]=some ({Area:=[],Prefix:=x,Suffix:=y,Stroke:=[]},B2 w)/\(B2 w=true->x=w.take (Ch w)/\y=w.drop (Ch w)))
  (H3:∀ a b:Vp,a.length<=16->b.length<=16->∃ x y,f3 [a,b]=some ({Area:=a,Prefix:=x,Suffix:=y,Stroke:=[]},B2 b&&FV a&&decide (a.length < b.length))/\(B2 b=true->x=b.take (Ch b)/\y=b.drop (Ch b)))
  (H4:∀ a b:Vp,a.length<=16->b.length<=16->∃ x y,f4 [a,b]=some ({Area:=[],Prefix:=x,Suffix:=y,Stroke:=b},B2 a&&EF b)/\(B2 a=true->x=a.take (Ch a)/\y=a.drop (Ch a)))
  (H5:∀ a b c:Vp,a.length<=16->b.length<=16->c.length<=16->∃ x y,f5 [a,b,c]=some ({Area:=a,Prefix:=x,Suffix:=y,Stroke:=c},B2 b&&FV a&&EF c)/\(B2 b=true->x=b.take (Ch b)/\y=b.drop (Ch b))):
  ((AW (CR N s ws [({words_:=1,split_:=f2}:BE),{words_:=2,split_:=f3},{words_:=2,split_:=f4},{words_:=3,split_:=f5}]) N 0).bind fun o=>o.k (fun r=>some r) (fun _=>some (zp,false)))=some (match MS ws with | some t=>(P2 t,true) | none=>(zp,false)):=by
 generalize hF:([_,_,_,_]:List BE)=F;have htot:∀ fm,fm∈F->fm.words_=(ws.length:Int)->∃ r,fm.split_ ws=some r:=by
  subst hF;intro fm hfm hw;simp only [List.mem_cons,List.not_mem_nil,or_false] at hfm;rcases hfm with rfl | rfl | rfl | rfl <;> simp only at hw ⊢
  ·match ws,hw with
   | [w],_=>obtain ⟨_,_,h,_⟩:=H2 w (hle w (by simp));exact ⟨_,h⟩
  ·match ws,hw with
   | [a,b],_=>obtain ⟨_,_,h,_⟩:=H3 a b (hle a (by simp)) (hle b (by simp));exact ⟨_,h⟩
  ·match ws,hw with
   | [a,b],_=>obtain ⟨_,_,h,_⟩:=H4 a b (hle a (by simp)) (hle b (by simp));exact ⟨_,h⟩
  ·match ws,hw with
   | [a,b,c],_=>obtain ⟨_,_,h,_⟩:=H5 a b c (hle a (by simp)) (hle b (by simp)) (hle c (by simp));exact ⟨_,h⟩
 have hlen:F.length=4:=by subst hF;rfl
 have hb:∀ i (h:i < F.length),CR N s ws F (i:Int)=some ((O3 ws F[i]).elim (.next ((i + 1:Nat):Int)) .ret):=by
  intro i h;unfold CR;have hi:idx F (i:Int)=some F[i]:=by unfold idx;rw [if_pos (by omega)];simp [h]
  rw [E0 h,cT,hi,oS,II i (by omega)];have htt:=htot _ (List.getElem_mem h);generalize F[i]=fm at htt;unfold O3;by_cases hw:fm.words_=(ws.length:Int)
  ·obtain ⟨⟨p,ok⟩,hr⟩:=htt hw;rw [if_pos hw,show (fm.words_ !=(ws.length:Int))=false by simp [hw],cF,hr];cases ok <;> rfl
  ·rw [if_neg hw,show (fm.words_ !=(ws.length:Int))=true by simp [hw],cT];rfl
 have he:CR N s ws F (F.length:Int)=some (.done (F.length:Int)):=by
  unfold CR;rw [Ed,cF]
 rw [Pu (l:=F) (O3 ws) hb he (by omega)];subst hF
 match ws,hle with
 | [],_=>rfl
 | [w],hle=>
  obtain ⟨x,y,h1,h2⟩:=H2 w (hle w (by simp));unfold MS;have e:(([w]:List Vp).length:Int)=1:=rfl;simp only [List.findSome?_cons,List.findSome?_nil,O3,e,h1];cases hB:B2 w with
  | false=>rfl
  | true=>obtain ⟨rfl,rfl⟩:=h2 hB;rfl
 | [a,b],hle=>
  have ha:=hle a (by simp);have hb:=hle b (by simp);obtain ⟨x,y,h1,h2⟩:=H3 a b ha hb;obtain ⟨x',y',h3,h4⟩:=H4 a b ha hb;unfold MS;have e:(([a,b]:List Vp).length:Int)=2:=rfl;simp only [List.findSome?_cons,List.findSome?_nil,O3,e,h1,h3];clear h1 h3 H2 H3 H4 H5 htot hlen hb he;generalize decide (a.length < b.length)=D;generalize FV a=A;generalize EF b=S;cases hB:B2 b with
  | false=>
   cases hA:B2 a with
   | false=>cases A <;> cases D <;> rfl
   | true=>
    obtain ⟨rfl,rfl⟩:=h4 hA;cases A <;> cases D <;> cases S <;> rfl
  | true=>
   obtain ⟨rfl,rfl⟩:=h2 hB;cases hA:B2 a with
   | false=>cases A <;> cases D <;> rfl
   | true=>
    obtain ⟨rfl,rfl⟩:=h4 hA;cases A <;> cases D <;> cases S <;> rfl
 | [a,b,c],hle=>
  have ha:=hle a (by simp);have hb:=hle b (by simp);have hc:=hle c (by simp);obtain ⟨x,y,h1,h2⟩:=H5 a b c ha hb hc;unfold MS;have e:(([a,b,c]:List Vp).length:Int)=3:=rfl;simp only [List.findSome?_cons,List.findSome?_nil,O3,e,h1];clear h1 H2 H3 H4 H5 htot hlen hb he;generalize FV a=A;generalize EF c=S;cases hB:B2 b with
  | false=>cases A <;> cases S <;> rfl
  | true=>
   obtain ⟨rfl,rfl⟩:=h2 hB;cases A <;> cases S <;> rfl
 | a::b::c::d::t,_=>
  unfold MS;have e:∀ k:Int,k<=3->¬ k=((a::b::c::d::t).length:Int):=by intro k hk;simp only [List.length_cons];omega
  simp only [List.findSome?_cons,List.findSome?_nil,O3,if_neg (e 1 (by decide)),if_neg (e 2 (by decide)),if_neg (e 3 (by decide))];rfl
theorem SX (s:Vp) (hN:4294967300 < N):H9 N s=some (O5 s):=by
 unfold H9 O5 callB;by_cases hl:s.length<=16
 ·rw [decide_eq_false (by omega),cF,if_pos hl,P6 47 (by omega),oS];have hle:=Pm 47 s;generalize pcs 47 s=ws at hle;unfold Kn;rw [oS];exact O4 (fun w h=>Nat.le_trans (hle w h) hl) (by omega) _ _ _ _ (fun w h=>S3 h (by omega)) (fun a b h h'=>S2 h h' (by omega)) (fun a b h h'=>S1 h h' (by omega)) (fun a b c h h' h''=>S0 h h' h'' (by omega))
 ·rw [decide_eq_true (by omega),cT,if_neg hl];rfl
end
section
open Go.Lib (decDigits)
def QG (a:Nat) (l:Vp):Nat:=l.foldl (fun a b=>10 * a + (b.toNat - 48)) a
def KO (l:Vp):Nat:=QG 0 l
theorem M5 (a:Nat) (b:UInt8) (l:Vp):QG a (b::l)=QG (10 * a + (b.toNat - 48)) l:=by unfold QG;rw [List.foldl_cons]
theorem S7 {b:UInt8} (h:isD b=true):48<=b.toNat/\b.toNat<=57:=by
 unfold isD at h
 simpa only [Bool.and_eq_true,decide_eq_true_eq] using h
theorem SU (l:Vp):∀ (a k:Nat),l.all isD=true->a < 10 ^ k->QG a l < 10 ^ (k + l.length):=by
 induction l with
 | nil=>intro a k _ h;exact h
 | cons b l ih=>
  intro a k hd h;rw [M5];simp only [List.all_cons,Bool.and_eq_true] at hd;have hb:=S7 hd.1;have hp:10 ^ (k + 1)=10 ^ k * 10:=Nat.pow_succ ..
  have:=ih (10 * a + (b.toNat - 48)) (k + 1) hd.2 (by omega);rw [List.length_cons,show k + (l.length + 1)=k + 1 + l.length by omega];exact this
theorem SS {l:Vp} (h:l.all isD=true):KO l < 10 ^ l.length:=by
 have:=SU l 0 0 h (by decide)
 simpa [KO] using this
theorem dig {b:UInt8} (h:isD b=true):Go.Lib.digitVal b=some (b.toNat - 48):=by
 unfold isD at h;simp only [Bool.and_eq_true,decide_eq_true_eq] at h;unfold Go.Lib.digitVal;rw [if_pos h]
theorem Jy:∀ (l:Vp) (a:Nat),l.all isD=true->Go.Lib.decFrom a l=some (QG a l)
 | [],a,_=>rfl
 | b::l,a,h=>by
  simp only [List.all_cons,Bool.and_eq_true] at h;unfold Go.Lib.decFrom;rw [dig h.1,M5,Nat.mul_comm 10 a];exact Jy l _ h.2
theorem Sa {l:Vp} (h:l.all isD=true) (hn:1<=l.length):Go.Lib.atoi l=some (KO l:Int):=by
 match l,h,hn with
 | b::r,h,_=>
  have hb:=h;simp only [List.all_cons,Bool.and_eq_true] at hb;have h1:(b==45)=false:=by rw [beq_eq_false_iff_ne];rintro rfl;exact absurd hb.1 (by decide)
  have h2:(b==43)=false:=by rw [beq_eq_false_iff_ne];rintro rfl;exact absurd hb.1 (by decide)
  unfold Go.Lib.atoi;simp only [h1,h2,Bool.false_eq_true,if_false];unfold Go.Lib.decNat;simp only [List.isEmpty_cons,Bool.false_eq_true,if_false];rw [Jy _ _ h];rfl
def J3 (s:Vp):Bool:=s.all isD&&wiB s.length 1 9
def ST (s:Vp):Int:=if J3 s=true then (KO s:Int) else -1
theorem SO {k:Nat} (h:k<=9):10 ^ k<=1000000000:=Nat.le_trans (Nat.pow_le_pow_right (by decide) h) (by decide)
theorem Ln {s:Vp} (h:J3 s=true):KO s < 1000000000/\1<=s.length/\s.length<=9/\s.all isD=true:=by
 unfold J3 wiB at h;simp only [Bool.and_eq_true,decide_eq_true_eq] at h;exact ⟨Nat.lt_of_lt_of_le (SS h.1) (SO h.2.2),h.2.1,h.2.2,h.1⟩
section
variable {N : Nat} {s : Vp}
theorem L0 (hN:s.length < N):Cc N s=some (ST s):=by
 unfold Cc ST;rw [Gn (P0 N) s 9 hN,oS,show (decide ((1:Int)<=(s.length:Int))&&decide ((s.length:Int)<=(9:Int)))=wiB s.length 1 9 from Fi _ 1 9];have e:(s.all isD&&wiB s.length 1 9)=J3 s:=rfl;rw [e];cases h:J3 s with
 | false=>rfl
 | true=>
  have hl:=Ln h;rw [Bool.not_true,cF,if_pos rfl];unfold Eb;rw [if_pos (by omega),Go.Lib.atoiAll_short s (by omega),Sa hl.2.2.2 hl.2.1];rfl
end
def OE (d:Nat):UInt8:=UInt8.ofNat (48 + d)
theorem OD {d:Nat} (h:d < 10):(OE d).toNat=48 + d:=by unfold OE;rw [UInt8.toNat_ofNat'];omega
theorem Qf {d:Nat} (h:d < 10):isD (OE d)=true:=by unfold isD;rw [OD h];simp;omega
theorem Jz {u:Nat} (h:u < 10):decDigits u=[OE u]:=by rw [decDigits,dif_pos h];rfl
theorem PD {u:Nat} (h:¬ u < 10):decDigits u=decDigits (u / 10)++[OE (u % 10)]:=by
 conv=>lhs;rw [decDigits,dif_neg h]
 rfl
theorem T2 (u:Nat):1<=(decDigits u).length:=by
 by_cases h:u < 10
 ·rw [Jz h];simp
 ·rw [PD h];simp
theorem T3 (u:Nat):(decDigits u).all isD=true:=by
 induction u using Nat.strongRecOn with
 | _ u ih=>
  by_cases h:u < 10
  ·rw [Jz h];simp [Qf h]
  ·rw [PD h,List.all_append,ih (u / 10) (by omega)];simp [Qf (Nat.mod_lt u (by decide:0 < 10))]
theorem NK:∀ (k u:Nat),u < 10 ^ (k + 1)->(decDigits u).length<=k + 1
 | 0,u,h=>by rw [Jz (by simpa using h)];simp
 | k + 1,u,h=>by
  by_cases hu:u < 10
  ·rw [Jz hu];simp
  ·rw [PD hu,List.length_append];have:=NK k (u / 10) (by rw [Nat.pow_succ] at h;omega);simp;omega
def dP (k u:Nat):Vp:=List.replicate (k - (decDigits u).length) 48++decDigits u
theorem PE (k u:Nat):(dP k u).all isD=true:=by
 unfold dP;rw [List.all_append,T3,Bool.and_true,List.all_eq_true];intro b hb;rw [List.eq_of_mem_replicate hb];decide
theorem NL (k u:Nat):k<=(dP k u).length/\1<=(dP k u).length:=by
 unfold dP;have:=T2 u;rw [List.length_append,List.length_replicate];omega
theorem JA {k j u:Nat} (h:u < 10 ^ (j + 1)):(dP k u).length<=max k (j + 1):=by
 unfold dP;have:=NK j u h;rw [List.length_append,List.length_replicate];omega
theorem PX:∀ n,Go.Lib.repeatL [48] n=List.replicate n 48
 | 0=>rfl
 | n + 1=>by unfold Go.Lib.repeatL;rw [PX n];rfl
section
variable {N : Nat}
theorem RH (u:Nat) (h:u<=1000000000):strconv_Itoa N (u:Int)=some (decDigits u):=by
 unfold strconv_Itoa;rw [if_pos (by omega),Go.Lib.itoa_nonneg]
theorem LZ (u k:Nat) (h:u<=1000000000) (hk:k<=100):BR N (u:Int) (k:Int)=some (dP k u):=by
 unfold BR;rw [RH u h,oS];have hl:(decDigits u).length<=10:=NK 9 u (by omega);rw [DE (by omega) (by omega)];have e:max (0:Int) ((k:Int) - ((decDigits u).length:Int))=((k - (decDigits u).length:Nat):Int):=by omega
 rw [e];unfold strings_Repeat;rw [if_pos (by simp;omega),oS,Int.toNat_natCast,PX];rw [HV (by simp;omega)];rfl
end
end
section
open Go.Lib (decDigits)
def Tn (u:Nat):Vp:=decDigits (u / 1440 + 1)++32::(dP 2 (u / 60 % 24)++dP 2 (u % 60))
def GL (x:Int):Vp×Int:=if 0<=x/\x<=20000 then (Tn x.toNat,0) else ([],1)
theorem Q7 (u k:Nat) (h:u < 4611686018427387904):W64 (Int.tdiv (u:Int) (k:Int))=((u / k:Nat):Int):=by
 have:Int.tdiv (u:Int) (k:Int)=((u / k:Nat):Int):=by rw [Int.tdiv_eq_ediv_of_nonneg (by omega)];rfl
 have h2:u / k<=u:=Nat.div_le_self _ _;rw [this];generalize u / k=v at h2;rw [DE (by omega) (by omega)]
theorem Q6 (u k:Nat):Int.tmod (u:Int) (k:Int)=((u % k:Nat):Int):=by
 rw [Int.tmod_eq_emod_of_nonneg (by omega)];rfl
theorem Tf {u:Nat} (h:u < 100000):(decDigits u).length<=5:=NK 4 u (by omega)
theorem Qe {u:Nat} (h:u < 100):(dP 2 u).length=2:=by
 have h1:=NL 2 u;have h2:=JA (k:=2) (j:=1) (u:=u) (by omega);omega
section
variable {N : Nat}
theorem N9 (x:Int):CW N x=some (GL x):=by
 unfold CW GL;rw [LY,oS];by_cases h:0<=x/\x<=20000
 ·rw [if_pos h,decide_eq_true h.1,decide_eq_true h.2];obtain ⟨u,rfl⟩:∃ u:Nat,x=u:=⟨x.toNat,by omega⟩;have hu:u<=20000:=by omega
  simp only [Bool.and_self,Bool.not_true,cF];have e1:=Q7 u 1440 (by omega);have e2:=Q7 u 60 (by omega);simp only [Int.cast_ofNat_Int] at e1 e2;have e3:=Q6 (u / 60) 24;have e4:=Q6 u 60;simp only [Int.cast_ofNat_Int] at e3 e4;rw [e1,e2,e3,e4,II (u / 1440) (by omega),RH _ (by omega),oS];have h0:=Tf (u:=u / 1440 + 1) (by omega);have h1:=Qe (u:=u / 60 % 24) (by omega);have h2:=Qe (u:=u % 60) (by omega);have p1:=LZ (N:=N) (u / 60 % 24) 2 (by omega) (by omega);have p2:=LZ (N:=N) (u % 60) 2 (by omega) (by omega);simp only [Int.cast_ofNat_Int] at p1 p2;rw [HV (by simp;omega),oS,p1,oS,HV (by simp;omega),oS,p2,oS,HV (by simp;omega),oS];unfold Tn;simp
 ·rw [if_neg h];have:(decide (0<=x)&&decide (x<=20000))=false:=by
   rw [Bool.and_eq_false_iff,decide_eq_false_iff_not,decide_eq_false_iff_not];omega
  rw [this];rfl
def Mw (p q:Nat):Nat:=(p - 1) * 1440 + q / 100 * 60 + q % 100
theorem Sr {p q:Nat} (h1:1<=p) (hp:p < 1000000000) (hq:q < 1000000000):W64 ((W64 ((W64 ((W64 ((p:Int) - 1)) * 1440)) + (W64 ((W64 (Int.tdiv (q:Int) 100)) * 60)))) + (Int.tmod (q:Int) 100))=(Mw p q:Int):=by
 have e1:=Q7 q 100 (by omega);have e2:=Q6 q 100;simp only [Int.cast_ofNat_Int] at e1 e2;rw [e1,e2,DE (n:=(p:Int) - 1) (by omega) (by omega),DE (n:=((p:Int) - 1) * 1440) (by omega) (by omega),DE (n:=((q / 100:Nat):Int) * 60) (by omega) (by omega)];rw [DE (n:=((p:Int) - 1) * 1440 + ((q / 100:Nat):Int) * 60) (by omega) (by omega),DE (by omega) (by omega)];unfold Mw;omega
def LV (s a b:Vp):Int×Int:=if J3 a&&J3 b&&decide (1<=KO a)&&decide (GL (Mw (KO a) (KO b))=(s,0)) then ((Mw (KO a) (KO b):Int),0) else (0,13)
def Po (s:Vp):Int×Int:=match pcs 32 s with
 | [a,b]=>LV s a b
 | _=>(0,13)
theorem QH {s:Vp} (h:(32:UInt8)∈s):J3 s=false:=by
 cases hh:J3 s with
 | false=>rfl
 | true=>
  have:=List.all_eq_true.1 (Ln hh).2.2.2 _ h
  revert this;decide
theorem RA:J3 []=false:=rfl
theorem Ry (s t:Vp) (e:Int):((e !=0)||(t !=s))= !decide ((t,e)=(s,0)):=by
 by_cases h1:e=0
 ·by_cases h2:t=s
  ·subst h1;subst h2;simp
  ·rw [decide_eq_false (fun h=>h2 (by injection h))];simp [h2]
 ·rw [decide_eq_false (fun h=>h1 (by injection h))];simp [h1]
theorem M3 (s a b:Vp) (ha:a.length < N) (hb:b.length < N):
  ((Cc N a).bind fun r9=>((Cc N b).bind fun h0=>(bif ((decide (r9 < 1))||((decide (r9 > 20000))||(decide (h0 < 0)))) then some ((0:Int),(13:Int)) else ((CW N (W64 ((W64 ((W64 ((W64 (r9 - 1)) * 1440)) + (W64 ((W64 (Int.tdiv h0 100)) * 60)))) + (Int.tmod h0 100)))).bind fun h4=>(bif ((h4.2 !=0)||(h4.1 !=s)) then some (0,13) else some ((W64 ((W64 ((W64 ((W64 (r9 - 1)) * 1440)) + (W64 ((W64 (Int.tdiv h0 100)) * 60)))) + (Int.tmod h0 100))),0))))))=some (LV s a b):=by
 rw [L0 ha,L0 hb,oS,oS];unfold ST LV;cases hA:J3 a with
 | false=>
  simp only [Bool.false_eq_true,if_false,Bool.false_and];rfl
 | true=>
  cases hB:J3 b with
  | false=>
   simp only [Bool.false_eq_true,if_false,if_true,Bool.and_false,Bool.false_and];rw [show decide ((-1:Int) < 0)=true from rfl,Bool.or_true,Bool.or_true];rfl
  | true=>
   simp only [if_true,Bool.and_self,Bool.true_and];have hp:=Ln hA;have hq:=Ln hB;generalize KO a=p at hp ⊢;generalize KO b=q at hq ⊢;by_cases h1:1<=p
   ·rw [decide_eq_false (show ¬ (p:Int) < 1 by omega),decide_eq_true h1,decide_eq_false (show ¬ (q:Int) < 0 by omega),Bool.false_or,Bool.or_false,Bool.true_and,Sr h1 hp.1 hq.1];by_cases h2:p<=20000
    ·rw [decide_eq_false (show ¬ (p:Int) > 20000 by omega),cF,N9,oS,Ry];have:((GL (Mw p q:Int)).1,(GL (Mw p q:Int)).2)=GL (Mw p q:Int):=rfl;rw [this];by_cases h3:GL (Mw p q:Int)=(s,0)
     ·rw [decide_eq_true h3,if_pos rfl];rfl
     ·rw [decide_eq_false h3];rfl
    ·rw [decide_eq_true (show (p:Int) > 20000 by omega),cT];have h3:¬ GL (Mw p q:Int)=(s,0):=by
      unfold GL Mw;rw [if_neg (by omega)];intro h;injection h with h1 h2;exact absurd h2 (by decide)
     rw [decide_eq_false h3];rfl
   ·rw [decide_eq_true (show (p:Int) < 1 by omega),decide_eq_false h1];rfl
theorem LU {s a b:Vp} (h:J3 b=false):LV s a b=(0,13):=by unfold LV;rw [h];simp
theorem Oa (s:Vp) (hs:s.length < 4294967281) (hN:4294967300 < N):Fz N s=some (Po s):=by
 unfold Fz;have hc:strings_Cut N s [32]=some (Go.Lib.cut s [32]):=by unfold strings_Cut;rw [if_pos hs]
 rw [hc,oS];unfold Po;by_cases h:(32:UInt8)∈s
 ·obtain ⟨a,t,rfl,ha⟩:=Ec h;simp only [List.length_append,List.length_cons] at hs;rw [R3 ha,Lm ha];simp only;rw [M3 _ a t (by omega) (by omega)];by_cases ht:(32:UInt8)∈t
  ·obtain ⟨a',t',rfl,ha'⟩:=Ec ht;rw [Lm ha',LU (QH ht)];cases hp:pcs 32 t' with
   | nil=>exact absurd hp (Rv 32 t')
   | cons x l=>rfl
  ·rw [Jm ht]
 ·rw [R4 h,Jm h];simp only;rw [M3 _ s [] (by omega) (by simp;omega),LU RA]
end
end
theorem Ow {ρ:Type} {body:Int->Option (Bm ρ Int)} {n:Nat} (ok:Nat->Bool) (bad:Nat->ρ)
  (hb:∀ i,i < n->body (i:Int)=some (bif ok i then .next ((i + 1:Nat):Int) else .ret (bad i))) (he:body (n:Int)=some (.done (n:Int))) {N:Nat} (hN:n < N):
  ((∀ i,i < n->ok i=true)/\AW body N 0=some (.done (n:Int)))\/(∃ i,i < n/\ok i=false/\(∀ k,k < i->ok k=true)/\AW body N 0=some (.ret (bad i))):=by
 obtain ⟨o,ho,hR⟩:=Eh (body:=body) n (fun i s=>s=(i:Int)/\ ∀ k,k < i->ok k=true) (fun o=>((∀ i,i < n->ok i=true)/\o=.done (n:Int))\/(∃ i,i < n/\ok i=false/\(∀ k,k < i->ok k=true)/\o=.ret (bad i))) (by
  rintro i s hi ⟨rfl,hk⟩;by_cases h:i < n
  ·rw [hb i h];cases e:ok i with
   | true=>
    refine .inl ⟨_,rfl,⟨rfl,fun k hk'=>?_⟩,h⟩;by_cases hki:k=i
    ·subst hki;exact e
    ·exact hk k (by omega)
   | false=>exact .inr ⟨_,rfl,(fun _ h=>by cases h),.inr ⟨i,h,e,hk,rfl⟩⟩
  ·have:i=n:=by omega
   subst this;rw [he];exact .inr ⟨_,rfl,(fun _ h=>by cases h),.inl ⟨hk,rfl⟩⟩) n N 0 0 (by omega) ⟨rfl,fun k hk=>by omega⟩ hN
 rcases hR with ⟨h1,rfl⟩ | ⟨i,h1,h2,h3,rfl⟩
 ·exact .inl ⟨h1,ho⟩
 ·exact .inr ⟨i,h1,h2,h3,ho⟩
theorem Ub (i:Nat) (h:i < 4611686018427387904) (h0:0 < i):W64 ((i:Int) - 1)=((i - 1:Nat):Int):=by
 rw [DE (by omega) (by omega)];omega
section
open Go.Lib (decDigits)
theorem P3 (s:Vp):(s !=[])= !decide (s=[]):=by
 cases s <;> rfl
def jn (l:List Vp):Vp:=Go.Lib.join l [32]
theorem TO:jn []=[]:=rfl
theorem TN (x:Vp):jn [x]=x:=Go.Lib.join_one x [32]
section
variable {N : Nat}
theorem Um (a b:Vp) (hN:4294967300 < N):EM N [a,b]=some (if a=[] then b else a):=by
 obtain ⟨M,rfl⟩:∃ M,N=M + 3:=⟨N - 3,by omega⟩;unfold EM;by_cases ha:a=[]
 ·rw [if_pos ha];by_cases hb:b=[]
  ·subst ha;subst hb;rfl
  ·have e1:CE (M + 3) [a,b] 0=some (.next 1):=by subst ha;rfl
   have e2:CE (M + 3) [a,b] 1=some (.ret b):=by
    show (bif (b !=([]:Vp)) then some (.ret b) else some (.next (W64 (1 + 1))))=some (Bm.ret b);rw [P3,decide_eq_false hb];rfl
   rw [AW,e1];simp only;rw [AW,e2];rfl
 ·rw [if_neg ha];have e1:CE (M + 3) [a,b] 0=some (.ret a):=by
   show (bif (a !=([]:Vp)) then some (.ret a) else some (.next (W64 (0 + 1))))=some (Bm.ret a);rw [P3,decide_eq_false ha];rfl
  rw [AW,e1];rfl
theorem KP {l:List AR} {p:AR->Option Bool} (F:AR->Bool) (hp:∀ x,x∈l->p x=some (F x)) (hl:l.length < 4000000000) (hN:4294967300 < N):A0 N l p=some (l.any F):=by
 unfold A0 Bq;rcases Ow (body:=AP N l p) (n:=l.length) (fun i=>!((l[i]?.map F).getD false)) (fun i=>(i:Int)) (by
   intro i hi;unfold AP;rw [E0 hi,cT,Cf hi,oS,hp _ (List.getElem_mem hi),oS,II i (by omega),List.getElem?_eq_getElem hi];simp only [Option.map_some,Option.getD_some];cases F l[i] <;> rfl) (by
   unfold AP;rw [Ed,cF]) (N:=N) (by omega) with ⟨g1,g2⟩ | ⟨i,hi,g1,_,g2⟩
 ·rw [g2];have:l.any F=false:=by
   rw [List.any_eq_false];intro x hx;obtain ⟨i,hi,rfl⟩:=List.getElem_of_mem hx;have:=g1 i hi;rw [List.getElem?_eq_getElem hi] at this
   simpa using this
  rw [this];rfl
 ·rw [g2];have:l.any F=true:=by
   rw [List.any_eq_true];rw [List.getElem?_eq_getElem hi] at g1;exact ⟨l[i],List.getElem_mem hi,by simpa using g1⟩
  rw [this];show some (decide ((i:Int)>=0))=some true;rw [decide_eq_true (by omega)]
def Py (h:Bool) (n m:Int):Bool:=bif h then (decide (1<=n)&&decide (n<=m)) else n==0
def Ea (L:Ac) (E:Ad):Bool:=Py L.Report E.Report 599&&(Py L.Serial E.Serial 99999&&Py L.Zone E.Zone 99)
theorem TF (P:AR):B3 N P=some (!Py P.has_ P.n_ P.most_):=by
 unfold B3 Py;rw [LY,oS];obtain ⟨h,n,m,d⟩:=P;simp only;cases h with
 | true=>cases (decide (1<=n)&&decide (n<=m)) <;> rfl
 | false=>
  by_cases hn:n=0
  ·subst hn;rw [show (decide ((1:Int)<=0)&&decide (0<=m))=false by rw [decide_eq_false (by omega)];rfl];rfl
  ·have e1:(n !=0)=true:=by simpa using hn
   have e2:(n==0)=false:=by simpa using hn
   rw [e1,e2];cases (decide (1<=n)&&decide (n<=m)) <;> rfl
theorem Hk (L:Ac) (E:Ad) (hN:4294967300 < N):B0 N L E=some (Ea L E):=by
 unfold B0;unfold CH;rw [oS,KP (fun P=>!Py P.has_ P.n_ P.most_) (fun x _=>TF x) (by simp) hN,oS];unfold Ea;simp
def fs (L:Ac) (E:Ad):List Vp:=(if L.Report=true then [dP 1 E.Report.toNat] else [])++((if L.Serial=true then [dP 3 E.Serial.toNat] else [])++(if L.Zone=true then [dP 2 E.Zone.toNat] else []))
def Tm (L:Ac) (E:Ad):Vp:=if fs L E=[] then [45] else jn (fs L E)
def LT (L:Ac) (E:Ad):Vp×Int:=if Ea L E=true then (Tm L E,0) else ([],1)
structure OkE (L:Ac) (E:Ad):Prop where
 r:if L.Report=true then 1<=E.Report/\E.Report<=599 else E.Report=0
 s:if L.Serial=true then 1<=E.Serial/\E.Serial<=99999 else E.Serial=0
 z:if L.Zone=true then 1<=E.Zone/\E.Zone<=99 else E.Zone=0
theorem okE {L:Ac} {E:Ad} (h:Ea L E=true):OkE L E:=by
 unfold Ea Py at h;simp only [Bool.and_eq_true] at h;obtain ⟨h1,h2,h3⟩:=h;constructor
 ·cases hL:L.Report <;> rw [hL] at h1 <;> simpa using h1
 ·cases hL:L.Serial <;> rw [hL] at h2 <;> simpa using h2
 ·cases hL:L.Zone <;> rw [hL] at h3 <;> simpa using h3
theorem OkE.le {L:Ac} {E:Ad} (h:OkE L E):(0<=E.Report/\E.Report<=599)/\(0<=E.Serial/\E.Serial<=99999)/\0<=E.Zone/\E.Zone<=99:=by
 obtain ⟨h1,h2,h3⟩:=h;refine ⟨?_,?_,?_⟩
 ·split at h1 <;> omega
 ·split at h2 <;> omega
 ·split at h3 <;> omega
theorem Qd {L:Ac} {E:Ad} (h:OkE L E):∀ w,w∈fs L E->w.length<=5/\w.all isD=true/\1<=w.length:=by
 obtain ⟨h1,h2,h3⟩:=h.le;intro w hw;unfold fs at hw;simp only [List.mem_append] at hw;have l1:=JA (k:=1) (j:=2) (u:=E.Report.toNat) (by omega);have l2:=JA (k:=3) (j:=4) (u:=E.Serial.toNat) (by omega);have l3:=JA (k:=2) (j:=1) (u:=E.Zone.toNat) (by omega);rcases hw with hw | hw | hw
 ·split at hw
  ·simp at hw;subst hw;exact ⟨by omega,PE _ _,(NL _ _).2⟩
  ·cases hw
 ·split at hw
  ·simp at hw;subst hw;exact ⟨by omega,PE _ _,(NL _ _).2⟩
  ·cases hw
 ·split at hw
  ·simp at hw;subst hw;exact ⟨by omega,PE _ _,(NL _ _).2⟩
  ·cases hw
theorem RT (L:Ac) (E:Ad):(fs L E).length<=3:=by
 unfold fs;split <;> split <;> split <;> simp
theorem RN:∀ l:List Vp,(∀ w,w∈l->w.length<=5)->(jn l).length<=l.length * 6
 | [],_=>by simp [TO]
 | [x],h=>by rw [TN];have:=h x (by simp);simp;omega
 | x::y::r,h=>by
  have ih:=RN (y::r) (fun w hw=>h w (List.mem_cons_of_mem _ hw));have hx:=h x (by simp);have:jn (x::y::r)=x++32::jn (y::r):=by
   unfold jn;rw [Go.Lib.join_cons,Go.Lib.join_cons];unfold Go.Lib.joinTail;simp
  rw [this,List.length_append,List.length_cons,List.length_cons (a:=x)];omega
theorem Uy {L:Ac} {E:Ad} (h:OkE L E):(jn (fs L E)).length<=18:=by
 have:=RN (fs L E) (fun w hw=>(Qd h w hw).1);have:=RT L E;omega
theorem Up {l:List Vp} (h:∀ w,w∈l->1<=w.length):jn l=[] ↔ l=[]:=by
 constructor
 ·intro hj
  match l,h,hj with
  | [],_,_=>rfl
  | x::r,h,hj=>
   exfalso;unfold jn at hj;rw [Go.Lib.join_cons] at hj;have:=h x (by simp);rw [List.append_eq_nil_iff] at hj;rw [hj.1] at this;exact absurd this (by decide)
 ·rintro rfl;rfl
theorem TC {n:Int} {k:Nat} (h0:0<=n) (h1:n<=1000000000) (hk:k<=100):BR N n (k:Int)=some (dP k n.toNat):=by
 obtain ⟨u,rfl⟩:∃ u:Nat,n=u:=⟨n.toNat,by omega⟩;exact LZ u k (by omega) hk
def OC (L:Ac) (E:Ad) (i:Nat):List Vp:=if i=0 then (if L.Report=true then [dP 1 E.Report.toNat] else []) else if i=1 then (if L.Serial=true then [dP 3 E.Serial.toNat] else []) else (if L.Zone=true then [dP 2 E.Zone.toNat] else [])
theorem TU (L:Ac) (E:Ad):cat 3 (OC L E)=fs L E:=by
 rw [HK,HK,HK];unfold fs;rw [<-List.append_assoc];rfl
theorem RU (L:Ac) (E:Ad) (i:Nat):(OC L E i).length<=1:=by
 unfold OC;split
 ·split <;> simp
 ·split <;> split <;> simp
theorem Rh (L:Ac) (E:Ad) (hN:4294967300 < N):BF N L E=some (LT L E):=by
 unfold BF LT;rw [Hk L E hN,oS];cases hv:Ea L E with
 | false=>rfl
 | true=>
  have ok:=okE hv;obtain ⟨h1,h2,h3⟩:=ok.le;rw [Bool.not_true,cF,if_pos rfl];unfold CH;rw [oS];generalize hP:([_,_,_]:List AR)=P;have hstep:∀ (i:Nat) (s:List Vp),i < 3->s.length + 1<=0 + 3 * 1->BW N L E true P (s,(i:Int))=some (.next (s++OC L E i,((i + 1:Nat):Int))):=by
   intro i s hi hs;have p1:BR N E.Report 1=some (dP 1 E.Report.toNat):=TC (k:=1) h1.1 (by omega) (by omega);have p2:BR N E.Serial 3=some (dP 3 E.Serial.toNat):=TC (k:=3) h2.1 (by omega) (by omega);have p3:BR N E.Zone 2=some (dP 2 E.Zone.toNat):=TC (k:=2) h3.1 (by omega) (by omega);have ha:∀ w:Vp,Cz s [w]=some (s++[w]):=fun w=>Tj (by simp;omega);unfold BW;subst hP;simp only;rw [II i (by omega)]
   match i,hi with
   | 0,_=>
    show ((bif L.Report then ((BR N E.Report 1).bind fun h0=>((Cz s [h0]).bind fun h4=>some h4)) else some s).bind fun h5=>some (Bm.next (h5,_)))=_;rw [p1,oS,ha];unfold OC;cases L.Report <;> simp
   | 1,_=>
    show ((bif L.Serial then ((BR N E.Serial 3).bind fun h0=>((Cz s [h0]).bind fun h4=>some h4)) else some s).bind fun h5=>some (Bm.next (h5,_)))=_;rw [p2,oS,ha];unfold OC;cases L.Serial <;> simp
   | 2,_=>
    show ((bif L.Zone then ((BR N E.Zone 2).bind fun h0=>((Cz s [h0]).bind fun h4=>some h4)) else some s).bind fun h5=>some (Bm.next (h5,_)))=_;rw [p3,oS,ha];unfold OC;cases L.Zone <;> simp
  have hend:∀ s:List Vp,BW N L E true P (s,((3:Nat):Int))=some (.done (s,((3:Nat):Int))):=by
   intro s;subst hP;rfl
  rw [QK (n:=3) 1 (OC L E) (fun i _=>RU L E i) (s0:=[]) hstep hend (by omega),TU];simp only [List.nil_append,oS,Bm.k];have hj:=Uy ok;have hl:=RT L E;have e1:strings_Join N (fs L E) [32]=some (jn (fs L E)):=by
   unfold strings_Join;exact if_pos ⟨by omega,by unfold jn at hj;omega⟩
  rw [e1,oS,Um _ _ hN,oS];unfold Tm;have:=Up (fun w hw=>(Qd ok w hw).2.2);by_cases hf:fs L E=[]
  ·rw [if_pos hf,if_pos (this.2 hf)]
  ·rw [if_neg hf,if_neg (fun h=>hf (this.1 h))]
def Hh (h:Bool) (ws:List Vp):List Vp×Int:=match h,ws with
 | true,w::r=>(r,ST w)
 | _,_=>(ws,0)
def J2 (L:Ac) (ws:List Vp):Ad:={Report:=(Hh L.Report ws).2,Serial:=(Hh L.Serial (Hh L.Report ws).1).2,Zone:=(Hh L.Zone (Hh L.Serial (Hh L.Report ws).1).1).2}
def Pn (L:Ac) (s:Vp):Ad×Int:=if LT L (J2 L (pcs 32 s))=(s,0) then (J2 L (pcs 32 s),0) else ({Report:=0,Serial:=0,Zone:=0},1)
theorem MT (h:Bool) (ws:List Vp):∀ w,w∈(Hh h ws).1->w∈ws:=by
 intro w hw
 match h,ws,hw with
 | true,x::r,hw=>exact List.mem_cons_of_mem _ hw
 | true,[],hw=>exact hw
 | false,_,hw=>exact hw
theorem LE (h:Bool) (ws:List Vp) (hl:∀ w,w∈ws->w.length < N):(bif (h&&decide ((ws.length:Int) > 0)) then ((idx ws 0).bind fun h0=>((Cc N h0).bind fun h1=>((sub ws 1 (ws.length:Int)).bind fun h2=>some (h2,h1)))) else some (ws,(0:Int)))=some (Hh h ws):=by
 match h,ws,hl with
 | false,_,_=>rfl
 | true,[],_=>rfl
 | true,w::r,hl=>
  have e0:idx (w::r) 0=some w:=rfl;have e1:sub (w::r) 1 ((w::r).length:Int)=some r:=by
   unfold sub;rw [if_pos ⟨by omega,by simp only [List.length_cons];omega,by omega⟩];simp
  rw [decide_eq_true (by simp only [List.length_cons];omega),e0,e1,oS,L0 (hl w (by simp))];rfl
theorem Ri (L:Ac) (s:Vp) (hs:s.length < 4294967281) (hN:4294967300 < N):D0 N L s=some (Pn L s):=by
 unfold D0 Pn;rw [P6 32 hs,oS];have hle:=Pm 32 s;generalize pcs 32 s=ws at hle;have hn:∀ w,w∈ws->w.length < N:=fun w hw=>by have:=hle w hw;omega
 have c0:∀ (E:Ad) (b:Bool),((CH N L E).bind fun h0=>((idx h0 0).bind fun h1=>(bif h1.has_ then some b else some false)))=some (L.Report&&b):=by
  intro E b;show (bif L.Report then some b else some false)=_;cases L.Report <;> rfl
 have c1:∀ (E:Ad) (b:Bool),((CH N L E).bind fun h0=>((idx h0 1).bind fun h1=>(bif h1.has_ then some b else some false)))=some (L.Serial&&b):=by
  intro E b;show (bif L.Serial then some b else some false)=_;cases L.Serial <;> rfl
 have c2:∀ (E:Ad) (b:Bool),((CH N L E).bind fun h0=>((idx h0 2).bind fun h1=>(bif h1.has_ then some b else some false)))=some (L.Zone&&b):=by
  intro E b;show (bif L.Zone then some b else some false)=_;cases L.Zone <;> rfl
 rw [c0,oS,LE L.Report ws hn,oS,c1,oS];have h2:∀ w,w∈(Hh L.Report ws).1->w.length < N:=fun w hw=>hn w (MT _ _ w hw);rw [LE L.Serial _ h2,oS,c2,oS];have h3:∀ w,w∈(Hh L.Serial (Hh L.Report ws).1).1->w.length < N:=fun w hw=>h2 w (MT _ _ w hw);rw [LE L.Zone _ h3,oS];show ((BF N L (J2 L ws)).bind _)=_;rw [Rh L _ hN,oS,Ry];show (bif (!decide (LT L (J2 L ws)=(s,0))) then _ else some (J2 L ws,(0:Int)))=_;by_cases h:LT L (J2 L ws)=(s,0)
 ·rw [decide_eq_true h,if_pos h];rfl
 ·rw [decide_eq_false h,if_neg h];rfl
end
end
def JV (s:Vp):Bool:=(callB s).isSome
section
variable {N : Nat}
theorem Sx (s:Vp) (hN:4294967300 < N):Fy N s=some (JV s):=by
 unfold Fy JV;rw [SX s hN,oS];unfold O5;cases callB s <;> rfl
end
def DK (_N:Nat) (s:Vp):Option Bool:=some (JV s)
theorem EB:Af Tryz.prog 79:=JH
theorem E5 (N:Nat) (w0:World) (F0:Mem) (hF:Vr w0 F0) (hG:Bt F0) (x0:Vp) (r:Bool) (h:DK N x0=some r):
  Calls Tryz.prog 79 ([(.string ⟨(x0).toArray⟩)]:List Value).toArray w0 (AF w0 F0 fun F' v=>v=(.bool r)):=by
 exact Kk 9223372036854775808 w0 F0 hF hG x0 r ((Sx x0 (by decide)).trans h)
def Gi (_N:Nat) (s:Vp):Option (Int×Int):=if s.length < 4294967281 then some (Po s) else none
theorem Kf:Af Tryz.prog 96:=JI
theorem Lj (N:Nat) (w0:World) (F0:Mem) (hF:Vr w0 F0) (hG:Bt F0) (x0:Vp) (r:(Int×Int)) (h:Gi N x0=some r):
  Calls Tryz.prog 96 ([(.string ⟨(x0).toArray⟩)]:List Value).toArray w0 (AF w0 F0 fun F' v=>v=(.tuple #[(.int .i64 r.1),(.int .i64 r.2)])):=by
 unfold Gi at h;split at h
 ·rename_i hs;exact Kl 9223372036854775808 w0 F0 hF hG x0 r ((Oa x0 hs (by decide)).trans h)
 ·cases h
def C7 (_N:Nat) (L:Ac) (s:Vp):Option (Ad×Int):=if s.length < 4294967281 then some (Pn L s) else none
theorem Bu:Af Tryz.prog 97:=Hd
theorem BI (N:Nat) (w0:World) (F0:Mem) (hF:Vr w0 F0) (hG:Bt F0) (x0:Ac) (x1:Vp) (r:(Ad×Int)) (h:C7 N x0 x1=some r):
  Calls Tryz.prog 97 ([(.agg #[(.bool x0.Report),(.bool x0.Serial),(.bool x0.Zone)]),(.string ⟨(x1).toArray⟩)]:List Value).toArray w0 (AF w0 F0 fun F' v=>v=(.tuple #[(.agg #[(.int .i64 r.1.Report),(.int .i64 r.1.Serial),(.int .i64 r.1.Zone)]),(.int .i64 r.2)])):=by
 unfold C7 at h;split at h
 ·rename_i hs;exact HP 9223372036854775808 w0 F0 hF hG x0 x1 r ((Ri x0 x1 hs (by decide)).trans h)
 ·cases h
section
open Go.Lib (decDigits)
def NU (b:UInt8):Bool:=isL b||isD b||b==47
def Fq (s:Vp):Bool:=wiB s.length 1 16&&s.all NU
def Ev (o:Ac) (x:Line):Bool:=decide (1<=x.Num/\x.Num<=65535)&&(decide (1<=x.Khz/\x.Khz<=10000000)&&(decide (1<=x.Mode/\x.Mode<=3)&&(decide (0<=x.Minute/\x.Minute<=20000)&&(Fq x.Call&&(Ea o x.Sent&&Ea o x.Got)))))
structure OkL (o:Ac) (x:Line):Prop where
 n:1<=x.Num/\x.Num<=65535
 k:1<=x.Khz/\x.Khz<=10000000
 m:1<=x.Mode/\x.Mode<=3
 t:0<=x.Minute/\x.Minute<=20000
 c:Fq x.Call=true
 s:Ea o x.Sent=true
 g:Ea o x.Got=true
theorem Qq {o:Ac} {x:Line}:Ev o x=true ↔ OkL o x:=by
 unfold Ev;simp only [Bool.and_eq_true,decide_eq_true_eq];exact ⟨fun ⟨a,b,c,d,e,f,g⟩=>⟨a,b,c,d,e,f,g⟩,fun h=>⟨h.n,h.k,h.m,h.t,h.c,h.s,h.g⟩⟩
def UN (m:Int):Vp:=if m=1 then [77] else if m=2 then [86] else [68]
def fsw (o:Ac) (E:Ad):List Vp:=if fs o E=[] then [[45]] else fs o E
def tW (u:Nat):List Vp:=[decDigits (u / 1440 + 1),dP 2 (u / 60 % 24)++dP 2 (u % 60)]
def QSO:Vp:=[81,83,79]
def Ur (x:Line):List Vp:=[QSO,decDigits x.Num.toNat,decDigits x.Khz.toNat,UN x.Mode]++tW x.Minute.toNat++[x.Call,[62]]
def Un (o:Ac) (x:Line):List Vp:=Ur x++(fsw o x.Sent++[60]::fsw o x.Got)
def Uo (o:Ac) (x:Line):Vp:=jn (Un o x)
theorem Px {s:Vp} (h:Fq s=true):(32:UInt8)∉s/\s≠[60]/\s≠[62]/\1<=s.length/\s.length<=16:=by
 unfold Fq wiB at h;simp only [Bool.and_eq_true,decide_eq_true_eq] at h;obtain ⟨⟨h1,h2⟩,h3⟩:=h;rw [List.all_eq_true] at h3;refine ⟨fun hm=>?_,?_,?_,h1,h2⟩
 ·have:=h3 _ hm;revert this;decide
 ·rintro rfl;have:=h3 60 (by simp);revert this;decide
 ·rintro rfl;have:=h3 62 (by simp);revert this;decide
end

section
open Go.Lib (decDigits)
def Ua:Vp:=[67,65,76,76]
def UH:Vp:=[67,65,84,69,71,79,82,89]
def UD:Vp:=[80,79,87,69,82]
def UG:Vp:=[67,76,65,73,77,69,68]
def UE:Vp:=[74,85,77,80,83]
def UF:Vp:=[69,78,68]
def QN:List Int->Bool
 | []=>true
 | [_]=>true
 | a::b::r=>decide (a < b)&&QN (b::r)
def QJ (l:List Int):Bool:=l.all (fun n=>decide (1<=n/\n<=20000))&&(QN l&&decide (l.length<=16))
def hdW (l:Log) (k:Nat):List Vp:=match k with
 | 0=>[Ua,l.Call]
 | 1=>[UH,decDigits l.Category.toNat]
 | 2=>[UD,decDigits l.Power.toNat]
 | 3=>[UG,decDigits l.Claimed.toNat]
 | _=>UE::l.Jumps.map fun n=>decDigits n.toNat
def hdT (l:Log) (k:Nat):Vp:=jn (hdW l k)
def hdV (l:Log) (k:Nat):Bool:=match k with
 | 0=>JV l.Call
 | 1=>decide (1<=l.Category/\l.Category<=9)
 | 2=>decide (1<=l.Power/\l.Power<=9999)
 | 3=>decide (0<=l.Claimed/\l.Claimed<=1000000)
 | _=>QJ l.Jumps
end
section
open Go.Lib (decDigits)
def MA (o:Ac) (l:List Line) (i:Nat):Bool:=match l[i]? with
 | some x=>Ev o x&&(decide (i=0)||match l[i - 1]? with
  | some y=>decide (y.Num < x.Num)&&decide (y.Minute<=x.Minute)
  | none=>true)
 | none=>true
def GO (o:Ac) (l:List Line):Option Nat:=(List.range l.length).find? fun i=>!MA o l i
def RR (l:Log):Bool:=hdV l 0&&(hdV l 1&&(hdV l 2&&(hdV l 3&&hdV l 4)))
def chk (o:Ac) (l:Log):Int×Int:=
 if l.Jumps.length > 16\/l.Lines.length > 400 then (2,0)
 else if RR l=false then (21,0)
 else match GO o l.Lines with
  | some i=>(21,(i:Int) + 1)
  | none=>(0,0)
end
def AY (N:Nat) (x0 x1 x2:Int):Option Bool:=
 some ((decide (x1<=x0))&&(decide (x0<=x2)))
theorem AK:Af Tryz.prog 73:=fun _ _=>by kernel_rfl
theorem AU (N:Nat) (w0:World) (F0:Mem) (hF:Vr w0 F0) (x0 x1 x2:Int) (r:Bool) (h:AY N x0 x1 x2=some r):
  Calls Tryz.prog 73 ([(vi x0),(vi x1),(vi x2)]:List Value).toArray w0 (AF w0 F0 fun F' v=>v=(.bool r)):=by
 have h1:=U4 hF;refine Go 15 Tryz.func73<|Sq (Rg [0] ?_);refine Vs 1<|Nss (Rg (rG 9) ?_);refine U8 (fun f w=>∃ (F1:Mem),HS w0 F0 w F1 []/\U2 F0 F1/\FI f [] [(6,(.bool ((decide (x1<=x0))&&(decide (x0<=x2)))))]) ?_ ?_
 ·refine Vs 4 ?_;refine U7 (decide (x1<=x0)) (fun h0=>?_) (fun h0=>?_)
  ·refine Vgs h0 3 ?_;refine Pk1 h0<|Vs 1 ?_;exact UY ⟨rfl,F0,h1,(U3 _),(fJ ⟨(congrArg Value.bool (OW h0 rfl)),trivial⟩)⟩
  ·refine Ss h0 3 ?_;refine Pk0 h0<|Vs 1 ?_;exact UY ⟨rfl,F0,h1,(U3 _),(fJ ⟨(congrArg Value.bool (OX h0 rfl)),trivial⟩)⟩
 ·rintro f h3 ⟨F1,h2,h4,⟨_,rfl⟩⟩;refine Ab<|Rt ?_;obtain rfl:=Aa h;exact Re [(.bool ((decide (x1<=x0))&&(decide (x0<=x2))))] h2 rfl
def B4 (N:Nat) (x0:Vp) (h5:Bool):(Bool×Int)->Option (Bm Bool (Bool×Int)):=fun h0=>
 (bif (decide (h0.2 < (x0.length:Int))) then ((Qs x0 h0.2).bind fun h1=>((bif h0.1 then ((AY N (W64 h1) 65 90).bind fun h2=>(bif h2 then some true else ((AY N (W64 h1) 48 57).bind fun h3=>(bif h3 then some true else some (h1==47))))) else some false).bind fun h4=>some (.next (h4,(W64 (h0.2 + 1)))))) else some (.done (h0.1,h0.2)))
def EA (N:Nat) (x0:Vp):Option Bool:=
 ((AY N (x0.length:Int) 1 16).bind fun h0=>((AW (B4 N x0 h0) N (h0,0)).bind fun o=>o.k (fun r=>some r) (fun h1=>some h1.1)))
theorem MF:Af Tryz.prog 74:=fun _ _=>by kernel_rfl
theorem NX (N:Nat) (w0:World) (F0:Mem) (hF:Vr w0 F0) (x0:Vp) (r:Bool) (h:EA N x0=some r):
  Calls Tryz.prog 74 ([(sv x0)]:List Value).toArray w0 (AF w0 F0 fun F' v=>v=(.bool r)):=by
 have h9:=U4 hF;refine Go 34 Tryz.func74<|Sq (Rg [0] ?_);refine Vs 1<|Nss (Rg (rG 4) ?_);refine Vs 2 ?_;obtain ⟨ha,hh,hk⟩:=bS h;refine Cl' AK h9 (AU N w0 F0 h9.pers ((x0.length:Int)) 1 16 _ hh) ?_;rintro _ F1 bg hl bh rfl;refine Vs 1<|Nss<|Sq (Rg [0,1,2] ?_);refine Vs 3<|Nt ?_;obtain ⟨hb,hm,hn⟩:=bS hk;refine U9 (fun f w=>∃ (h4:(Bool×Int)) (F3:Mem),hb=.done h4/\HS w0 F0 w F3 []/\U2 F1 F3/\FI f [] [(3,(.bool h4.1))]) ?_ ?_
 ·refine Bk ?_;refine U1 (by kernel_rfl) (fun m f w=>∃ (h1:(Bool×Int)) (F2:Mem),AW (B4 N x0 ha) m h1=some hb/\HS w0 F0 w F2 []/\U2 F1 F2/\FI f [] [(0,(sv x0)),(3,(.bool h1.1)),(10,(vi (x0.length:Int))),(11,(vi h1.2))]) N ⟨(ha,0),F1,hm,hl,(U3 _),fI⟩ ?_;rintro bi f ho ⟨h1,F2,hp,h5,hc,⟨_,rfl⟩⟩;obtain ⟨hq,bj,rfl,hr,hd⟩:=AM hp;refine Sq (Rg [0] ?_);refine Vs 1<|Nss<|Cd hr (fun hs ht=>?_) (fun hs hu=>?_)
  ·refine Sc ?_;refine Ab<|Sq<|Bk<|Sq (Rg [0,1] ?_);refine Vs 2<|Nss (Rg (rG 4) ?_);refine Vs 2 ?_;obtain ⟨h6,hv,hw⟩:=bS ht;refine V 16 5 (Ob (t:=9) (x:=(.tmp 14)) (y:=(.tmp 15)) (a:=x0) (k:=.i64) (i:=h1.2) (v:=h6) rfl rfl (by kernel_rfl) hv)<|Vs 1<|Nt<|Rg (rG 16) ?_;obtain ⟨he,hx,hy⟩:=bS hw;refine U8 (fun f w=>∃ (F4:Mem),HS w0 F0 w F4 []/\U2 F2 F4/\FI f [] [(0,(sv x0)),(3,(.bool he)),(10,(vi (x0.length:Int))),(11,(vi h1.2))]) ?_ ?_
   ·refine Vs 2 ?_;refine Sp hx (fun h0 hz=>?_) (fun h0 b0=>?_)
    ·refine Vgs h0 2 ?_;obtain ⟨bk,b1,b2⟩:=bS hz;refine Cg h0 AK h5 (AU N ho F2 h5.pers ((W64 h6)) 65 90 _ b1) ?_;rintro _ F5 b3 h7 h8 rfl;refine Vgs h0 1<|Sp b2 (fun h2 b4=>?_) (fun h2 b5=>?_)
     ·refine Ss h2 3 ?_;refine Pg1 h0 h2<|Vgs h0 1<|Ss (rfl:true=true) 2<|Pg1 h0 (rfl:true=true)<|Pk1 h0<|Vs 1 ?_;obtain rfl:=Aa b4;exact UY ⟨rfl,F5,h7,h8,fI⟩
     ·refine Vgs h2 2 ?_;obtain ⟨bl,b6,b7⟩:=bS b5;refine Cg h2 AK h7 (AU N b3 F5 h7.pers ((W64 h6)) 48 57 _ b6) ?_;rintro _ F6 bm hf hg rfl;refine Pg0 h0 h2<|Vgs h0 1<|Sp b7 (fun h3 b8=>?_) (fun h3 b9=>?_)
      ·refine Ss h3 2 ?_;refine Pg1 h0 h3<|Pk1 h0<|Vs 1 ?_;obtain rfl:=Aa b8;exact UY ⟨rfl,F6,hf,(h8.t hg),fI⟩
      ·refine Vgs h3 2 ?_;refine Pg0 h0 h3<|Pk1 h0<|Vs 1 ?_;obtain rfl:=Aa b9;exact UY ⟨rfl,F6,hf,(h8.t hg),fI⟩
    ·refine Ss h0 4 ?_;refine Su' 3<|Ss h0 2<|Su' 2<|Ss h0 1<|Pk0 h0<|Vs 1 ?_;obtain rfl:=Aa b0;exact UY ⟨rfl,F2,h5,(U3 _),fI⟩
   ·rintro f bn ⟨F4,ba,bb,⟨_,rfl⟩⟩;refine As<|Ab<|Rg [0,1]<|Vs 2<|UY ?_;have bc:=AN hy hd;exact ⟨hq,Nat.lt_succ_self _,(he,(W64 (h1.2 + 1))),F4,bc,ba,(hc.t bb),fI⟩
  ·refine Ex ?_;refine Ar<|Ar<|AC rfl ?_;have bd:=AO hu hd;exact .inl ⟨rfl,(h1.1,h1.2),F2,bd,h5,hc,fI⟩
 ·rintro f bo ⟨h4,F3,rfl,be,bp,⟨_,rfl⟩⟩;have bf:=Bv hn;refine Ab<|Sq (Rg [0,1] ?_);refine Vs 2<|Nt<|Rt ?_;obtain rfl:=Aa bf;exact Re [(.bool h4.1)] be rfl
def Bz (N:Nat) (x0:Ac) (x1:Line):Option Bool:=
 (((AY N x1.Num 1 65535).bind fun h0=>(bif h0 then ((AY N x1.Khz 1 10000000).bind fun h1=>(bif h1 then ((AY N x1.Mode 1 3).bind fun h2=>(bif h2 then ((AY N x1.Minute 0 20000).bind fun h3=>(bif h3 then ((EA N x1.Call).bind fun h4=>(bif h4 then ((B0 N ({Report:=x0.Report,Serial:=x0.Serial,Zone:=x0.Zone}:Ac) ({Report:=x1.Sent.Report,Serial:=x1.Sent.Serial,Zone:=x1.Sent.Zone}:Ad)).bind fun h5=>(bif h5 then ((B0 N ({Report:=x0.Report,Serial:=x0.Serial,Zone:=x0.Zone}:Ac) ({Report:=x1.Got.Report,Serial:=x1.Got.Serial,Zone:=x1.Got.Zone}:Ad)).bind fun h6=>some h6) else some false)) else some false)) else some false)) else some false)) else some false)) else some false)).bind fun h7=>some h7)
theorem C6:Af Tryz.prog 21:=fun _ _=>by kernel_rfl
theorem Ds (N:Nat) (w0:World) (F0:Mem) (hF:Vr w0 F0) (x0:Ac) (x1:Line) (r:Bool) (h:Bz N x0 x1=some r):
  Calls Tryz.prog 21 ([(.agg (Ah x0)),(.agg (BA x1))]:List Value).toArray w0 (AF w0 F0 fun F' v=>v=(.bool r)):=by
 have hm:=U4 hF;refine Go 40 Tryz.func21<|Sq (Rg [0,1,2] ?_);refine Bx' 23 (Ah x0) hm (fun bq br hn=>?_);refine Bx' 34 (BA x1) hn (fun bs ho hg=>?_);refine Vs 1<|Nss (Rg (rG 36) ?_);obtain ⟨hk,hp,hq⟩:=bS h;refine U8 (fun f w=>∃ (F1:Mem),HS w0 F0 w F1 []/\U2 F0 F1/\FI f [] [(4,(.bool hk))]) ?_ ?_
 ·refine Vs 1 ?_;refine Ld hg.at0 ?_;obtain ⟨bt,hr,hs⟩:=bS hp;refine Cl' AK hg (AU N ho F0 hg.pers x1.Num 1 65535 _ hr) ?_;rintro _ F2 ht hb h2 rfl;refine Vs 1<|Sp hs (fun h3 hu=>?_) (fun h3 hv=>?_)
  ·refine Vgs h3 1 ?_;refine Lg h3 hb.at0 ?_;obtain ⟨bu,hw,hx⟩:=bS hu;refine Cg h3 AK hb (AU N ht F2 hb.pers x1.Khz 1 10000000 _ hw) ?_;rintro _ F3 hy hc h7 rfl;refine Pk1 h3<|Vs 1<|Sp hx (fun h4 hz=>?_) (fun h4 b0=>?_)
   ·refine Vgs h4 1 ?_;refine Lg h4 hc.at0 ?_;obtain ⟨bv,b1,b2⟩:=bS hz;refine Cg h4 AK hc (AU N hy F3 hc.pers x1.Mode 1 3 _ b1) ?_;rintro _ F4 b3 hd h8 rfl;refine Pk1 h4<|Vs 1<|Sp b2 (fun h5 b4=>?_) (fun h5 b5=>?_)
    ·refine Vgs h5 1 ?_;refine Lg h5 hd.at0 ?_;obtain ⟨bw,b6,b7⟩:=bS b4;refine Cg h5 AK hd (AU N b3 F4 hd.pers x1.Minute 0 20000 _ b6) ?_;rintro _ F5 b8 he hf rfl;refine Pk1 h5<|Vs 1<|Sp b7 (fun h6 b9=>?_) (fun h6 ba=>?_)
     ·refine Vgs h6 1 ?_;refine Lg h6 he.at0 ?_;obtain ⟨bx,bb,bc⟩:=bS b9;refine Cg h6 MF he (NX N b8 F5 he.pers x1.Call _ bb) ?_;rintro _ F6 bd h9 hh rfl;refine Pk1 h6<|Vs 1<|Sp bc (fun h0 be=>?_) (fun h0 bf=>?_)
      ·refine Lg h0 h9.at1 ?_;refine Vgs h0 1<|Lg h0 h9.at0 ?_;obtain ⟨bz,bg,bh⟩:=bS be;refine Cg h0 Dc h9 (DC N bd F6 h9.pers (({Report:=x0.Report,Serial:=x0.Serial,Zone:=x0.Zone}:Ac)) (({Report:=x1.Sent.Report,Serial:=x1.Sent.Serial,Zone:=x1.Sent.Zone}:Ad)) _ bg) ?_;rintro _ F7 bi ha hl rfl;refine Pk1 h0<|Vs 1<|Sp bh (fun h1 bj=>?_) (fun h1 bk=>?_)
       ·refine Lg h1 ha.at1 ?_;refine Vgs h1 1<|Lg h1 ha.at0 ?_;obtain ⟨c0,bl,bm⟩:=bS bj;refine Cg h1 Dc ha (DC N bi F7 ha.pers (({Report:=x0.Report,Serial:=x0.Serial,Zone:=x0.Zone}:Ac)) (({Report:=x1.Got.Report,Serial:=x1.Got.Serial,Zone:=x1.Got.Zone}:Ad)) _ bl) ?_;rintro _ F8 c1 bn bo rfl;refine Pk1 h1<|Vs 1 ?_;obtain rfl:=Aa bm;exact UY ⟨rfl,F8,bn.dr0.dr0,((((((h2.t h7).trans h8).trans hf).trans hh).trans hl).trans bo),fI⟩
       ·refine Ss h1 4 ?_;refine Pk0 h1<|Vs 1 ?_;obtain rfl:=Aa bk;exact UY ⟨rfl,F7,ha.dr0.dr0,(((((h2.t h7).trans h8).trans hf).trans hh).trans hl),fI⟩
      ·refine Ss h0 4 ?_;refine Pk0 h0<|Vs 1<|Ss (rfl:false=false) 4<|Pk0 (rfl:false=false)<|Vs 1 ?_;obtain rfl:=Aa bf;exact UY ⟨rfl,F6,h9.dr0.dr0,((((h2.t h7).trans h8).trans hf).trans hh),fI⟩
     ·refine Ss h6 3 ?_;refine Pk0 h6<|Vs 1<|Ss (rfl:false=false) 4<|Pk0 (rfl:false=false)<|Vs 1<|Ss (rfl:false=false) 4<|Pk0 (rfl:false=false)<|Vs 1 ?_;obtain rfl:=Aa ba;exact UY ⟨rfl,F5,he.dr0.dr0,(((h2.t h7).trans h8).trans hf),fI⟩
    ·refine Ss h5 3 ?_;refine Pk0 h5<|Vs 1<|Ss (rfl:false=false) 3<|Pk0 (rfl:false=false)<|Vs 1<|Ss (rfl:false=false) 4<|Pk0 (rfl:false=false)<|Vs 1<|Ss (rfl:false=false) 4<|Pk0 (rfl:false=false)<|Vs 1 ?_;obtain rfl:=Aa b5;exact UY ⟨rfl,F4,hd.dr0.dr0,((h2.t h7).trans h8),fI⟩
   ·refine Ss h4 3 ?_;refine Pk0 h4<|Vs 1<|Ss (rfl:false=false) 3<|Pk0 (rfl:false=false)<|Vs 1<|Ss (rfl:false=false) 3<|Pk0 (rfl:false=false)<|Vs 1<|Ss (rfl:false=false) 4<|Pk0 (rfl:false=false)<|Vs 1<|Ss (rfl:false=false) 4<|Pk0 (rfl:false=false)<|Vs 1 ?_;obtain rfl:=Aa b0;exact UY ⟨rfl,F3,hc.dr0.dr0,(h2.t h7),fI⟩
  ·refine Ss h3 3 ?_;refine Pk0 h3<|Vs 1<|Ss (rfl:false=false) 3<|Pk0 (rfl:false=false)<|Vs 1<|Ss (rfl:false=false) 3<|Pk0 (rfl:false=false)<|Vs 1<|Ss (rfl:false=false) 3<|Pk0 (rfl:false=false)<|Vs 1<|Ss (rfl:false=false) 4<|Pk0 (rfl:false=false)<|Vs 1<|Ss (rfl:false=false) 4<|Pk0 (rfl:false=false)<|Vs 1 ?_;obtain rfl:=Aa hv;exact UY ⟨rfl,F2,hb.dr0.dr0,h2,fI⟩
 ·rintro f c3 ⟨F1,bp,c4,⟨_,rfl⟩⟩;refine Ab<|Rt ?_;obtain rfl:=Aa hq;exact Re [(.bool hk)] bp rfl




end Go.Proofs.YthljkpeimofbbaaGreatDoor
