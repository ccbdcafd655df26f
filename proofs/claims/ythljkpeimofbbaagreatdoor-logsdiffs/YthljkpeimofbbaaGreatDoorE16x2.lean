/- Lemmas of the claim LogsDiffs, printed by a program of the claimant and by hand. No statement of the seat is proved here. -/
import Derived.Test.YthljkpeimofbbaaGreatDoorE16x1
set_option linter.unusedVariables false
set_option linter.unusedSimpArgs false
set_option linter.unusedSectionVars false
set_option maxHeartbeats 4000000
set_option maxRecDepth 100000
namespace Go.Proofs.YthljkpeimofbbaaGreatDoor
def Ag (R:Array Oper) (i:Nat):Op:=match R[i]? with | some o=>o.op | none=>.alloc 0
def Fo (R:Array Oper) (i:Nat):TypeId:=match R[i]? with | some o=>o.type | none=>0
def A6 (R:Array Oper) (i:Nat):Option Nat:=match R[i]? with | some o=>o.dst | none=>none
def UT (R:Array Oper) (i:Nat):Option (Nat×Bool):=match R[i]? with | some o=>o.guard | none=>none
def ung (R:Array Oper) (i:Nat):Bool:=match R[i]? with | some o=>(match o.guard with | none=>true | some _=>false) | none=>false
theorem A9 {R:Array Oper} {i:Nat} (h:ung R i=true):opq R i=some (A6 R i,Ag R i,Fo R i,none):=by
 unfold ung at h;unfold opq A6 Ag Fo
 cases hr:R[i]? with
 | none=>simp [hr] at h
 | some o=>
  simp only [hr] at h
  cases hg:o.guard with
  | none=>simp [hg]
  | some p=>simp [hg] at h
def LZ (R:Array Oper) (j:Nat) (b:Bool) (i:Nat):Bool:=match R[i]? with | some o=>(match o.guard with | none=>true | some (j',b')=>Nat.beq j j'&&(b==b')) | none=>false
theorem Ml {R:Array Oper} {i j:Nat} {b:Bool} (h:LZ R j b i=true):opq R i=some (A6 R i,Ag R i,Fo R i,none)\/opq R i=some (A6 R i,Ag R i,Fo R i,some (j,b)):=by
 unfold LZ at h;unfold opq A6 Ag Fo
 cases hr:R[i]? with
 | none=>simp [hr] at h
 | some o=>
  simp only [hr] at h
  cases hg:o.guard with
  | none=>simp [hg]
  | some p=>
   obtain ⟨j',b'⟩:=p
   simp only [hg,Bool.and_eq_true,beq_iff_eq] at h
   have e1:=Nat.eq_of_beq_eq_true h.1
   have e2:=h.2
   subst e1;subst e2
   simp [hg]
def slQ (P:Program) (t:TypeId):Bool:=match A2 P t with | some _=>true | none=>false
def pvI (op:BinOp) (k:IntKind) (a b:Int):Option Value:=match op with
 | .add=>some (.int k (k.wrap (a + b))) | .sub=>some (.int k (k.wrap (a - b))) | .mul=>some (.int k (k.wrap (a * b)))
 | .lss=>some (.bool (decide (a < b))) | .leq=>some (.bool (decide (a<=b))) | .gtr=>some (.bool (decide (a > b))) | .geq=>some (.bool (decide (a>=b)))
 | .eql=>some (.bool (a==b)) | .neq=>some (.bool (a !=b))
 | .quo=>(match decide (b=0) with | false=>some (.int k (k.wrap (a.tdiv b))) | true=>none)
 | .rem=>(match decide (b=0) with | false=>some (.int k (a.tmod b)) | true=>none)
 | _=>none
def pvS (op:BinOp) (a b:VW):Option Value:=match op with
 | .eql=>some (.bool (a==b)) | .neq=>some (.bool (a !=b)) | .lss=>some (.bool (JA a b)) | .leq=>some (.bool (JA a b||a==b))
 | .gtr=>some (.bool (!(JA a b||a==b))) | .geq=>some (.bool (!JA a b)) | _=>none
def RU (P:Program) (t:TypeId) (op:BinOp):Value->Value->Option Value
 | .int k a,.int k' b=>(match decide (k=k') with | true=>pvI op k a b | false=>none)
 | .string a,.string b=>pvS op a.data.toList b.data.toList
 | .bool a,.bool b=>(match P.underlying t with | some .bool=>(match op with | .eql=>some (.bool (a==b)) | .neq=>some (.bool (!(a==b))) | _=>none) | _=>none)
 | .agg xs,.agg ys=>(match P.eqGuardType P.depth t with
  | false=>(match eqV P 8 t (.agg xs) (.agg ys) with | some b=>(match op with | .eql=>some (.bool b) | .neq=>some (.bool (!b)) | _=>none) | none=>none)
  | true=>none)
 | _,_=>none
def PM (P:Program) (ρ:Operand->Value) (c:Call):Option Value:=match c.callee with
 | .builtin .len=>(match c.args.toList with
  | [x]=>(match c.argTypes[0]? with
   | some t=>(match ρ x with
    | .slice _ n _=>(match slQ P t with | true=>some (.int .i64 (n:Int)) | false=>none)
    | .string s=>(match P.underlying t with | some .string=>some (.int .i64 (s.data.toList.length:Int)) | _=>none)
    | _=>none)
   | none=>none)
  | _=>none)
 | .builtin .max=>(match c.args.toList with | [x,y]=>(match ρ x,ρ y with | .int .i64 a,.int .i64 b=>some (.int .i64 (max a b)) | _,_=>none) | _=>none)
 | .builtin .min=>(match c.args.toList with | [x,y]=>(match ρ x,ρ y with | .int .i64 a,.int .i64 b=>some (.int .i64 (min a b)) | _,_=>none) | _=>none)
 | _=>none
def pv (P:Program) (ρ:Operand->Value):Op->Option Value
 | .move x=>some (ρ x)
 | .assign x=>some (ρ x)
 | .binOp op t x y _=>RU P t op (ρ x) (ρ y)
 | .unOp op _ x=>(match op,ρ x with | .not,.bool b=>some (.bool (!b)) | .neg,.int k a=>some (.int k (k.wrap (0 - a))) | _,_=>none)
 | .extract x i=>(match ρ x with | .tuple vs=>vs[i]? | _=>none)
 | .fieldAddr s x i=>(match ρ x with
  | .pointer (some ⟨b,o,none⟩)=>(match JS P s i with | some (off,k)=>(match decide (k=0) with | false=>some (.pointer (some ⟨b,o + off,none⟩)) | true=>none) | none=>none)
  | _=>none)
 | .field s x i=>(match ρ x with
  | .agg cs=>(match P1 P s i with
   | some (o,t)=>(match Ed P t with
    | some (gg,k)=>(match Nat.beq (Am cs o k).length k&&(gg||k==1) with | true=>some (mkV gg (Am cs o k)) | false=>none)
    | none=>none)
   | none=>none)
  | _=>none)
 | .build t parts=>(match P9 P t (parts.toList.map fun p=>(p.1,ρ p.2)) with | some cs=>some (.agg cs.toArray) | none=>none)
 | .makeFunc fn fi ca=>some (.func fn (fi.toList.map ρ).toArray (ca.toList.map ρ).toArray)
 | .nilCheck x=>(match ρ x with | .pointer (some a)=>some (.pointer (some a)) | _=>none)
 | .convert s d x=>(match ρ x with | .int _ a=>(match (P.underlying s).isSome,P.underlying d with | true,some (.int k)=>some (.int k (k.wrap a)) | _,_=>none) | _=>none)
 | .call c=>PM P ρ c
 | _=>none
theorem NK (s:ByteArray):s=⟨s.data.toList.toArray⟩:=by cases s;rfl
section
variable {P : Program} {ρ : Operand -> Value} {w : World} {ty : TypeId}
theorem Tf {op:BinOp} {k:IntKind} {a b:Int} {x y:Operand} {t t':TypeId} {v:Value} (hx:ρ x=.int k a) (hy:ρ y=.int k b) (h:pvI op k a b=some v):(Ak ρ (.binOp op t x y t') ty).run P w=.ok (.value v) w:=by
  cases op <;> simp only [pvI,Option.some.injEq,reduceCtorEq] at h <;> first
    | (subst h;first | exact NV hx hy | exact It hx hy | exact S7 hx hy | exact FZ hx hy | exact LM hx hy | exact NS hx hy | exact Qi hx hy | exact JE hx hy | exact Iu hx hy)
    | (split at h
       · rename_i hb;cases h;first | exact S3 hx hy hb | exact S2 hx hy hb
       · cases h)
theorem Te {op:BinOp} {a b:VW} {x y:Operand} {t t':TypeId} {v:Value} (hx:ρ x=.string ⟨a.toArray⟩) (hy:ρ y=.string ⟨b.toArray⟩) (h:pvS op a b=some v):(Ak ρ (.binOp op t x y t') ty).run P w=.ok (.value v) w:=by
 cases op <;> simp only [pvS,Option.some.injEq,reduceCtorEq] at h <;> subst h <;> exact RN hx hy rfl
theorem Q4 {op:BinOp} {x y:Operand} {t t':TypeId} {v:Value} (h:RU P t op (ρ x) (ρ y)=some v):(Ak ρ (.binOp op t x y t') ty).run P w=.ok (.value v) w:=by
 generalize hx:ρ x=a at h
 generalize hy:ρ y=b at h
 unfold RU at h
 split at h
 ·split at h
  ·rename_i hk
   have:=of_decide_eq_true hk;subst this
   exact Tf hx hy h
  ·cases h
 ·rename_i a b
  exact Te (hx.trans (congrArg _ (NK a))) (hy.trans (congrArg _ (NK b))) h
 ·split at h
  ·rename_i hu
   split at h
   ·cases h;exact S9 hx hy hu
   ·cases h;exact S6 hx hy hu
   ·cases h
  ·cases h
 ·split at h
  ·rename_i hg
   split at h
   ·rename_i b he
    split at h
    ·cases h;exact Qj hx hy hg he
    ·cases h;exact S4 hx hy hg he
    ·cases h
   ·cases h
  ·cases h
 ·cases h
theorem PL {c:Call} {v:Value} (h:PM P ρ c=some v):(Ak ρ (.call c) ty).run P w=.ok (.value v) w:=by
 obtain ⟨callee,args,ats⟩:=c
 unfold PM at h
 simp only at h
 split at h
 ·split at h
  ·rename_i x ha
   have:args=#[x]:=by cases args;simpa using ha
   subst this
   split at h
   ·rename_i t ht
    split at h
    ·rename_i a n c hx
     split at h
     ·rename_i hs
      unfold slQ at hs
      split at hs
      ·rename_i q hq;obtain ⟨E,s,by_⟩:=q
       cases h;exact HJ hx ht hq
      ·cases hs
     ·cases h
    ·rename_i s hx
     split at h
     ·rename_i hu;cases h;exact L9 (hx.trans (congrArg _ (NK s))) ht hu
     ·cases h
    ·cases h
   ·cases h
  ·cases h
 ·split at h
  ·rename_i x y ha
   have:args=#[x,y]:=by cases args;simpa using ha
   subst this
   split at h
   ·rename_i hx hy;cases h;exact RP hx hy
   ·cases h
  ·cases h
 ·split at h
  ·rename_i x y ha
   have:args=#[x,y]:=by cases args;simpa using ha
   subst this
   split at h
   ·rename_i hx hy;cases h;exact RO hx hy
   ·cases h
  ·cases h
 ·cases h
theorem NX {op:Op} {v:Value} (h:pv P ρ op=some v):(Ak ρ op ty).run P w=.ok (.value v) w:=by
 unfold pv at h
 split at h
 ·cases h;exact OJ rfl
 ·cases h;exact G4 rfl
 ·exact Q4 h
 ·split at h
  ·rename_i hx;cases h;exact JC hx
  ·rename_i hx;cases h;exact S5 hx
  ·cases h
 ·split at h
  ·rename_i hx;exact OK hx h
  ·cases h
 ·split at h
  ·rename_i hx
   split at h
   ·rename_i hf
    split at h
    ·rename_i hk;cases h;exact CA hx hf hk rfl
    ·cases h
   ·cases h
  ·cases h
 ·split at h
  ·rename_i hx
   split at h
   ·rename_i hf
    split at h
    ·rename_i ht
     split at h
     ·rename_i hk
      simp only [Bool.and_eq_true] at hk
      cases h;exact Mc hx hf ht (Nat.eq_of_beq_eq_true hk.1) hk.2 rfl
     ·cases h
    ·cases h
   ·cases h
  ·cases h
 ·split at h
  ·rename_i hb;cases h;exact PK rfl hb
  ·cases h
 ·cases h;exact NQ rfl rfl
 ·split at h
  ·rename_i hx;cases h;exact Cv hx
  ·cases h
 ·split at h
  ·rename_i hx
   split at h
   ·rename_i hs hd;cases h;exact OM hx hs hd
   ·cases h
  ·cases h
 ·exact PL h
 ·cases h
variable {ro : Option Nat} {n : Nat} {R : Array Oper} {Q : Exit -> Fr -> World -> Prop}
def pst (P:Program) (R:Array Oper):List Nat->Nat->Fr->Fr
 | _,0,f=>f
 | [],_ + 1,f=>f
 | i::l,m + 1,f=>pst P R l m (AZ f (A6 R i) ((pv P (fev f) (Ag R i)).getD undef))
def isS {α:Type}:Option α->Bool | some _=>true | none=>false
theorem HV {α:Type} {o:Option α} {d:α} (h:isS o=true):o=some (o.getD d):=by cases o <;> simp_all [isS]
def pok (P:Program) (R:Array Oper):List Nat->Nat->Fr->Bool
 | _,0,_=>true
 | [],_ + 1,_=>false
 | i::l,m + 1,f=>ung R i&&(isS (pv P (fev f) (Ag R i))&&pok P R l m (AZ f (A6 R i) ((pv P (fev f) (Ag R i)).getD undef)))
theorem SP:∀ (m:Nat) {l:List Nat} {f:Fr},RWP P ro n R Q (l.drop m) (pst P R l m f) w->pok P R l m f=true->RWP P ro n R Q l f w
 | 0,l,f,k,_=>by cases l <;> exact k
 | m + 1,[],f,k,h=>by simp [pok] at h
 | m + 1,i::l,f,k,h=>by
  simp only [pok,Bool.and_eq_true] at h
  exact Vu (A9 h.1) rfl (NX (HV h.2.1)) (SP m k h.2.2)
theorem Vs (m:Nat) {l:List Nat} {f:Fr} (k:RWP P ro n R Q (l.drop m) (pst P R l m f) w) (h:pok P R l m f=true:=by kernel_rfl):RWP P ro n R Q l f w:=SP m k h
def RW (P:Program) (R:Array Oper) (j:Nat) (b:Bool) (q:Nat):List Nat->Nat->Fr->Bool
 | _,0,_=>true
 | [],_ + 1,_=>false
 | i::l,m + 1,f=>LZ R j b i&&((match A6 R i with | some d=>!Nat.beq q d | none=>true)&&(isS (pv P (fev f) (Ag R i))&&RW P R j b q l m (AZ f (A6 R i) ((pv P (fev f) (Ag R i)).getD undef))))
theorem Qe {f:Fr} {d:Option Nat} {v:Value} {q:Nat} (h:(match d with | some d=>!Nat.beq q d | none=>true)=true):(AZ f d v) q=f q:=by
 cases d with
 | none=>rfl
 | some d=>simp only [Bool.not_eq_true'] at h;simp only [AZ,upd,h,cF]
theorem Ou {j q:Nat} {b:Bool} (hj:E9 R j=some q):∀ (m:Nat) {l:List Nat} {f:Fr},f q=.bool b->RWP P ro n R Q (l.drop m) (pst P R l m f) w->RW P R j b q l m f=true->RWP P ro n R Q l f w
 | 0,l,f,_,k,_=>by cases l <;> exact k
 | m + 1,[],f,_,k,h=>by simp [RW] at h
 | m + 1,i::l,f,hf,k,h=>by
  simp only [RW,Bool.and_eq_true] at h
  have hf':=(Qe (f:=f) (v:=(pv P (fev f) (Ag R i)).getD undef) h.2.1).trans hf
  rcases Ml h.1 with e | e
  ·exact Vu e rfl (NX (HV h.2.2.1)) (Ou hj m hf' k h.2.2.2)
  ·exact Vu e (G7 hj hf rfl) (NX (HV h.2.2.1)) (Ou hj m hf' k h.2.2.2)
def gj (R:Array Oper):List Nat->Nat
 | i::_=>(match UT R i with | some (j,_)=>j | none=>0)
 | []=>0
def gq (R:Array Oper) (l:List Nat):Nat:=match E9 R (gj R l) with | some q=>q | none=>0
theorem Vgs {b c:Bool} (hc:c=b) (m:Nat) {l:List Nat} {f:Fr} (k:RWP P ro n R Q (l.drop m) (pst P R l m f) w) (h:RW P R (gj R l) b (gq R l) l m f=true:=by kernel_rfl)
  (hj:E9 R (gj R l)=some (gq R l):=by kernel_rfl) (hf:f (gq R l)=.bool c:=by kernel_rfl):RWP P ro n R Q l f w:=
 Ou hj m (by rw [hf,hc]) k h
def sst (R:Array Oper):List Nat->Nat->Fr->Fr
 | _,0,f=>f
 | [],_ + 1,f=>f
 | i::l,m + 1,f=>sst R l m (AZ f (A6 R i) undef)
def sok (R:Array Oper) (j:Nat) (b:Bool) (q:Nat):List Nat->Nat->Bool
 | _,0=>true
 | [],_ + 1=>false
 | i::l,m + 1=>(match R[i]? with | some o=>(match o.guard with | some (j',b')=>Nat.beq j j'&&(b==b') | none=>false) | none=>false)&&((match A6 R i with | some d=>!Nat.beq q d | none=>true)&&sok R j b q l m)
theorem T4 {i j:Nat} {b:Bool} (h:(match R[i]? with | some o=>(match o.guard with | some (j',b')=>Nat.beq j j'&&(b==b') | none=>false) | none=>false)=true):opq R i=some (A6 R i,Ag R i,Fo R i,some (j,b)):=by
 unfold opq A6 Ag Fo
 cases hr:R[i]? with
 | none=>simp [hr] at h
 | some o=>
  simp only [hr] at h
  cases hg:o.guard with
  | none=>simp [hg] at h
  | some p=>
   obtain ⟨j',b'⟩:=p
   simp only [hg,Bool.and_eq_true,beq_iff_eq] at h
   have e1:=Nat.eq_of_beq_eq_true h.1
   have e2:=h.2
   subst e1;subst e2
   simp [hg]
theorem Pz {j q:Nat} {b:Bool} (hg:∀ f':Fr,f' q=f' q->True) (hgd:∀ f':Fr,∀ v,f' q=v->v=undef\/v=.bool (!b)->gd R f' (some (j,b))=false):∀ (m:Nat) {l:List Nat} {f:Fr},(f q=undef\/f q=.bool (!b))->RWP P ro n R Q (l.drop m) (sst R l m f) w->sok R j b q l m=true->RWP P ro n R Q l f w
 | 0,l,f,_,k,_=>by cases l <;> exact k
 | m + 1,[],f,_,k,h=>by simp [sok] at h
 | m + 1,i::l,f,hf,k,h=>by
  simp only [sok,Bool.and_eq_true] at h
  have hf':(AZ f (A6 R i) undef) q=f q:=Qe h.2.1
  exact RWP.skip (T4 h.1) (hgd f _ rfl hf) (Pz hg hgd m (by rw [hf'];exact hf) k h.2.2)
def gb (R:Array Oper):List Nat->Bool
 | i::_=>(match UT R i with | some (_,b)=>b | none=>false)
 | []=>false
theorem Ss {b c:Bool} (hc:c=b) (m:Nat) {l:List Nat} {f:Fr} (k:RWP P ro n R Q (l.drop m) (sst R l m f) w) (h:sok R (gj R l) (!b) (gq R l) l m=true:=by kernel_rfl)
  (hj:E9 R (gj R l)=some (gq R l):=by kernel_rfl) (hf:f (gq R l)=.bool c:=by kernel_rfl):RWP P ro n R Q l f w:=
 Pz (fun _ _=>trivial) (fun f' v e hv=>by
  rcases hv with hv | hv
  ·exact Uj hj (e.trans hv)
  ·exact Uk hj (e.trans hv) rfl) m (.inr (by rw [hf,hc];simp)) k h
theorem Su' (m:Nat) {l:List Nat} {f:Fr} (k:RWP P ro n R Q (l.drop m) (sst R l m f) w) (h:sok R (gj R l) (gb R l) (gq R l) l m=true:=by kernel_rfl)
  (hj:E9 R (gj R l)=some (gq R l):=by kernel_rfl) (hf:f (gq R l)=undef:=by kernel_rfl):RWP P ro n R Q l f w:=
 Pz (fun _ _=>trivial) (fun f' v e hv=>by
  rcases hv with hv | hv
  ·exact Uj hj (e.trans hv)
  ·exact Uk hj (e.trans hv) rfl) m (.inl hf) k h
end
def ups (g:Fr) (d:List Deferred):List (Nat×Value)->Fr
 | []=>⟨g.v,d⟩
 | (i,v)::l=>upd (ups g d l) i v
def FI (f:Fr) (d:List Deferred) (l:List (Nat×Value)):Prop:=∃ g,f=ups g d l
theorem RF {f:Fr} {i:Nat} {v:Value} (h:f i=v):upd f i v=f:=by
 subst h
 cases f with
 | mk fv fd=>
  simp only [upd,Fr.mk.injEq,and_true]
  funext j
  cases hb:Nat.beq j i with
  | false=>rfl
  | true=>rw [Nat.eq_of_beq_eq_true hb];rfl
def Eqs (f:Fr):List (Nat×Value)->Prop
 | []=>True
 | (i,v)::l=>f i=v/\Eqs f l
theorem LY {f:Fr} {d:List Deferred} (hd:f.d=d):∀ {l:List (Nat×Value)},Eqs f l->f=ups f d l
 | [],_=>by subst hd;rfl
 | (i,v)::l,h=>by
  show f=upd (ups f d l) i v
  rw [<-LY hd h.2];exact (RF h.1).symm
theorem Sz {f:Fr}:∀ {l:List (Nat×Value)},l.map (fun p=>f p.1)=l.map (·.2)->Eqs f l
 | [],_=>trivial
 | (i,v)::l,h=>by
  simp only [List.map_cons,List.cons.injEq] at h
  exact ⟨h.1,Sz h.2⟩
theorem kq {α:Type} {a:α} (b:α) {c:α} (h:b=c) (k:a=b:=by kernel_rfl):a=c:=k.trans h
theorem fI {f:Fr} {d:List Deferred} {l:List (Nat×Value)} (h:l.map (fun p=>f p.1)=l.map (·.2):=by kernel_rfl) (hd:f.d=d:=by kernel_rfl):FI f d l:=⟨f,LY hd (Sz h)⟩
theorem fJ {f:Fr} {d:List Deferred} {l:List (Nat×Value)} (h:Eqs f l) (hd:f.d=d:=by kernel_rfl):FI f d l:=⟨f,LY hd h⟩
def pkC:Op->Operand | .pick c _ _=>c | _=>.tmp 0
def pkA:Op->Operand | .pick _ a _=>a | _=>.tmp 0
def pkB:Op->Operand | .pick _ _ b=>b | _=>.tmp 0
def Rk:Op->Bool | .pick _ _ _=>true | _=>false
theorem IA {op:Op} (h:Rk op=true):op=.pick (pkC op) (pkA op) (pkB op):=by cases op <;> simp_all [Rk,pkC,pkA,pkB]
def ldX:Op->Operand | .load _ x=>x | _=>.tmp 0
def ldT:Op->TypeId | .load t _=>t | _=>0
def O0:Op->Bool | .load _ _=>true | _=>false
theorem Fz {op:Op} (h:O0 op=true):op=.load (ldT op) (ldX op):=by cases op <;> simp_all [O0,ldX,ldT]
def pO:Value->Nat | .pointer (some ⟨_,o,_⟩)=>o | _=>0
def sB:Value->Nat | .slice (some ⟨b,_,_⟩) _ _=>b | _=>0
def sO:Value->Nat | .slice (some ⟨_,o,_⟩) _ _=>o | _=>0
def sC:Value->Nat | .slice _ _ c=>c | _=>0
def iK:Value->IntKind | .int k _=>k | _=>.i64
def ixX:Op->Operand | .indexAddr _ x _=>x | _=>.tmp 0
def ixY:Op->Operand | .indexAddr _ _ y=>y | _=>.tmp 0
def ixT:Op->TypeId | .indexAddr t _ _=>t | _=>0
def O1:Op->Bool | .indexAddr _ _ _=>true | _=>false
theorem FA {op:Op} (h:O1 op=true):op=.indexAddr (ixT op) (ixX op) (ixY op):=by cases op <;> simp_all [O1,ixT,ixX,ixY]
def stX:Op->Operand | .store _ x _=>x | _=>.tmp 0
def stY:Op->Operand | .store _ _ y=>y | _=>.tmp 0
def stT:Op->TypeId | .store t _ _=>t | _=>0
def Hz:Op->Bool | .store _ _ _=>true | _=>false
theorem DD {op:Op} (h:Hz op=true):op=.store (stT op) (stX op) (stY op):=by cases op <;> simp_all [Hz,stT,stX,stY]
def TB (t:TypeId):Op->Bool | .alloc t'=>Nat.beq t t' | _=>false
theorem NA {t:TypeId} {op:Op} (h:TB t op=true):op=.alloc t:=by
 cases op <;> simp only [TB,Bool.false_eq_true] at h
 rw [Nat.eq_of_beq_eq_true h]
def bxX:Op->Operand | .box _ x=>x | _=>.tmp 0
def TA (t:TypeId):Op->Bool | .box t' _=>Nat.beq t t' | _=>false
theorem Nz {t:TypeId} {op:Op} (h:TA t op=true):op=.box t (bxX op):=by
 cases op <;> simp only [TA,Bool.false_eq_true] at h
 rw [Nat.eq_of_beq_eq_true h];rfl
def bsV (P:Program) (f:Fr):Op->Option (TypeId×List Value) | .buildSlice t len parts=>Ke P t len (parts.toList.map fun p=>(p.1,fev f p.2)) | _=>none
def bsL:Op->Nat | .buildSlice _ len _=>len | _=>0
def clV (f:Fr):Op->Option (FuncId×List Value)
 | .call c=>(match c.callee with
  | .value f0=>(match fev f f0 with
   | .func (.func g) fi ca=>some (g,fi.toList++c.args.toList.map (fev f)++ca.toList)
   | _=>none)
  | _=>none)
 | _=>none
theorem J5 {P:Program} {w:World} {f:Fr} {op:Op} {ty:TypeId} {g:FuncId} {args:List Value} (h:clV f op=some (g,args)) (hok:Af P g):(Ak (fev f) op ty).run P w=.ok (.enter g args.toArray) w:=by
 unfold clV at h
 split at h
 ·rename_i c
  obtain ⟨callee,aos,ats⟩:=c
  simp only at h
  split at h
  ·split at h
   ·rename_i hf
    simp only [Option.some.injEq,Prod.mk.injEq] at h
    obtain ⟨rfl,rfl⟩:=h
    exact DP hf hok rfl
   ·cases h
  ·cases h
 ·cases h
section
variable {P : Program} {ro : Option Nat} {n : Nat} {R : Array Oper} {Q : Exit -> Fr -> World -> Prop} {i : Nat} {rest : List Nat} {f : Fr} {w w' w0 : World} {F0 F : Mem} {L : List (Option Nat × Obj)}
theorem RWP.valU {v:Value} (ho:ung R i=true) (hy:(Ak (fev f) (Ag R i) (Fo R i)).run P w=.ok (.value v) w') (k:RWP P ro n R Q rest (AZ f (A6 R i) v) w'):RWP P ro n R Q (i::rest) f w:=Vu (A9 ho) rfl hy k
theorem Pk1 {t:Bool} (ht:t=true) (k:RWP P ro n R Q rest (AZ f (A6 R i) (fev f (pkA (Ag R i)))) w) (hc:fev f (pkC (Ag R i))=.bool t:=by kernel_rfl) (ho:(ung R i&&Rk (Ag R i))=true:=by kernel_rfl):RWP P ro n R Q (i::rest) f w:=by
 simp only [Bool.and_eq_true] at ho
 refine RWP.valU ho.1 ?_ k
 have:=IA ho.2
 rw [this] at hc ⊢;exact Kh hc ht rfl
theorem Pk0 {t:Bool} (ht:t=false) (k:RWP P ro n R Q rest (AZ f (A6 R i) (fev f (pkB (Ag R i)))) w) (hc:fev f (pkC (Ag R i))=.bool t:=by kernel_rfl) (ho:(ung R i&&Rk (Ag R i))=true:=by kernel_rfl):RWP P ro n R Q (i::rest) f w:=by
 simp only [Bool.and_eq_true] at ho
 refine RWP.valU ho.1 ?_ k
 have:=IA ho.2
 rw [this] at hc ⊢;exact Ki hc ht rfl
def ldV (P:Program) (t:TypeId) (C:Array Value) (o:Nat):Value:=match Ed P t with | some (g,s)=>mkV g (Am C o s) | none=>undef
def ldK (P:Program) (t:TypeId) (C:Array Value) (o:Nat):Bool:=match Ed P t with | some (g,s)=>Nat.beq (Am C o s).length s&&(g||s==1) | none=>false
theorem PI {ρ:Operand->Value} {t ty:TypeId} {x:Operand} {b o:Nat} {C:Array Value} {E:TypeId} {fz:Nat×Nat} (hx:ρ x=.pointer (some ⟨b,o,none⟩)) (hp:w.heap[b]? =some (.cells C E fz)) (hk:ldK P t C o=true):
  (Ak ρ (.load t x) ty).run P w=.ok (.value (ldV P t C o)) w:=by
 unfold ldK at hk;unfold ldV
 split at hk
 ·rename_i g s ht
  simp only [Bool.and_eq_true] at hk
  exact BJ hx ht hp (Nat.eq_of_beq_eq_true hk.1) hk.2 rfl
 ·cases hk
theorem Ld {b:Nat} {C:Array Value} {E:TypeId} {fz:Nat×Nat} (hp:w.heap[b]? =some (.cells C E fz)) (k:RWP P ro n R Q rest (AZ f (A6 R i) (ldV P (ldT (Ag R i)) C (pO (fev f (ldX (Ag R i)))))) w)
  (hx:fev f (ldX (Ag R i))=.pointer (some ⟨b,pO (fev f (ldX (Ag R i))),none⟩):=by kernel_rfl) (ho:(ung R i&&(O0 (Ag R i)&&ldK P (ldT (Ag R i)) C (pO (fev f (ldX (Ag R i))))))=true:=by kernel_rfl):RWP P ro n R Q (i::rest) f w:=by
 simp only [Bool.and_eq_true] at ho
 refine RWP.valU ho.1 ?_ k
 have:=Fz ho.2.1
 rw [this];exact PI hx hp ho.2.2
def lxV (P:Program) (t:TypeId) (cs:List Value) (j:Nat):Value:=match Ed P t with | some (g,s)=>mkV g ((cs.drop j).take s) | none=>undef
def lxK (P:Program) (t:TypeId) (cs:List Value) (j kk:Nat):Bool:=match Ed P t with | some (g,s)=>decide (j + s<=kk)&&(Nat.beq ((cs.drop j).take s).length s&&(g||s==1)) | none=>false
theorem PG {ρ:Operand->Value} {t ty:TypeId} {x:Operand} {j b o kk:Nat} {C:Array Value} {E:TypeId} {fz:Nat×Nat} {cs:List Value} (hx:ρ x=.pointer (some ⟨b,o + j,none⟩)) (hp:w.heap[b]? =some (.cells C E fz)) (hc:Am C o kk=cs) (hk:lxK P t cs j kk=true):
  (Ak ρ (.load t x) ty).run P w=.ok (.value (lxV P t cs j)) w:=by
 unfold lxK at hk;unfold lxV
 split at hk
 ·rename_i g s ht
  simp only [Bool.and_eq_true] at hk
  exact EG hx ht hp hc hk.1 ⟨Nat.eq_of_beq_eq_true hk.2.1,trivial⟩ hk.2.2 rfl
 ·cases hk
theorem Lx (j:Nat) {b o kk:Nat} {C:Array Value} {E:TypeId} {fz:Nat×Nat} {cs:List Value} (hp:w.heap[b]? =some (.cells C E fz)) (hc:Am C o kk=cs) (k:RWP P ro n R Q rest (AZ f (A6 R i) (lxV P (ldT (Ag R i)) cs j)) w)
  (hx:fev f (ldX (Ag R i))=.pointer (some ⟨b,o + j,none⟩):=by kernel_rfl) (ho:(ung R i&&(O0 (Ag R i)&&lxK P (ldT (Ag R i)) cs j kk))=true:=by kernel_rfl):RWP P ro n R Q (i::rest) f w:=by
 simp only [Bool.and_eq_true] at ho
 refine RWP.valU ho.1 ?_ k
 have:=Fz ho.2.1
 rw [this];exact PG hx hp hc ho.2.2
def elS (P:Program) (t:TypeId):Nat:=match A2 P t with | some (_,s,_)=>s | none=>0
theorem Ix {m:Nat} {y:Int} (hi:0<=y/\y < (m:Int)) (k:RWP P ro n R Q rest (AZ f (A6 R i) (.pointer (some ⟨sB (fev f (ixX (Ag R i))),sO (fev f (ixX (Ag R i))) + y.toNat * elS P (ixT (Ag R i)),none⟩))) w)
  (hx:fev f (ixX (Ag R i))=.slice (some ⟨sB (fev f (ixX (Ag R i))),sO (fev f (ixX (Ag R i))),none⟩) m (sC (fev f (ixX (Ag R i)))):=by kernel_rfl) (hy:fev f (ixY (Ag R i))=.int (iK (fev f (ixY (Ag R i)))) y:=by kernel_rfl)
  (ho:(ung R i&&(O1 (Ag R i)&&slQ P (ixT (Ag R i))))=true:=by kernel_rfl):RWP P ro n R Q (i::rest) f w:=by
 simp only [Bool.and_eq_true] at ho
 obtain ⟨h1,h2,h3⟩:=ho
 refine RWP.valU h1 ?_ k
 unfold slQ at h3
 split at h3
 ·rename_i q hq;obtain ⟨E,s,by_⟩:=q
  have es:elS P (ixT (Ag R i))=s:=by simp [elS,hq]
  rw [es]
  have e:=FA h2
  have:=Cm (P:=P) (w:=w) (ty:=Fo R i) hx hy hq hi
  rw [<-e] at this;exact this
 ·cases h3
theorem Ix0 {m:Nat} {y:Int} (hi:0<=y/\y < (m:Int)) (k:RWP P ro n R Q rest (AZ f (A6 R i) (.pointer (some ⟨sB (fev f (ixX (Ag R i))),y.toNat * elS P (ixT (Ag R i)),none⟩))) w)
  (hx:fev f (ixX (Ag R i))=.slice (some ⟨sB (fev f (ixX (Ag R i))),0,none⟩) m (sC (fev f (ixX (Ag R i)))):=by kernel_rfl) (hy:fev f (ixY (Ag R i))=.int (iK (fev f (ixY (Ag R i)))) y:=by kernel_rfl)
  (ho:(ung R i&&(O1 (Ag R i)&&slQ P (ixT (Ag R i))))=true:=by kernel_rfl):RWP P ro n R Q (i::rest) f w:=by
 simp only [Bool.and_eq_true] at ho
 obtain ⟨h1,h2,h3⟩:=ho
 refine RWP.valU h1 ?_ k
 unfold slQ at h3
 split at h3
 ·rename_i q hq;obtain ⟨E,s,by_⟩:=q
  have es:elS P (ixT (Ag R i))=s:=by simp [elS,hq]
  rw [es]
  have e:=FA h2
  have:=CR (P:=P) (w:=w) (ty:=Fo R i) hx hy hq hi
  rw [<-e] at this;exact this
 ·cases h3
theorem RR {ρ:Operand->Value} {t ty:TypeId} {x y:Operand} {m:Nat} {q:Int} (hi:0<=q/\q < (m:Int)) (hx:ρ x=.slice (some ⟨sB (ρ x),sO (ρ x),none⟩) m (sC (ρ x))) (hy:ρ y=.int (iK (ρ y)) q) (h3:slQ P t=true):
  (Ak ρ (.indexAddr t x y) ty).run P w=.ok (.value (.pointer (some ⟨sB (ρ x),sO (ρ x) + q.toNat * elS P t,none⟩))) w:=by
 unfold slQ at h3
 split at h3
 ·rename_i a hq;obtain ⟨E,s,by_⟩:=a
  have es:elS P t=s:=by simp [elS,hq]
  rw [es];exact Cm hx hy hq hi
 ·cases h3
theorem Qh {t ty:TypeId} {x y:Operand} {m:Nat} {q:Int} (hi:0<=q/\q < (m:Int)) (hx:fev f x=.slice (some ⟨sB (fev f x),0,none⟩) m (sC (fev f x))) (hy:fev f y=.int (iK (fev f y)) q) (h3:slQ P t=true):
  (Ak (fev f) (.indexAddr t x y) ty).run P w=.ok (.value (.pointer (some ⟨sB (fev f x),q.toNat * elS P t,none⟩))) w:=by
 unfold slQ at h3
 split at h3
 ·rename_i a hq;obtain ⟨E,s,by_⟩:=a
  have es:elS P t=s:=by simp [elS,hq]
  rw [es];exact CR hx hy hq hi
 ·cases h3
theorem RWP.valG {gb' gc:Bool} (hg:gc=gb') {v:Value} (hy:(Ak (fev f) (Ag R i) (Fo R i)).run P w=.ok (.value v) w') (k:RWP P ro n R Q rest (AZ f (A6 R i) v) w')
  (h0:LZ R (gj R [i]) gb' i=true) (hj:E9 R (gj R [i])=some (gq R [i])) (hf:f (gq R [i])=.bool gc):RWP P ro n R Q (i::rest) f w:=by
 rcases Ml h0 with e | e
 ·exact Vu e rfl hy k
 ·exact Vu e (G7 hj hf hg) hy k
theorem Pg1 {gb' gc:Bool} (hg:gc=gb') {t:Bool} (ht:t=true) (k:RWP P ro n R Q rest (AZ f (A6 R i) (fev f (pkA (Ag R i)))) w) (hc:fev f (pkC (Ag R i))=.bool t:=by kernel_rfl) (ho:Rk (Ag R i)=true:=by kernel_rfl)
  (h0:LZ R (gj R [i]) gb' i=true:=by kernel_rfl) (hj:E9 R (gj R [i])=some (gq R [i]):=by kernel_rfl) (hf:f (gq R [i])=.bool gc:=by kernel_rfl):RWP P ro n R Q (i::rest) f w:=by
 refine RWP.valG hg ?_ k h0 hj hf
 have:=IA ho
 rw [this] at hc ⊢;exact Kh hc ht rfl
theorem Pg0 {gb' gc:Bool} (hg:gc=gb') {t:Bool} (ht:t=false) (k:RWP P ro n R Q rest (AZ f (A6 R i) (fev f (pkB (Ag R i)))) w) (hc:fev f (pkC (Ag R i))=.bool t:=by kernel_rfl) (ho:Rk (Ag R i)=true:=by kernel_rfl)
  (h0:LZ R (gj R [i]) gb' i=true:=by kernel_rfl) (hj:E9 R (gj R [i])=some (gq R [i]):=by kernel_rfl) (hf:f (gq R [i])=.bool gc:=by kernel_rfl):RWP P ro n R Q (i::rest) f w:=by
 refine RWP.valG hg ?_ k h0 hj hf
 have:=IA ho
 rw [this] at hc ⊢;exact Ki hc ht rfl
theorem Lg {gb' gc:Bool} (hg:gc=gb') {b:Nat} {C:Array Value} {E:TypeId} {fz:Nat×Nat} (hp:w.heap[b]? =some (.cells C E fz)) (k:RWP P ro n R Q rest (AZ f (A6 R i) (ldV P (ldT (Ag R i)) C (pO (fev f (ldX (Ag R i)))))) w)
  (hx:fev f (ldX (Ag R i))=.pointer (some ⟨b,pO (fev f (ldX (Ag R i))),none⟩):=by kernel_rfl) (ho:(O0 (Ag R i)&&ldK P (ldT (Ag R i)) C (pO (fev f (ldX (Ag R i)))))=true:=by kernel_rfl)
  (h0:LZ R (gj R [i]) gb' i=true:=by kernel_rfl) (hj:E9 R (gj R [i])=some (gq R [i]):=by kernel_rfl) (hf:f (gq R [i])=.bool gc:=by kernel_rfl):RWP P ro n R Q (i::rest) f w:=by
 simp only [Bool.and_eq_true] at ho
 refine RWP.valG hg ?_ k h0 hj hf
 have:=Fz ho.1
 rw [this];exact PI hx hp ho.2
theorem Lxg {gb' gc:Bool} (hg:gc=gb') (j:Nat) {b o kk:Nat} {C:Array Value} {E:TypeId} {fz:Nat×Nat} {cs:List Value} (hp:w.heap[b]? =some (.cells C E fz)) (hcs:Am C o kk=cs) (k:RWP P ro n R Q rest (AZ f (A6 R i) (lxV P (ldT (Ag R i)) cs j)) w)
  (hx:fev f (ldX (Ag R i))=.pointer (some ⟨b,o + j,none⟩):=by kernel_rfl) (ho:(O0 (Ag R i)&&lxK P (ldT (Ag R i)) cs j kk)=true:=by kernel_rfl)
  (h0:LZ R (gj R [i]) gb' i=true:=by kernel_rfl) (hj:E9 R (gj R [i])=some (gq R [i]):=by kernel_rfl) (hf:f (gq R [i])=.bool gc:=by kernel_rfl):RWP P ro n R Q (i::rest) f w:=by
 simp only [Bool.and_eq_true] at ho
 refine RWP.valG hg ?_ k h0 hj hf
 have:=Fz ho.1
 rw [this];exact PG hx hp hcs ho.2
theorem Ixg {gb' gc:Bool} (hg:gc=gb') {m:Nat} {y:Int} (hi:0<=y/\y < (m:Int)) (k:RWP P ro n R Q rest (AZ f (A6 R i) (.pointer (some ⟨sB (fev f (ixX (Ag R i))),sO (fev f (ixX (Ag R i))) + y.toNat * elS P (ixT (Ag R i)),none⟩))) w)
  (hx:fev f (ixX (Ag R i))=.slice (some ⟨sB (fev f (ixX (Ag R i))),sO (fev f (ixX (Ag R i))),none⟩) m (sC (fev f (ixX (Ag R i)))):=by kernel_rfl) (hy:fev f (ixY (Ag R i))=.int (iK (fev f (ixY (Ag R i)))) y:=by kernel_rfl)
  (ho:(O1 (Ag R i)&&slQ P (ixT (Ag R i)))=true:=by kernel_rfl)
  (h0:LZ R (gj R [i]) gb' i=true:=by kernel_rfl) (hj:E9 R (gj R [i])=some (gq R [i]):=by kernel_rfl) (hf:f (gq R [i])=.bool gc:=by kernel_rfl):RWP P ro n R Q (i::rest) f w:=by
 simp only [Bool.and_eq_true] at ho
 refine RWP.valG hg ?_ k h0 hj hf
 have e:=FA ho.1
 have:=RR (P:=P) (w:=w) (ty:=Fo R i) hi hx hy ho.2
 rw [<-e] at this;exact this
theorem Vp {gb' gc:Bool} (hg:gc=gb') {m:Nat} {y:Int} (hi:0<=y/\y < (m:Int)) (k:RWP P ro n R Q rest (AZ f (A6 R i) (.pointer (some ⟨sB (fev f (ixX (Ag R i))),y.toNat * elS P (ixT (Ag R i)),none⟩))) w)
  (hx:fev f (ixX (Ag R i))=.slice (some ⟨sB (fev f (ixX (Ag R i))),0,none⟩) m (sC (fev f (ixX (Ag R i)))):=by kernel_rfl) (hy:fev f (ixY (Ag R i))=.int (iK (fev f (ixY (Ag R i)))) y:=by kernel_rfl)
  (ho:(O1 (Ag R i)&&slQ P (ixT (Ag R i)))=true:=by kernel_rfl)
  (h0:LZ R (gj R [i]) gb' i=true:=by kernel_rfl) (hj:E9 R (gj R [i])=some (gq R [i]):=by kernel_rfl) (hf:f (gq R [i])=.bool gc:=by kernel_rfl):RWP P ro n R Q (i::rest) f w:=by
 simp only [Bool.and_eq_true] at ho
 refine RWP.valG hg ?_ k h0 hj hf
 have e:=FA ho.1
 have:=Qh (P:=P) (w:=w) (ty:=Fo R i) hi hx hy ho.2
 rw [<-e] at this;exact this
theorem Al' (t:TypeId) (C:Array Value) (hs:HS w0 F0 w F L) (k:∀ b w',HS w0 F0 w' F ((some b,.cells C t (0,0))::L)->RWP P ro n R Q rest (AZ f (A6 R i) (.pointer (some ⟨b,0,none⟩))) w')
  (hC:(Bp P t).map Value.cells=some C:=by kernel_rfl) (ho:(ung R i&&TB t (Ag R i))=true:=by kernel_rfl):RWP P ro n R Q (i::rest) f w:=by
 simp only [Bool.and_eq_true] at ho
 cases hz:Bp P t with
 | none=>rw [hz] at hC;cases hC
 | some z=>
  rw [hz] at hC;simp only [Option.map_some,Option.some.injEq] at hC
  have e:=NA ho.2
  have:=A9 ho.1
  rw [e] at this
  exact RWP.alloc this rfl hz hC hs k
theorem Bx' (t:TypeId) (C:Array Value) (hs:HS w0 F0 w F L) (k:∀ b w',HS w0 F0 w' F ((some b,.cells C t (0,0))::L)->RWP P ro n R Q rest (AZ f (A6 R i) (.pointer (some ⟨b,0,none⟩))) w')
  (hC:(fev f (bxX (Ag R i))).cells=C:=by kernel_rfl) (ho:(ung R i&&TA t (Ag R i))=true:=by kernel_rfl):RWP P ro n R Q (i::rest) f w:=by
 simp only [Bool.and_eq_true] at ho
 have e:=Nz ho.2
 have:=A9 ho.1
 rw [e] at this
 exact RWP.box this rfl rfl hC hs k
theorem Bs (E:TypeId) (cs:List Value) (hs:HS w0 F0 w F L) (k:∀ b w',HS w0 F0 w' F ((some b,.cells cs.toArray E (0,0))::L)->RWP P ro n R Q rest (AZ f (A6 R i) (.slice (some ⟨b,0,none⟩) (bsL (Ag R i)) (bsL (Ag R i)))) w')
  (hb:bsV P f (Ag R i)=some (E,cs):=by kernel_rfl) (ho:ung R i=true:=by kernel_rfl):RWP P ro n R Q (i::rest) f w:=by
 have:=A9 ho
 cases e:Ag R i with
 | buildSlice t len parts=>
  rw [e] at hb this k
  exact RWP.buildSlice this rfl rfl hb hs k
 | _=>rw [e] at hb;simp [bsV] at hb
def C7 (P:Program) (t:TypeId) (v:Value) (o:Nat) (C:Array Value):Bool:=match Ed P t with | some (_,s)=>Nat.beq v.cells.size s&&(decide (o + s<=C.size)&&v.cells.toList.all (·.oneCell')) | none=>false
theorem G2 {ρ:Operand->Value} {t ty:TypeId} {x y:Operand} {b o:Nat} {C C':Array Value} {E:TypeId} (hx:ρ x=.pointer (some ⟨b,o,none⟩)) (hp:w.heap[b]? =some (.cells C E (0,0))) (hk:C7 P t (ρ y) o C=true) (hC:BG C o (ρ y).cells.toList=C'):
  (Ak ρ (.store t x y) ty).run P w=.ok .skip (Cc w b (.cells C' E (0,0))):=by
 unfold C7 at hk
 split at hk
 ·rename_i g s ht
  simp only [Bool.and_eq_true] at hk
  exact L8 hx rfl ht hp (Nat.eq_of_beq_eq_true hk.1) hk.2.1 hk.2.2 hC
 ·cases hk
theorem Jv {b:Nat} {C C':Array Value} {E:TypeId} (hp:w.heap[b]? =some (.cells C E (0,0))) (k:RWP P ro n R Q rest f (Cc w b (.cells C' E (0,0))))
  (hx:fev f (stX (Ag R i))=.pointer (some ⟨b,pO (fev f (stX (Ag R i))),none⟩)) (hC:BG C (pO (fev f (stX (Ag R i)))) (fev f (stY (Ag R i))).cells.toList=C')
  (ho:(ung R i&&(Hz (Ag R i)&&(C7 P (stT (Ag R i)) (fev f (stY (Ag R i))) (pO (fev f (stX (Ag R i)))) C&&(match A6 R i with | none=>true | some _=>false))))=true):RWP P ro n R Q (i::rest) f w:=by
 simp only [Bool.and_eq_true] at ho
 obtain ⟨h1,h2,h3,h4⟩:=ho
 have e:=DD h2
 have:=A9 h1
 cases hd:A6 R i with
 | some d=>rw [hd] at h4;cases h4
 | none=>
  rw [hd] at this
  refine RWP.unit this rfl ?_ k
  rw [e];exact G2 hx hp h3 hC
theorem Cl' {fid:FuncId} {args:List Value} {post:Mem->Value->Prop} (hok:Af P fid) (hs:HS w0 F0 w F L) (hc:Calls P fid args.toArray w (AF w F post))
  (k:∀ v F1 w1,HS w0 F0 w1 F1 L->Vx F F1->post F1 v->RWP P ro n R Q rest (AZ f (A6 R i) v) w1) (ha:clV f (Ag R i)=some (fid,args):=by kernel_rfl) (ho:ung R i=true:=by kernel_rfl):RWP P ro n R Q (i::rest) f w:=by
 refine Vv (A9 ho) rfl (J5 ha hok) hc ?_
 rintro e w' ⟨r,F',rfl,h1,h2⟩
 exact k r F' w' (hs.call h1) h1.le h2
theorem Cg {fid:FuncId} {args:List Value} {post:Mem->Value->Prop} {b c:Bool} (hg:c=b) (hok:Af P fid) (hs:HS w0 F0 w F L) (hc:Calls P fid args.toArray w (AF w F post))
  (k:∀ v F1 w1,HS w0 F0 w1 F1 L->Vx F F1->post F1 v->RWP P ro n R Q rest (AZ f (A6 R i) v) w1) (ha:clV f (Ag R i)=some (fid,args):=by kernel_rfl)
  (ho:LZ R (gj R [i]) b i=true:=by kernel_rfl) (hj:E9 R (gj R [i])=some (gq R [i]):=by kernel_rfl) (hf:f (gq R [i])=.bool c:=by kernel_rfl):RWP P ro n R Q (i::rest) f w:=by
 have hE:∀ e w',AF w F post e w'->match e with
   | .returned v=>RWP P ro n R Q rest (AZ f (A6 R i) v) w'
   | .panicked chain=>Q (.panic chain) f w'
   | .outgrown=>False:=by
  rintro e w' ⟨r,F',rfl,h1,h2⟩
  exact k r F' w' (hs.call h1) h1.le h2
 rcases Ml ho with e | e
 ·exact Vv e rfl (J5 ha hok) hc hE
 ·exact Vv e (G7 hj hf hg) (J5 ha hok) hc hE
theorem CB {fid:FuncId} {args:List Value} {wb:World} {Fb:Mem} {post:Mem->Value->Own->Prop} (hok:Af P fid) (hc:Calls P fid args.toArray w (ED wb Fb F post))
  (k:∀ v F1 w1 L',HS wb Fb w1 F1 L'->Vx F F1->post F1 v L'->RWP P ro n R Q rest (AZ f (A6 R i) v) w1) (ha:clV f (Ag R i)=some (fid,args):=by kernel_rfl) (ho:ung R i=true:=by kernel_rfl):RWP P ro n R Q (i::rest) f w:=by
 refine Vv (A9 ho) rfl (J5 ha hok) hc ?_
 rintro e w' ⟨F',r,L',rfl,h1,h2,h3⟩
 exact k r F' w' L' h1 h2 h3
def clQ (f:Fr):Op->Option (FuncId×List Value)
 | .call c=>(match c.callee with
  | .value f0=>(match fev f f0 with
   | .func (.func g) fi ca=>some (g,fi.toList++(c.args.toList.map (fev f)++ca.toList))
   | _=>none)
  | _=>none)
 | _=>none
theorem Uu (f:Fr) (op:Op):clQ f op=clV f op:=by
 unfold clQ clV
 split <;> try rfl
 split <;> try rfl
 split <;> try rfl
 simp [List.append_assoc]
theorem Cq {fid:FuncId} {args:List Value} {post:Mem->Value->Prop} (hok:Af P fid) (hs:HS w0 F0 w F L) (hc:Calls P fid args.toArray w (AF w F post))
  (k:∀ v F1 w1,HS w0 F0 w1 F1 L->Vx F F1->post F1 v->RWP P ro n R Q rest (AZ f (A6 R i) v) w1) (ha:clQ f (Ag R i)=some (fid,args):=by kernel_rfl) (ho:ung R i=true:=by kernel_rfl):RWP P ro n R Q (i::rest) f w:=Cl' hok hs hc k (Uu f _ ▸ ha) ho
theorem Go (m:Nat) {fid:FuncId} {fn:Func} {args:List Value} {S:Ending->World->Prop} (hf:P.funcs[fid]? =some fn) (h:CWP P none m (MT fn) (UF P fn.results S) (f0 args) w)
  (hk:(Nat.beq fn.ntmps m&&(decide (args.length<=m)&&isS fn.body))=true:=by kernel_rfl):Calls P fid args.toArray w S:=by
 simp only [Bool.and_eq_true] at hk
 have h1:=HV (d:=.skip) hk.2.2
 exact MN hf h1 (Nat.eq_of_beq_eq_true hk.1) hk.2.1 h
theorem Sd {α:Type} {t:Bool} {x y r:α} (h:(bif t then x else y)=r) {PQ:List PanicEntry->List Deferred->World->Prop} {Post:Fr->World->Prop} {z:Nat} {Sw:Bool->World->Prop} {fuel:Nat} {l:List Bool}
  (ht:t=true->x=r->DWP P n R PQ Post z Sw fuel l f w) (hf:t=false->y=r->DWP P n R PQ Post z Sw fuel l f w):DWP P n R PQ Post z Sw fuel l f w:=
 DWP.split t (fun e=>ht e (Og h e)) (fun e=>hf e (Oh h e))
variable {c : Code} {Q' : Exit -> Fr -> World -> Prop}
theorem Cd {α:Type} {t:Bool} {x y r:α} (h:(bif t then x else y)=r) (ht:t=true->x=r->CWP P ro n (SG c) Q f w) (hf:t=false->y=r->CWP P ro n (SH c) Q f w) (hc:fev f (P7 c)=.bool t:=by kernel_rfl) (hk:kin c=4:=by kernel_rfl):CWP P ro n c Q f w:=
 CWP.cond hk hc (fun e=>ht e (Og h e)) (fun e=>hf e (Oh h e))
theorem Cp (t:Bool) (ht:t=true->CWP P ro n (SG c) Q f w) (hf:t=false->CWP P ro n (SH c) Q f w) (hc:fev f (P7 c)=.bool t:=by kernel_rfl) (hk:kin c=4:=by kernel_rfl):CWP P ro n c Q f w:=CWP.cond hk hc ht hf
theorem C1 {t:Bool} (e:t=true) (h:CWP P ro n (SG c) Q f w) (hc:fev f (P7 c)=.bool t:=by kernel_rfl) (hk:kin c=4:=by kernel_rfl):CWP P ro n c Q f w:=CWP.cond1 hk hc e h
theorem C0 {t:Bool} (e:t=false) (h:CWP P ro n (SH c) Q f w) (hc:fev f (P7 c)=.bool t:=by kernel_rfl) (hk:kin c=4:=by kernel_rfl):CWP P ro n c Q f w:=CWP.cond0 hk hc e h
theorem Sp {α:Type} {t:Bool} {x y r:α} (h:(bif t then x else y)=r) {l:List Nat} (ht:t=true->x=r->RWP P ro n R Q l f w) (hf:t=false->y=r->RWP P ro n R Q l f w):RWP P ro n R Q l f w:=
 VC t (fun e=>ht e (Og h e)) (fun e=>hf e (Oh h e))
theorem Rt (h:Q .ret f w) (hk:kin c=8:=by kernel_rfl):CWP P ro n c Q f w:=CWP.ret hk h
theorem Ex (h:Q (.exit (cid c)) f w) (hk:kin c=7:=by kernel_rfl):CWP P ro n c Q f w:=CWP.exit hk h
end
def QX (f:Fr):List ResultVar->Option (List Value)
 | []=>some []
 | .tmp t::rs=>(match QX f rs with | some l=>some (f t::l) | none=>none)
 | _=>none
theorem Kj {P:Program} {w:World} {f:Fr}:∀ {rs:List ResultVar} {vs:List Value},QX f rs=some vs->SQ P w f rs vs
 | [],_,h=>by cases h;trivial
 | .tmp t::rs,vs,h=>by
  unfold QX at h
  split at h
  ·rename_i l hl;cases h;exact ⟨rfl,Kj hl⟩
  ·cases h
 | .cell _ _::rs,vs,h=>by simp [QX] at h
theorem Re {P:Program} {rs:Array ResultVar} {w w0:World} {F0 F:Mem} {f:Fr} {L:List (Option Nat×Obj)} {post:Mem->Value->Prop} (vs:List Value) (hs:HS w0 F0 w F L) (hp:post F (Jb vs)) (hr:QX f rs.toList=some vs:=by kernel_rfl) (hd:f.d=[]:=by kernel_rfl):
  f.d=[]/\ ∃ v,(Dn rs f).run P w=.ok v w/\AF w0 F0 post (.returned v) w:=
 ⟨hd,Jb vs,AH rfl (Kj hr),Jb vs,F,rfl,hs.clear,hp⟩
theorem ReB {P:Program} {rs:Array ResultVar} {w wb:World} {Fb F0 F:Mem} {f:Fr} {L:Own} {post:Mem->Value->Own->Prop} (vs:List Value) (hs:HS wb Fb w F L) (hl:Vx F0 F) (hp:post F (Jb vs) L) (hr:QX f rs.toList=some vs:=by kernel_rfl) (hd:f.d=[]:=by kernel_rfl):
  f.d=[]/\ ∃ v,(Dn rs f).run P w=.ok v w/\ED wb Fb F0 post (.returned v) w:=
 ⟨hd,Jb vs,AH rfl (Kj hr),F,Jb vs,L,rfl,hs,hl,hp⟩
section
variable {w0 w : World} {F0 F : Mem} {L : List (Option Nat × Obj)} {e : Option Nat × Obj}
theorem HS.dr0 (h:HS w0 F0 w F (e::L)):HS w0 F0 w F (L):=h.drop 0
theorem HS.at0 {b:Nat} {o:Obj} (h:HS w0 F0 w F ((some b,o)::L)):w.heap[b]? =some o:=h.ownAt (k:=0) rfl
theorem HS.fc0 {b:Nat} {o:Obj} (h:HS w0 F0 w F ((some b,o)::L)):∃ F1,HS w0 F0 w F1 (L)/\Vx F F1/\F1 b=some o:=h.freezeC (k:=0) rfl
theorem HS.fr0 {α:Type} {T:Ty α} {E:TypeId} {a:VX} {cap:Nat} {l:List α} (h:HS w0 F0 w F (e::L)) (hr:An T E F a cap l e):∃ F1,HS w0 F0 w F1 (L)/\Vx F F1/\SlA T F1 a l:=h.freezeRow (k:=0) rfl hr
theorem HS.rd0 {α:Type} {T:Ty α} {E:TypeId} {a:VX} {cap:Nat} {l:List α} (h:HS w0 F0 w F (e::L)) (hr:An T E F a cap l e):Rd T F w a l:=An.rd h (k:=0) rfl hr
theorem HS.dr1 {e0:Option Nat×Obj} (h:HS w0 F0 w F (e0::e::L)):HS w0 F0 w F (e0::L):=h.drop 1
theorem HS.pk1 {e0:Option Nat×Obj} (h:HS w0 F0 w F (e0::e::L)):HS w0 F0 w F (e::e0::L):=h.pick (k:=1) rfl
theorem HS.at1 {e0:Option Nat×Obj} {b:Nat} {o:Obj} (h:HS w0 F0 w F (e0::(some b,o)::L)):w.heap[b]? =some o:=h.ownAt (k:=1) rfl
theorem HS.fc1 {e0:Option Nat×Obj} {b:Nat} {o:Obj} (h:HS w0 F0 w F (e0::(some b,o)::L)):∃ F1,HS w0 F0 w F1 (e0::L)/\Vx F F1/\F1 b=some o:=h.freezeC (k:=1) rfl
theorem HS.fr1 {e0:Option Nat×Obj} {α:Type} {T:Ty α} {E:TypeId} {a:VX} {cap:Nat} {l:List α} (h:HS w0 F0 w F (e0::e::L)) (hr:An T E F a cap l e):∃ F1,HS w0 F0 w F1 (e0::L)/\Vx F F1/\SlA T F1 a l:=h.freezeRow (k:=1) rfl hr
theorem HS.dr2 {e0 e1:Option Nat×Obj} (h:HS w0 F0 w F (e0::e1::e::L)):HS w0 F0 w F (e0::e1::L):=h.drop 2
theorem HS.pk2 {e0 e1:Option Nat×Obj} (h:HS w0 F0 w F (e0::e1::e::L)):HS w0 F0 w F (e::e0::e1::L):=h.pick (k:=2) rfl
theorem HS.at2 {e0 e1:Option Nat×Obj} {b:Nat} {o:Obj} (h:HS w0 F0 w F (e0::e1::(some b,o)::L)):w.heap[b]? =some o:=h.ownAt (k:=2) rfl
theorem HS.dr3 {e0 e1 e2:Option Nat×Obj} (h:HS w0 F0 w F (e0::e1::e2::e::L)):HS w0 F0 w F (e0::e1::e2::L):=h.drop 3
theorem HS.pk3 {e0 e1 e2:Option Nat×Obj} (h:HS w0 F0 w F (e0::e1::e2::e::L)):HS w0 F0 w F (e::e0::e1::e2::L):=h.pick (k:=3) rfl
theorem HS.at3 {e0 e1 e2:Option Nat×Obj} {b:Nat} {o:Obj} (h:HS w0 F0 w F (e0::e1::e2::(some b,o)::L)):w.heap[b]? =some o:=h.ownAt (k:=3) rfl
theorem HS.dr4 {e0 e1 e2 e3:Option Nat×Obj} (h:HS w0 F0 w F (e0::e1::e2::e3::e::L)):HS w0 F0 w F (e0::e1::e2::e3::L):=h.drop 4
theorem HS.pk4 {e0 e1 e2 e3:Option Nat×Obj} (h:HS w0 F0 w F (e0::e1::e2::e3::e::L)):HS w0 F0 w F (e::e0::e1::e2::e3::L):=h.pick (k:=4) rfl
theorem HS.at4 {e0 e1 e2 e3:Option Nat×Obj} {b:Nat} {o:Obj} (h:HS w0 F0 w F (e0::e1::e2::e3::(some b,o)::L)):w.heap[b]? =some o:=h.ownAt (k:=4) rfl
theorem HS.dr5 {e0 e1 e2 e3 e4:Option Nat×Obj} (h:HS w0 F0 w F (e0::e1::e2::e3::e4::e::L)):HS w0 F0 w F (e0::e1::e2::e3::e4::L):=h.drop 5
theorem HS.pk5 {e0 e1 e2 e3 e4:Option Nat×Obj} (h:HS w0 F0 w F (e0::e1::e2::e3::e4::e::L)):HS w0 F0 w F (e::e0::e1::e2::e3::e4::L):=h.pick (k:=5) rfl
theorem HS.at5 {e0 e1 e2 e3 e4:Option Nat×Obj} {b:Nat} {o:Obj} (h:HS w0 F0 w F (e0::e1::e2::e3::e4::(some b,o)::L)):w.heap[b]? =some o:=h.ownAt (k:=5) rfl
theorem HS.pk6 {e0 e1 e2 e3 e4 e5:Option Nat×Obj} (h:HS w0 F0 w F (e0::e1::e2::e3::e4::e5::e::L)):HS w0 F0 w F (e::e0::e1::e2::e3::e4::e5::L):=h.pick (k:=6) rfl
theorem HS.at6 {e0 e1 e2 e3 e4 e5:Option Nat×Obj} {b:Nat} {o:Obj} (h:HS w0 F0 w F (e0::e1::e2::e3::e4::e5::(some b,o)::L)):w.heap[b]? =some o:=h.ownAt (k:=6) rfl
theorem HS.pk7 {e0 e1 e2 e3 e4 e5 e6:Option Nat×Obj} (h:HS w0 F0 w F (e0::e1::e2::e3::e4::e5::e6::e::L)):HS w0 F0 w F (e::e0::e1::e2::e3::e4::e5::e6::L):=h.pick (k:=7) rfl
theorem HS.at7 {e0 e1 e2 e3 e4 e5 e6:Option Nat×Obj} {b:Nat} {o:Obj} (h:HS w0 F0 w F (e0::e1::e2::e3::e4::e5::e6::(some b,o)::L)):w.heap[b]? =some o:=h.ownAt (k:=7) rfl
variable {P : Program} {ro : Option Nat} {n : Nat} {R : Array Oper} {Q : Exit -> Fr -> World -> Prop} {i : Nat} {rest : List Nat} {f : Fr} {α : Type} {T : Ty α} {E : TypeId} {a : VX} {cap : Nat} {l m : List α}
def apX:Op->Operand | .call c=>c.args[0]?.getD (.tmp 0) | _=>.tmp 0
def apY:Op->Operand | .call c=>c.args[1]?.getD (.tmp 0) | _=>.tmp 0
def apK (P:Program) (E:TypeId) (sz:Nat):Op->Bool
 | .call c=>(match c.callee with
  | .builtin .append=>(match c.args.toList,c.argTypes.toList with
   | [_,_],[t,t2]=>(match A2 P t,Bp P E with
    | some (E',s,by_),some z=>Nat.beq E E'&&(Nat.beq s sz&&(decide (by_<=1024)&&(My P t2&&Nat.beq z.cells.size sz)))
    | _,_=>false)
   | _,_=>false)
  | _=>false)
 | _=>false
theorem FP {op:Op} {sz:Nat} (h:apK P E sz op=true):∃ t t2 by_ z,op=.call {callee:=.builtin .append,args:=#[apX op,apY op],argTypes:=#[t,t2]}/\A2 P t=some (E,sz,by_)/\decide (by_<=1024)=true/\My P t2=true/\Bp P E=some z/\z.cells.size=sz:=by
 unfold apK at h
 split at h
 ·rename_i c
  obtain ⟨callee,aos,ats⟩:=c
  simp only at h
  split at h
  ·split at h
   ·rename_i x y t t2 h1 h2
    split at h
    ·rename_i E' s by_ z he hz
     simp only [Bool.and_eq_true] at h
     obtain ⟨e1,e2,e3,e4,e5⟩:=h
     have e1:=Nat.eq_of_beq_eq_true e1
     have e2:=Nat.eq_of_beq_eq_true e2
     subst e1;subst e2
     have ha:aos=#[x,y]:=by cases aos;simpa using h1
     have hb:ats=#[t,t2]:=by cases ats;simpa using h2
     subst ha;subst hb
     exact ⟨t,t2,by_,z,rfl,he,e3,e4,hz,Nat.eq_of_beq_eq_true e5⟩
    ·cases h
   ·cases h
  ·cases h
 ·cases h
theorem St0 {b:Nat} {C:Array Value} {E:TypeId} (C':Array Value) (hs:HS w0 F0 w F ((some b,.cells C E (0,0))::L)) (k:∀ w',HS w0 F0 w' F ((some b,.cells C' E (0,0))::L)->RWP P ro n R Q rest f w')
  (hx:fev f (stX (Ag R i))=.pointer (some ⟨b,pO (fev f (stX (Ag R i))),none⟩):=by kernel_rfl) (hC:BG C (pO (fev f (stX (Ag R i)))) (fev f (stY (Ag R i))).cells.toList=C':=by kernel_rfl)
  (ho:(ung R i&&(Hz (Ag R i)&&(C7 P (stT (Ag R i)) (fev f (stY (Ag R i))) (pO (fev f (stX (Ag R i)))) C&&(match A6 R i with | none=>true | some _=>false))))=true:=by kernel_rfl):RWP P ro n R Q (i::rest) f w:=
 Jv (hs.ownAt (k:=0) rfl) (k _ (hs.put (k:=0) rfl _)) hx hC ho
theorem Ap0 {a2:VX} (h1:T.One) (hs:HS w0 F0 w F (e::L)) (hr:An T E F a cap l e) (hm:Rd T F w a2 m) {r:List α} (hap:Ci l m=some r)
  (k:∀ a' cap' e' w',HS w0 F0 w' F (e'::L)->An T E F a' cap' r e'->RWP P ro n R Q rest (AZ f (A6 R i) (.slice a' r.length cap')) w')
  (hx:fev f (apX (Ag R i))=.slice a l.length cap:=by kernel_rfl) (hy:fev f (apY (Ag R i))=.slice a2 m.length (sC (fev f (apY (Ag R i)))):=by kernel_rfl) (ho:(ung R i&&apK P E T.sz (Ag R i))=true:=by kernel_rfl):RWP P ro n R Q (i::rest) f w:=by
 simp only [Bool.and_eq_true] at ho
 obtain ⟨t,t2,by_,z,e1,he,hb,hni,hz,hzs⟩:=FP ho.2
 have:=A9 ho.1
 rw [e1] at this
 exact RWP.append this rfl hx hy he hb hni hz hzs h1 hs (k:=0) rfl hr hm hap k
theorem St1 {e0:Option Nat×Obj} {b:Nat} {C:Array Value} {E:TypeId} (C':Array Value) (hs:HS w0 F0 w F (e0::(some b,.cells C E (0,0))::L)) (k:∀ w',HS w0 F0 w' F (e0::(some b,.cells C' E (0,0))::L)->RWP P ro n R Q rest f w')
  (hx:fev f (stX (Ag R i))=.pointer (some ⟨b,pO (fev f (stX (Ag R i))),none⟩):=by kernel_rfl) (hC:BG C (pO (fev f (stX (Ag R i)))) (fev f (stY (Ag R i))).cells.toList=C':=by kernel_rfl)
  (ho:(ung R i&&(Hz (Ag R i)&&(C7 P (stT (Ag R i)) (fev f (stY (Ag R i))) (pO (fev f (stX (Ag R i)))) C&&(match A6 R i with | none=>true | some _=>false))))=true:=by kernel_rfl):RWP P ro n R Q (i::rest) f w:=
 Jv (hs.ownAt (k:=1) rfl) (k _ (hs.put (k:=1) rfl _)) hx hC ho
theorem Ap1 {e0:Option Nat×Obj} {a2:VX} (h1:T.One) (hs:HS w0 F0 w F (e0::e::L)) (hr:An T E F a cap l e) (hm:Rd T F w a2 m) {r:List α} (hap:Ci l m=some r)
  (k:∀ a' cap' e' w',HS w0 F0 w' F (e0::e'::L)->An T E F a' cap' r e'->RWP P ro n R Q rest (AZ f (A6 R i) (.slice a' r.length cap')) w')
  (hx:fev f (apX (Ag R i))=.slice a l.length cap:=by kernel_rfl) (hy:fev f (apY (Ag R i))=.slice a2 m.length (sC (fev f (apY (Ag R i)))):=by kernel_rfl) (ho:(ung R i&&apK P E T.sz (Ag R i))=true:=by kernel_rfl):RWP P ro n R Q (i::rest) f w:=by
 simp only [Bool.and_eq_true] at ho
 obtain ⟨t,t2,by_,z,e1,he,hb,hni,hz,hzs⟩:=FP ho.2
 have:=A9 ho.1
 rw [e1] at this
 exact RWP.append this rfl hx hy he hb hni hz hzs h1 hs (k:=1) rfl hr hm hap k
theorem St2 {e0 e1:Option Nat×Obj} {b:Nat} {C:Array Value} {E:TypeId} (C':Array Value) (hs:HS w0 F0 w F (e0::e1::(some b,.cells C E (0,0))::L)) (k:∀ w',HS w0 F0 w' F (e0::e1::(some b,.cells C' E (0,0))::L)->RWP P ro n R Q rest f w')
  (hx:fev f (stX (Ag R i))=.pointer (some ⟨b,pO (fev f (stX (Ag R i))),none⟩):=by kernel_rfl) (hC:BG C (pO (fev f (stX (Ag R i)))) (fev f (stY (Ag R i))).cells.toList=C':=by kernel_rfl)
  (ho:(ung R i&&(Hz (Ag R i)&&(C7 P (stT (Ag R i)) (fev f (stY (Ag R i))) (pO (fev f (stX (Ag R i)))) C&&(match A6 R i with | none=>true | some _=>false))))=true:=by kernel_rfl):RWP P ro n R Q (i::rest) f w:=
 Jv (hs.ownAt (k:=2) rfl) (k _ (hs.put (k:=2) rfl _)) hx hC ho
theorem Ap2 {e0 e1:Option Nat×Obj} {a2:VX} (h1:T.One) (hs:HS w0 F0 w F (e0::e1::e::L)) (hr:An T E F a cap l e) (hm:Rd T F w a2 m) {r:List α} (hap:Ci l m=some r)
  (k:∀ a' cap' e' w',HS w0 F0 w' F (e0::e1::e'::L)->An T E F a' cap' r e'->RWP P ro n R Q rest (AZ f (A6 R i) (.slice a' r.length cap')) w')
  (hx:fev f (apX (Ag R i))=.slice a l.length cap:=by kernel_rfl) (hy:fev f (apY (Ag R i))=.slice a2 m.length (sC (fev f (apY (Ag R i)))):=by kernel_rfl) (ho:(ung R i&&apK P E T.sz (Ag R i))=true:=by kernel_rfl):RWP P ro n R Q (i::rest) f w:=by
 simp only [Bool.and_eq_true] at ho
 obtain ⟨t,t2,by_,z,e1,he,hb,hni,hz,hzs⟩:=FP ho.2
 have:=A9 ho.1
 rw [e1] at this
 exact RWP.append this rfl hx hy he hb hni hz hzs h1 hs (k:=2) rfl hr hm hap k
theorem St3 {e0 e1 e2:Option Nat×Obj} {b:Nat} {C:Array Value} {E:TypeId} (C':Array Value) (hs:HS w0 F0 w F (e0::e1::e2::(some b,.cells C E (0,0))::L)) (k:∀ w',HS w0 F0 w' F (e0::e1::e2::(some b,.cells C' E (0,0))::L)->RWP P ro n R Q rest f w')
  (hx:fev f (stX (Ag R i))=.pointer (some ⟨b,pO (fev f (stX (Ag R i))),none⟩):=by kernel_rfl) (hC:BG C (pO (fev f (stX (Ag R i)))) (fev f (stY (Ag R i))).cells.toList=C':=by kernel_rfl)
  (ho:(ung R i&&(Hz (Ag R i)&&(C7 P (stT (Ag R i)) (fev f (stY (Ag R i))) (pO (fev f (stX (Ag R i)))) C&&(match A6 R i with | none=>true | some _=>false))))=true:=by kernel_rfl):RWP P ro n R Q (i::rest) f w:=
 Jv (hs.ownAt (k:=3) rfl) (k _ (hs.put (k:=3) rfl _)) hx hC ho
theorem St5 {e0 e1 e2 e3 e4:Option Nat×Obj} {b:Nat} {C:Array Value} {E:TypeId} (C':Array Value) (hs:HS w0 F0 w F (e0::e1::e2::e3::e4::(some b,.cells C E (0,0))::L)) (k:∀ w',HS w0 F0 w' F (e0::e1::e2::e3::e4::(some b,.cells C' E (0,0))::L)->RWP P ro n R Q rest f w')
  (hx:fev f (stX (Ag R i))=.pointer (some ⟨b,pO (fev f (stX (Ag R i))),none⟩):=by kernel_rfl) (hC:BG C (pO (fev f (stX (Ag R i)))) (fev f (stY (Ag R i))).cells.toList=C':=by kernel_rfl)
  (ho:(ung R i&&(Hz (Ag R i)&&(C7 P (stT (Ag R i)) (fev f (stY (Ag R i))) (pO (fev f (stX (Ag R i)))) C&&(match A6 R i with | none=>true | some _=>false))))=true:=by kernel_rfl):RWP P ro n R Q (i::rest) f w:=
 Jv (hs.ownAt (k:=5) rfl) (k _ (hs.put (k:=5) rfl _)) hx hC ho
theorem Ap5 {e0 e1 e2 e3 e4:Option Nat×Obj} {a2:VX} (h1:T.One) (hs:HS w0 F0 w F (e0::e1::e2::e3::e4::e::L)) (hr:An T E F a cap l e) (hm:Rd T F w a2 m) {r:List α} (hap:Ci l m=some r)
  (k:∀ a' cap' e' w',HS w0 F0 w' F (e0::e1::e2::e3::e4::e'::L)->An T E F a' cap' r e'->RWP P ro n R Q rest (AZ f (A6 R i) (.slice a' r.length cap')) w')
  (hx:fev f (apX (Ag R i))=.slice a l.length cap:=by kernel_rfl) (hy:fev f (apY (Ag R i))=.slice a2 m.length (sC (fev f (apY (Ag R i)))):=by kernel_rfl) (ho:(ung R i&&apK P E T.sz (Ag R i))=true:=by kernel_rfl):RWP P ro n R Q (i::rest) f w:=by
 simp only [Bool.and_eq_true] at ho
 obtain ⟨t,t2,by_,z,e1,he,hb,hni,hz,hzs⟩:=FP ho.2
 have:=A9 ho.1
 rw [e1] at this
 exact RWP.append this rfl hx hy he hb hni hz hzs h1 hs (k:=5) rfl hr hm hap k
theorem St6 {e0 e1 e2 e3 e4 e5:Option Nat×Obj} {b:Nat} {C:Array Value} {E:TypeId} (C':Array Value) (hs:HS w0 F0 w F (e0::e1::e2::e3::e4::e5::(some b,.cells C E (0,0))::L)) (k:∀ w',HS w0 F0 w' F (e0::e1::e2::e3::e4::e5::(some b,.cells C' E (0,0))::L)->RWP P ro n R Q rest f w')
  (hx:fev f (stX (Ag R i))=.pointer (some ⟨b,pO (fev f (stX (Ag R i))),none⟩):=by kernel_rfl) (hC:BG C (pO (fev f (stX (Ag R i)))) (fev f (stY (Ag R i))).cells.toList=C':=by kernel_rfl)
  (ho:(ung R i&&(Hz (Ag R i)&&(C7 P (stT (Ag R i)) (fev f (stY (Ag R i))) (pO (fev f (stX (Ag R i)))) C&&(match A6 R i with | none=>true | some _=>false))))=true:=by kernel_rfl):RWP P ro n R Q (i::rest) f w:=
 Jv (hs.ownAt (k:=6) rfl) (k _ (hs.put (k:=6) rfl _)) hx hC ho
theorem Ap6 {e0 e1 e2 e3 e4 e5:Option Nat×Obj} {a2:VX} (h1:T.One) (hs:HS w0 F0 w F (e0::e1::e2::e3::e4::e5::e::L)) (hr:An T E F a cap l e) (hm:Rd T F w a2 m) {r:List α} (hap:Ci l m=some r)
  (k:∀ a' cap' e' w',HS w0 F0 w' F (e0::e1::e2::e3::e4::e5::e'::L)->An T E F a' cap' r e'->RWP P ro n R Q rest (AZ f (A6 R i) (.slice a' r.length cap')) w')
  (hx:fev f (apX (Ag R i))=.slice a l.length cap:=by kernel_rfl) (hy:fev f (apY (Ag R i))=.slice a2 m.length (sC (fev f (apY (Ag R i)))):=by kernel_rfl) (ho:(ung R i&&apK P E T.sz (Ag R i))=true:=by kernel_rfl):RWP P ro n R Q (i::rest) f w:=by
 simp only [Bool.and_eq_true] at ho
 obtain ⟨t,t2,by_,z,e1,he,hb,hni,hz,hzs⟩:=FP ho.2
 have:=A9 ho.1
 rw [e1] at this
 exact RWP.append this rfl hx hy he hb hni hz hzs h1 hs (k:=6) rfl hr hm hap k
theorem St7 {e0 e1 e2 e3 e4 e5 e6:Option Nat×Obj} {b:Nat} {C:Array Value} {E:TypeId} (C':Array Value) (hs:HS w0 F0 w F (e0::e1::e2::e3::e4::e5::e6::(some b,.cells C E (0,0))::L)) (k:∀ w',HS w0 F0 w' F (e0::e1::e2::e3::e4::e5::e6::(some b,.cells C' E (0,0))::L)->RWP P ro n R Q rest f w')
  (hx:fev f (stX (Ag R i))=.pointer (some ⟨b,pO (fev f (stX (Ag R i))),none⟩):=by kernel_rfl) (hC:BG C (pO (fev f (stX (Ag R i)))) (fev f (stY (Ag R i))).cells.toList=C':=by kernel_rfl)
  (ho:(ung R i&&(Hz (Ag R i)&&(C7 P (stT (Ag R i)) (fev f (stY (Ag R i))) (pO (fev f (stX (Ag R i)))) C&&(match A6 R i with | none=>true | some _=>false))))=true:=by kernel_rfl):RWP P ro n R Q (i::rest) f w:=
 Jv (hs.ownAt (k:=7) rfl) (k _ (hs.put (k:=7) rfl _)) hx hC ho
end
section
variable {P : Program} {n : Nat} {R : Array Oper} {Q : Exit -> Fr -> World -> Prop} {PQ : List PanicEntry -> List Deferred -> World -> Prop} {Post : Fr -> World -> Prop} {z fuel : Nat} {Sw : Bool -> World -> Prop} {i : Nat} {f : Fr} {w w' w0 : World} {F0 F Fs : Mem} {l : List Bool} {L Lc Lz : List (Option Nat × Obj)} {e : Option Nat × Obj}
def rdy (R:Array Oper) (z i:Nat) (l:List Bool):Bool:=Region.free .any R l.toArray i&&((Region.ready .any R l.toArray).contains i&&HF R z i)
def dvf (P:Program) (R:Array Oper):List Nat->Fr->Fr
 | [],f=>f
 | i::is,f=>dvf P R is (AZ f (A6 R i) ((pv P (fev f) (Ag R i)).getD undef))
def dvl:List Nat->List Bool->List Bool
 | [],l=>l
 | i::is,l=>dvl is (l.set i true)
def SD (P:Program) (R:Array Oper) (z:Nat):List Nat->List Bool->Fr->Bool
 | [],_,_=>true
 | i::is,l,f=>ung R i&&(isS (pv P (fev f) (Ag R i))&&(rdy R z i l&&SD P R z is (l.set i true) (AZ f (A6 R i) ((pv P (fev f) (Ag R i)).getD undef))))
theorem SU:∀ (is:List Nat) {l:List Bool} {f:Fr} {fuel:Nat},DWP P n R PQ Post z Sw fuel (dvl is l) (dvf P R is f) w->SD P R z is l f=true->DWP P n R PQ Post z Sw (fuel + is.length) l f w
 | [],_,_,_,k,_=>k
 | i::is,l,f,fuel,k,h=>by
  simp only [SD,rdy,Bool.and_eq_true] at h
  obtain ⟨h1,h2,⟨h3,h4,h5⟩,h6⟩:=h
  exact DWP.take (A9 h1) h3 h4 h5 rfl rfl (fun _ _=>NX (HV h2)) rfl (SU is k h6)
theorem Dv (is:List Nat) {fu:Nat} (k:DWP P n R PQ Post z Sw (fu - is.length) (dvl is l) (dvf P R is f) w) (h:SD P R z is l f=true:=by kernel_rfl) (hfu:Nat.beq fu ((fu - is.length) + is.length)=true:=by kernel_rfl):DWP P n R PQ Post z Sw fu l f w:=by
 have:=Nat.eq_of_beq_eq_true hfu;rw [this]
 exact SU is k h
theorem Dvl (is:List Nat) (l':List Bool) {fu:Nat} (k:DWP P n R PQ Post z Sw (fu - is.length) l' (dvf P R is f) w) (h:SD P R z is l f=true:=by kernel_rfl) (hl:dvl is l=l':=by kernel_rfl) (hfu:Nat.beq fu ((fu - is.length) + is.length)=true:=by kernel_rfl):DWP P n R PQ Post z Sw fu l f w:=by
 subst hl;exact Dv is k h hfu
theorem DWP.tk {v:Value} (i:Nat) {fu:Nat} (hy:∀ w',Sw (l.toArray.getD z true) w'->(Ak (fev f) (Ag R i) (Fo R i)).run P w'=.ok (.value v) w') (k:DWP P n R PQ Post z Sw (fu - 1) (l.set i true) (AZ f (A6 R i) v) w) (ho:ung R i=true) (hr:rdy R z i l=true)
  (hfu:Nat.beq fu ((fu - 1) + 1)=true):DWP P n R PQ Post z Sw fu l f w:=by
 simp only [rdy,Bool.and_eq_true] at hr
 have:=Nat.eq_of_beq_eq_true hfu;rw [this]
 exact DWP.take (A9 ho) hr.1 hr.2.1 hr.2.2 rfl rfl hy rfl k
theorem Dl (i:Nat) {fu b:Nat} {C:Array Value} {E:TypeId} {fz:Nat×Nat} (hp:∀ w',Sw (l.toArray.getD z true) w'->w'.heap[b]? =some (.cells C E fz)) (k:DWP P n R PQ Post z Sw (fu - 1) (l.set i true) (AZ f (A6 R i) (ldV P (ldT (Ag R i)) C (pO (fev f (ldX (Ag R i)))))) w)
  (hx:fev f (ldX (Ag R i))=.pointer (some ⟨b,pO (fev f (ldX (Ag R i))),none⟩):=by kernel_rfl) (ho:(ung R i&&(O0 (Ag R i)&&ldK P (ldT (Ag R i)) C (pO (fev f (ldX (Ag R i))))))=true:=by kernel_rfl) (hr:rdy R z i l=true:=by kernel_rfl)
  (hfu:Nat.beq fu ((fu - 1) + 1)=true:=by kernel_rfl):DWP P n R PQ Post z Sw fu l f w:=by
 simp only [Bool.and_eq_true] at ho
 refine DWP.tk i (fun w' hw=>?_) k ho.1 hr hfu
 have:=Fz ho.2.1
 rw [this];exact PI hx (hp w' hw) ho.2.2
theorem Dx (i j:Nat) {fu b o kk:Nat} {C:Array Value} {E:TypeId} {fz:Nat×Nat} {cs:List Value} (hp:∀ w',Sw (l.toArray.getD z true) w'->w'.heap[b]? =some (.cells C E fz)) (hc:Am C o kk=cs) (k:DWP P n R PQ Post z Sw (fu - 1) (l.set i true) (AZ f (A6 R i) (lxV P (ldT (Ag R i)) cs j)) w)
  (hx:fev f (ldX (Ag R i))=.pointer (some ⟨b,o + j,none⟩):=by kernel_rfl) (ho:(ung R i&&(O0 (Ag R i)&&lxK P (ldT (Ag R i)) cs j kk))=true:=by kernel_rfl) (hr:rdy R z i l=true:=by kernel_rfl)
  (hfu:Nat.beq fu ((fu - 1) + 1)=true:=by kernel_rfl):DWP P n R PQ Post z Sw fu l f w:=by
 simp only [Bool.and_eq_true] at ho
 refine DWP.tk i (fun w' hw=>?_) k ho.1 hr hfu
 have:=Fz ho.2.1
 rw [this];exact PG hx (hp w' hw) hc ho.2.2
theorem Di (i:Nat) {fu m:Nat} {q:Int} (hi:0<=q/\q < (m:Int)) (k:DWP P n R PQ Post z Sw (fu - 1) (l.set i true) (AZ f (A6 R i) (.pointer (some ⟨sB (fev f (ixX (Ag R i))),sO (fev f (ixX (Ag R i))) + q.toNat * elS P (ixT (Ag R i)),none⟩))) w)
  (hx:fev f (ixX (Ag R i))=.slice (some ⟨sB (fev f (ixX (Ag R i))),sO (fev f (ixX (Ag R i))),none⟩) m (sC (fev f (ixX (Ag R i)))):=by kernel_rfl) (hy:fev f (ixY (Ag R i))=.int (iK (fev f (ixY (Ag R i)))) q:=by kernel_rfl)
  (ho:(ung R i&&(O1 (Ag R i)&&slQ P (ixT (Ag R i))))=true:=by kernel_rfl) (hr:rdy R z i l=true:=by kernel_rfl) (hfu:Nat.beq fu ((fu - 1) + 1)=true:=by kernel_rfl):DWP P n R PQ Post z Sw fu l f w:=by
 simp only [Bool.and_eq_true] at ho
 refine DWP.tk i (fun w' hw=>?_) k ho.1 hr hfu
 have e:=FA ho.2.1
 have:=RR (P:=P) (w:=w') (ty:=Fo R i) hi hx hy ho.2.2
 rw [<-e] at this;exact this
theorem Dj (i:Nat) {fu m:Nat} {q:Int} (hi:0<=q/\q < (m:Int)) (k:DWP P n R PQ Post z Sw (fu - 1) (l.set i true) (AZ f (A6 R i) (.pointer (some ⟨sB (fev f (ixX (Ag R i))),q.toNat * elS P (ixT (Ag R i)),none⟩))) w)
  (hx:fev f (ixX (Ag R i))=.slice (some ⟨sB (fev f (ixX (Ag R i))),0,none⟩) m (sC (fev f (ixX (Ag R i)))):=by kernel_rfl) (hy:fev f (ixY (Ag R i))=.int (iK (fev f (ixY (Ag R i)))) q:=by kernel_rfl)
  (ho:(ung R i&&(O1 (Ag R i)&&slQ P (ixT (Ag R i))))=true:=by kernel_rfl) (hr:rdy R z i l=true:=by kernel_rfl) (hfu:Nat.beq fu ((fu - 1) + 1)=true:=by kernel_rfl):DWP P n R PQ Post z Sw fu l f w:=by
 simp only [Bool.and_eq_true] at ho
 refine DWP.tk i (fun w' hw=>?_) k ho.1 hr hfu
 have e:=FA ho.2.1
 have:=Qh (P:=P) (w:=w') (ty:=Fo R i) hi hx hy ho.2.2
 rw [<-e] at this;exact this
theorem D1 (i:Nat) {fu:Nat} (h:Au P n R PQ Post z Sw (fu - 1) l i f w) (hr:Region.ready .any R l.toArray=[i]:=by kernel_rfl) (hfu:Nat.beq fu ((fu - 1) + 1)=true:=by kernel_rfl):DWP P n R PQ Post z Sw fu l f w:=by
 have:=Nat.eq_of_beq_eq_true hfu;rw [this]
 exact DWP.one hr h
theorem zdT {zd:Bool} {A:Prop} (h:zd=true):zd=false->A:=fun e=>by rw [h] at e;cases e
theorem DCl {fid:FuncId} {args:List Value} {post:Mem->Value->Prop} (hok:Af P fid) (hs:HS w0 F0 w F L) (hc:Calls P fid args.toArray w (AF w F post))
  (k:∀ v F1 w1,HS w0 F0 w1 F1 L->Vx F F1->post F1 v->DWP P n R PQ Post z (DZ Fs Lc Lz) fuel (l.set i true) (AZ f (A6 R i) v) w1) (ha:clV f (Ag R i)=some (fid,args):=by kernel_rfl) (ho:ung R i=true:=by kernel_rfl)
  (hz:((l.set i true).toArray.getD z true==l.toArray.getD z true)=true:=by kernel_rfl):Au P n R PQ Post z (DZ Fs Lc Lz) fuel l i f w:=by
 cases e:Ag R i with
 | call c=>
  obtain ⟨callee,aos,ats⟩:=c
  have ho':=A9 ho
  rw [e] at ha ho'
  unfold clV at ha
  simp only at ha
  split at ha
  ·split at ha
   ·rename_i hf
    simp only [Option.some.injEq,Prod.mk.injEq] at ha
    obtain ⟨rfl,rfl⟩:=ha
    exact VJ rfl (by simpa using hz) rfl ho' rfl hf hok rfl hs hc k
   ·cases ha
  ·cases ha
 | _=>rw [e] at ha;simp [clV] at ha
theorem DBs (E:TypeId) (cs:List Value) (hs:HS w0 F0 w F L) (hle:Vx Fs F) (k:∀ b w',HS w0 F0 w' F ((some b,.cells cs.toArray E (0,0))::L)->DWP P n R PQ Post z (DZ Fs Lc Lz) fuel (l.set i true) (AZ f (A6 R i) (.slice (some ⟨b,0,none⟩) (bsL (Ag R i)) (bsL (Ag R i)))) w')
  (hb:bsV P f (Ag R i)=some (E,cs):=by kernel_rfl) (ho:ung R i=true:=by kernel_rfl) (hL:∀ p,p∈Lc->p∈L:=by simp) (hLz:(l.set i true).toArray.getD z true=false->∀ p,p∈Lz->p∈L:=by first | (intro _;simp;done) | exact zdT (by kernel_rfl)):Au P n R PQ Post z (DZ Fs Lc Lz) fuel l i f w:=by
 have:=A9 ho
 cases e:Ag R i with
 | buildSlice t len parts=>
  rw [e] at hb this k
  exact Au.buildSlice rfl rfl this rfl rfl hb hs hle hL hLz k
 | _=>rw [e] at hb;simp [bsV] at hb
theorem DAl (t:TypeId) (C:Array Value) (hs:HS w0 F0 w F L) (hle:Vx Fs F) (k:∀ b w',HS w0 F0 w' F ((some b,.cells C t (0,0))::L)->DWP P n R PQ Post z (DZ Fs Lc Lz) fuel (l.set i true) (AZ f (A6 R i) (.pointer (some ⟨b,0,none⟩))) w')
  (hC:(Bp P t).map Value.cells=some C:=by kernel_rfl) (ho:(ung R i&&TB t (Ag R i))=true:=by kernel_rfl) (hL:∀ p,p∈Lc->p∈L:=by simp) (hLz:(l.set i true).toArray.getD z true=false->∀ p,p∈Lz->p∈L:=by first | (intro _;simp;done) | exact zdT (by kernel_rfl)):Au P n R PQ Post z (DZ Fs Lc Lz) fuel l i f w:=by
 simp only [Bool.and_eq_true] at ho
 cases hz:Bp P t with
 | none=>rw [hz] at hC;cases hC
 | some z=>
  rw [hz] at hC;simp only [Option.map_some,Option.some.injEq] at hC
  have e:=NA ho.2
  have:=A9 ho.1
  rw [e] at this
  exact Au.alloc rfl rfl this rfl hz hC hs hle hL hLz k
theorem DBx (t:TypeId) (C:Array Value) (hs:HS w0 F0 w F L) (hle:Vx Fs F) (k:∀ b w',HS w0 F0 w' F ((some b,.cells C t (0,0))::L)->DWP P n R PQ Post z (DZ Fs Lc Lz) fuel (l.set i true) (AZ f (A6 R i) (.pointer (some ⟨b,0,none⟩))) w')
  (hC:(fev f (bxX (Ag R i))).cells=C:=by kernel_rfl) (ho:(ung R i&&TA t (Ag R i))=true:=by kernel_rfl) (hL:∀ p,p∈Lc->p∈L:=by simp) (hLz:(l.set i true).toArray.getD z true=false->∀ p,p∈Lz->p∈L:=by first | (intro _;simp;done) | exact zdT (by kernel_rfl)):Au P n R PQ Post z (DZ Fs Lc Lz) fuel l i f w:=by
 simp only [Bool.and_eq_true] at ho
 have e:=Nz ho.2
 have:=A9 ho.1
 rw [e] at this
 exact Au.box rfl rfl this rfl rfl hC hs hle hL hLz k
theorem DCB {fid:FuncId} {args:List Value} {wb:World} {Fb:Mem} {post:Mem->Value->Own->Prop} (hok:Af P fid) (hc:Calls P fid args.toArray w (ED wb Fb F post))
  (k:∀ v F1 w1 L',HS wb Fb w1 F1 L'->Vx F F1->post F1 v L'->DZ Fs Lc Lz ((l.set i true).toArray.getD z true) w1/\DWP P n R PQ Post z (DZ Fs Lc Lz) fuel (l.set i true) (AZ f (A6 R i) v) w1) (ha:clV f (Ag R i)=some (fid,args):=by kernel_rfl) (ho:ung R i=true:=by kernel_rfl):Au P n R PQ Post z (DZ Fs Lc Lz) fuel l i f w:=by
 cases e:Ag R i with
 | call c=>
  obtain ⟨callee,aos,ats⟩:=c
  have ho':=A9 ho
  rw [e] at ha ho'
  unfold clV at ha
  simp only at ha
  split at ha
  ·split at ha
   ·rename_i hf
    simp only [Option.some.injEq,Prod.mk.injEq] at ha
    obtain ⟨rfl,rfl⟩:=ha
    exact Au.callB rfl rfl ho' rfl hf hok rfl hc k
   ·cases ha
  ·cases ha
 | _=>rw [e] at ha;simp [clV] at ha
def fls:Nat->List Bool
 | 0=>[]
 | n + 1=>false::fls n
variable {c : Code}
def Tm (R:Array Oper):Bool:=R.all fun o=>!LS o.op
def T2 (P:Program) (n m:Nat) (c:Code):Bool:=Nat.beq (kin c) 2&&(okR n (Ks c)&&(Region.noSelect (Ks c)&&(Tm (Ks c)&&Nat.beq (Ks c).size m)))
theorem Um:∀ n,Array.replicate n false=(fls n).toArray:=fun n=>by
 have:List.replicate n false=fls n:=by induction n with
  | zero=>rfl
  | succ n ih=>rw [List.replicate_succ,ih];rfl
 rw [<-this];simp
theorem Ti {R:Array Oper} (hd:Tm R=true) (ro:Option Nat) {Q:Exit->Act->World->Prop} {i:Nat} {K K':Act->World->Prop} (hK:∀ a w,K a w->K' a w) {a:Act} {w:World} (h:wpOpIn (FW none) 0 P R Q i K a w):wpOpIn (FW ro) 0 P R Q i K' a w:=by
 have h:=wpOpIn_mono hK h
 unfold wpOpIn at h ⊢
 cases ho:R[i]? with
 | none=>simp only [ho] at h ⊢;exact h
 | some o=>
  simp only [ho] at h ⊢
  split
  ·rename_i hw
   simp only [hw,if_true] at h
   have hi:i < R.size:=by
    rcases Nat.lt_or_ge i R.size with h' | h'
    ·exact h'
    ·simp [Array.getElem?_eq_none h'] at ho
   have hnd:LS o.op=false:=by
    unfold Tm at hd
    rw [Array.all_eq_true] at hd
    have:=hd i hi
    have e:R[i]=o:=by simpa [Array.getElem?_eq_getElem hi] using ho
    rw [e] at this;simpa using this
   unfold Oper.wpIn at h ⊢
   refine ⟨fun _ _=>trivial,?_⟩
   have e:∀ r,Oper.semAt r a.eval o=execOp a.eval o:=fun r=>HH hnd r a.eval o rfl
   have h2:=h.2
   rw [e] at h2 ⊢
   exact h2
  ·rename_i hw
   simp only [hw,if_false] at h
   exact ⟨fun _ _=>trivial,h.2⟩
theorem SM {R:Array Oper} (hd:Tm R=true) (ro:Option Nat) {Q:Exit->Act->World->Prop}:∀ (fuel:Nat) (l:Array Bool) (a:Act) (w:World),wpAnyIn (FW none) 0 P .any R Q fuel l a w->wpAnyIn (FW ro) 0 P .any R Q fuel l a w
 | 0,_,_,_,h=>h
 | fuel + 1,_,_,_,h=>⟨h.1,fun i hi=>Ti hd ro (fun a w=>SM hd ro fuel _ a w) (h.2 i hi)⟩
variable {ro : Option Nat}
theorem RDP (z m:Nat) (Lc Lz:List (Option Nat×Obj)) (hs:HS w0 F0 w F L) (PQ:List PanicEntry->List Deferred->World->Prop) (Post:Fr->World->Prop)
  (h:∀ w',HS w0 F0 w' F L->DWP P n (Ks c) PQ Post z (DZ F Lc Lz) m (fls m) f w') (k:∀ f w,Post f w->Q .normal f w) (kp:∀ c f w,PQ c f.d w->Q (.panic c) f w) (hm:P.follows .mixedOrders=true:=by kernel_rfl) (ho:T2 P n m c=true:=by kernel_rfl) (hc:∀ p,p∈Lc->p∈L:=by simp) (hz:∀ p,p∈Lz->p∈L:=by simp):CWP P ro n c Q f w:=by
 simp only [T2,Bool.and_eq_true] at ho
 obtain ⟨hk,hok,hns,hnd,hfu⟩:=ho
 replace hk:=Nat.eq_of_beq_eq_true hk
 replace hfu:=Nat.eq_of_beq_eq_true hfu
 subst hfu
 cases c <;> simp [kin] at hk
 rename_i id ops d
 cases d <;> simp [kin] at hk
 intro a ha
 have hs':HS w0 F0 {w with drawn:=w.drawn + 1} F L:=hs.heap rfl
 refine wpIn_mono (wpIn_region_any hm (SM hnd ro _ _ _ _ (LW (z:=z) (S:=DZ F Lc Lz) _ _ _ _ ?_))) (Q:=lq n (nq PQ Post)) ?_
 ·simp only [Ks] at *
  rw [Um]
  exact h _ hs' hok hns (A4 hs' (Vy F) hc fun _=>hz) a ha
 ·rintro e a w ⟨f,hf,hP⟩
  cases e with
  | normal=>exact ⟨f,hf,k _ _ hP⟩
  | panic c=>exact ⟨f,hf,kp _ _ _ hP⟩
  | _=>exact hP.elim
theorem RD (z m:Nat) (Lc Lz:List (Option Nat×Obj)) (hs:HS w0 F0 w F L) (Post:Fr->World->Prop)
  (h:∀ w',HS w0 F0 w' F L->DWP P n (Ks c) (fun _ _ _=>False) Post z (DZ F Lc Lz) m (fls m) f w') (k:∀ f w,Post f w->Q .normal f w) (hm:P.follows .mixedOrders=true:=by kernel_rfl) (ho:T2 P n m c=true:=by kernel_rfl) (hc:∀ p,p∈Lc->p∈L:=by simp) (hz:∀ p,p∈Lz->p∈L:=by simp):CWP P ro n c Q f w:=
 RDP z m Lc Lz hs (fun _ _ _=>False) Post h k (fun _ _ _ h=>h.elim) hm ho hc hz
variable {α : Type} {T : Ty α} {E : TypeId} {a : VX} {cap : Nat} {ls m : List α}
theorem GE {b:Nat} {C:Array Value} {E:TypeId} (C':Array Value) (hs:HS w0 F0 w F ((some b,.cells C E (0,0))::L)) (hle:Vx Fs F) (k:∀ w',HS w0 F0 w' F ((some b,.cells C' E (0,0))::L)->DWP P n R PQ Post z (DZ Fs Lc Lz) fuel (l.set i true) f w')
  (hx:fev f (stX (Ag R i))=.pointer (some ⟨b,pO (fev f (stX (Ag R i))),none⟩):=by kernel_rfl) (hC:BG C (pO (fev f (stX (Ag R i)))) (fev f (stY (Ag R i))).cells.toList=C':=by kernel_rfl)
  (ho:(ung R i&&(Hz (Ag R i)&&(C7 P (stT (Ag R i)) (fev f (stY (Ag R i))) (pO (fev f (stX (Ag R i)))) C&&(match A6 R i with | none=>true | some _=>false))))=true:=by kernel_rfl)
  (hL:∀ p,p∈Lc->p∈(some b,.cells C' E (0,0))::L:=by simp) (hLz:(l.set i true).toArray.getD z true=false->∀ p,p∈Lz->p∈(some b,.cells C' E (0,0))::L:=by first | (intro _;simp;done) | exact zdT (by kernel_rfl)):Au P n R PQ Post z (DZ Fs Lc Lz) fuel l i f w:=by
 simp only [Bool.and_eq_true] at ho
 obtain ⟨h1,h2,h3,h4⟩:=ho
 have e:=DD h2
 have:=A9 h1
 cases hd:A6 R i with
 | some d=>rw [hd] at h4;cases h4
 | none=>
  rw [hd] at this
  have hp:=hs.put (k:=0) rfl (.cells C' E (0,0))
  refine VI rfl rfl this rfl ?_ (A4 hp hle hL hLz) (k _ hp)
  have hr:=G2 (P:=P) (ty:=Fo R i) (w:=w) hx (hs.ownAt (k:=0) rfl) h3 hC
  rw [<-e] at hr;exact hr
theorem KK {e0:Option Nat×Obj} {b:Nat} {C:Array Value} {E:TypeId} (C':Array Value) (hs:HS w0 F0 w F (e0::(some b,.cells C E (0,0))::L)) (hle:Vx Fs F) (k:∀ w',HS w0 F0 w' F (e0::(some b,.cells C' E (0,0))::L)->DWP P n R PQ Post z (DZ Fs Lc Lz) fuel (l.set i true) f w')
  (hx:fev f (stX (Ag R i))=.pointer (some ⟨b,pO (fev f (stX (Ag R i))),none⟩):=by kernel_rfl) (hC:BG C (pO (fev f (stX (Ag R i)))) (fev f (stY (Ag R i))).cells.toList=C':=by kernel_rfl)
  (ho:(ung R i&&(Hz (Ag R i)&&(C7 P (stT (Ag R i)) (fev f (stY (Ag R i))) (pO (fev f (stX (Ag R i)))) C&&(match A6 R i with | none=>true | some _=>false))))=true:=by kernel_rfl)
  (hL:∀ p,p∈Lc->p∈e0::(some b,.cells C' E (0,0))::L:=by simp) (hLz:(l.set i true).toArray.getD z true=false->∀ p,p∈Lz->p∈e0::(some b,.cells C' E (0,0))::L:=by first | (intro _;simp;done) | exact zdT (by kernel_rfl)):Au P n R PQ Post z (DZ Fs Lc Lz) fuel l i f w:=by
 simp only [Bool.and_eq_true] at ho
 obtain ⟨h1,h2,h3,h4⟩:=ho
 have e:=DD h2
 have:=A9 h1
 cases hd:A6 R i with
 | some d=>rw [hd] at h4;cases h4
 | none=>
  rw [hd] at this
  have hp:=hs.put (k:=1) rfl (.cells C' E (0,0))
  refine VI rfl rfl this rfl ?_ (A4 hp hle hL hLz) (k _ hp)
  have hr:=G2 (P:=P) (ty:=Fo R i) (w:=w) hx (hs.ownAt (k:=1) rfl) h3 hC
  rw [<-e] at hr;exact hr
theorem Uy {e0:Option Nat×Obj} {a2:VX} (h1:T.One) (hs:HS w0 F0 w F (e0::e::L)) (hr:An T E F a cap ls e) (hm:Rd T F w a2 m) {r:List α} (hap:Ci ls m=some r) (hle:Vx Fs F)
  (k:∀ a' cap' e' w',HS w0 F0 w' F (e0::e'::L)->An T E F a' cap' r e'->DWP P n R PQ Post z (DZ Fs Lc Lz) fuel (l.set i true) (AZ f (A6 R i) (.slice a' r.length cap')) w')
  (hx:fev f (apX (Ag R i))=.slice a ls.length cap:=by kernel_rfl) (hy:fev f (apY (Ag R i))=.slice a2 m.length (sC (fev f (apY (Ag R i)))):=by kernel_rfl) (ho:(ung R i&&apK P E T.sz (Ag R i))=true:=by kernel_rfl)
  (hL:∀ e' p,p∈Lc->p∈e0::e'::L:=by (intro _;simp)) (hLz:(l.set i true).toArray.getD z true=false->∀ e' p,p∈Lz->p∈e0::e'::L:=by first | (intro _ _;simp;done) | exact zdT (by kernel_rfl)):Au P n R PQ Post z (DZ Fs Lc Lz) fuel l i f w:=by
 simp only [Bool.and_eq_true] at ho
 obtain ⟨t,t2,by_,zz,e1,he,hb,hni,hz,hzs⟩:=FP ho.2
 have:=A9 ho.1
 rw [e1] at this
 exact Au.append rfl rfl this rfl hx hy he hb hni hz hzs h1 hs (k:=1) rfl hr hm hap hle hL hLz k
theorem Nh {e0 e1:Option Nat×Obj} {b:Nat} {C:Array Value} {E:TypeId} (C':Array Value) (hs:HS w0 F0 w F (e0::e1::(some b,.cells C E (0,0))::L)) (hle:Vx Fs F) (k:∀ w',HS w0 F0 w' F (e0::e1::(some b,.cells C' E (0,0))::L)->DWP P n R PQ Post z (DZ Fs Lc Lz) fuel (l.set i true) f w')
  (hx:fev f (stX (Ag R i))=.pointer (some ⟨b,pO (fev f (stX (Ag R i))),none⟩):=by kernel_rfl) (hC:BG C (pO (fev f (stX (Ag R i)))) (fev f (stY (Ag R i))).cells.toList=C':=by kernel_rfl)
  (ho:(ung R i&&(Hz (Ag R i)&&(C7 P (stT (Ag R i)) (fev f (stY (Ag R i))) (pO (fev f (stX (Ag R i)))) C&&(match A6 R i with | none=>true | some _=>false))))=true:=by kernel_rfl)
  (hL:∀ p,p∈Lc->p∈e0::e1::(some b,.cells C' E (0,0))::L:=by simp) (hLz:(l.set i true).toArray.getD z true=false->∀ p,p∈Lz->p∈e0::e1::(some b,.cells C' E (0,0))::L:=by first | (intro _;simp;done) | exact zdT (by kernel_rfl)):Au P n R PQ Post z (DZ Fs Lc Lz) fuel l i f w:=by
 simp only [Bool.and_eq_true] at ho
 obtain ⟨h1,h2,h3,h4⟩:=ho
 have e:=DD h2
 have:=A9 h1
 cases hd:A6 R i with
 | some d=>rw [hd] at h4;cases h4
 | none=>
  rw [hd] at this
  have hp:=hs.put (k:=2) rfl (.cells C' E (0,0))
  refine VI rfl rfl this rfl ?_ (A4 hp hle hL hLz) (k _ hp)
  have hr:=G2 (P:=P) (ty:=Fo R i) (w:=w) hx (hs.ownAt (k:=2) rfl) h3 hC
  rw [<-e] at hr;exact hr
theorem TN {e0 e1 e2:Option Nat×Obj} {b:Nat} {C:Array Value} {E:TypeId} (C':Array Value) (hs:HS w0 F0 w F (e0::e1::e2::(some b,.cells C E (0,0))::L)) (hle:Vx Fs F) (k:∀ w',HS w0 F0 w' F (e0::e1::e2::(some b,.cells C' E (0,0))::L)->DWP P n R PQ Post z (DZ Fs Lc Lz) fuel (l.set i true) f w')
  (hx:fev f (stX (Ag R i))=.pointer (some ⟨b,pO (fev f (stX (Ag R i))),none⟩):=by kernel_rfl) (hC:BG C (pO (fev f (stX (Ag R i)))) (fev f (stY (Ag R i))).cells.toList=C':=by kernel_rfl)
  (ho:(ung R i&&(Hz (Ag R i)&&(C7 P (stT (Ag R i)) (fev f (stY (Ag R i))) (pO (fev f (stX (Ag R i)))) C&&(match A6 R i with | none=>true | some _=>false))))=true:=by kernel_rfl)
  (hL:∀ p,p∈Lc->p∈e0::e1::e2::(some b,.cells C' E (0,0))::L:=by simp) (hLz:(l.set i true).toArray.getD z true=false->∀ p,p∈Lz->p∈e0::e1::e2::(some b,.cells C' E (0,0))::L:=by first | (intro _;simp;done) | exact zdT (by kernel_rfl)):Au P n R PQ Post z (DZ Fs Lc Lz) fuel l i f w:=by
 simp only [Bool.and_eq_true] at ho
 obtain ⟨h1,h2,h3,h4⟩:=ho
 have e:=DD h2
 have:=A9 h1
 cases hd:A6 R i with
 | some d=>rw [hd] at h4;cases h4
 | none=>
  rw [hd] at this
  have hp:=hs.put (k:=3) rfl (.cells C' E (0,0))
  refine VI rfl rfl this rfl ?_ (A4 hp hle hL hLz) (k _ hp)
  have hr:=G2 (P:=P) (ty:=Fo R i) (w:=w) hx (hs.ownAt (k:=3) rfl) h3 hC
  rw [<-e] at hr;exact hr
theorem Vr {e0 e1 e2:Option Nat×Obj} {a2:VX} (h1:T.One) (hs:HS w0 F0 w F (e0::e1::e2::e::L)) (hr:An T E F a cap ls e) (hm:Rd T F w a2 m) {r:List α} (hap:Ci ls m=some r) (hle:Vx Fs F)
  (k:∀ a' cap' e' w',HS w0 F0 w' F (e0::e1::e2::e'::L)->An T E F a' cap' r e'->DWP P n R PQ Post z (DZ Fs Lc Lz) fuel (l.set i true) (AZ f (A6 R i) (.slice a' r.length cap')) w')
  (hx:fev f (apX (Ag R i))=.slice a ls.length cap:=by kernel_rfl) (hy:fev f (apY (Ag R i))=.slice a2 m.length (sC (fev f (apY (Ag R i)))):=by kernel_rfl) (ho:(ung R i&&apK P E T.sz (Ag R i))=true:=by kernel_rfl)
  (hL:∀ e' p,p∈Lc->p∈e0::e1::e2::e'::L:=by (intro _;simp)) (hLz:(l.set i true).toArray.getD z true=false->∀ e' p,p∈Lz->p∈e0::e1::e2::e'::L:=by first | (intro _ _;simp;done) | exact zdT (by kernel_rfl)):Au P n R PQ Post z (DZ Fs Lc Lz) fuel l i f w:=by
 simp only [Bool.and_eq_true] at ho
 obtain ⟨t,t2,by_,zz,e1,he,hb,hni,hz,hzs⟩:=FP ho.2
 have:=A9 ho.1
 rw [e1] at this
 exact Au.append rfl rfl this rfl hx hy he hb hni hz hzs h1 hs (k:=3) rfl hr hm hap hle hL hLz k
theorem U5 {e0 e1 e2 e3:Option Nat×Obj} {b:Nat} {C:Array Value} {E:TypeId} (C':Array Value) (hs:HS w0 F0 w F (e0::e1::e2::e3::(some b,.cells C E (0,0))::L)) (hle:Vx Fs F) (k:∀ w',HS w0 F0 w' F (e0::e1::e2::e3::(some b,.cells C' E (0,0))::L)->DWP P n R PQ Post z (DZ Fs Lc Lz) fuel (l.set i true) f w')
  (hx:fev f (stX (Ag R i))=.pointer (some ⟨b,pO (fev f (stX (Ag R i))),none⟩):=by kernel_rfl) (hC:BG C (pO (fev f (stX (Ag R i)))) (fev f (stY (Ag R i))).cells.toList=C':=by kernel_rfl)
  (ho:(ung R i&&(Hz (Ag R i)&&(C7 P (stT (Ag R i)) (fev f (stY (Ag R i))) (pO (fev f (stX (Ag R i)))) C&&(match A6 R i with | none=>true | some _=>false))))=true:=by kernel_rfl)
  (hL:∀ p,p∈Lc->p∈e0::e1::e2::e3::(some b,.cells C' E (0,0))::L:=by simp) (hLz:(l.set i true).toArray.getD z true=false->∀ p,p∈Lz->p∈e0::e1::e2::e3::(some b,.cells C' E (0,0))::L:=by first | (intro _;simp;done) | exact zdT (by kernel_rfl)):Au P n R PQ Post z (DZ Fs Lc Lz) fuel l i f w:=by
 simp only [Bool.and_eq_true] at ho
 obtain ⟨h1,h2,h3,h4⟩:=ho
 have e:=DD h2
 have:=A9 h1
 cases hd:A6 R i with
 | some d=>rw [hd] at h4;cases h4
 | none=>
  rw [hd] at this
  have hp:=hs.put (k:=4) rfl (.cells C' E (0,0))
  refine VI rfl rfl this rfl ?_ (A4 hp hle hL hLz) (k _ hp)
  have hr:=G2 (P:=P) (ty:=Fo R i) (w:=w) hx (hs.ownAt (k:=4) rfl) h3 hC
  rw [<-e] at hr;exact hr
theorem Rz {e0 e1 e2 e3 e4:Option Nat×Obj} {b:Nat} {C:Array Value} {E:TypeId} (C':Array Value) (hs:HS w0 F0 w F (e0::e1::e2::e3::e4::(some b,.cells C E (0,0))::L)) (hle:Vx Fs F) (k:∀ w',HS w0 F0 w' F (e0::e1::e2::e3::e4::(some b,.cells C' E (0,0))::L)->DWP P n R PQ Post z (DZ Fs Lc Lz) fuel (l.set i true) f w')
  (hx:fev f (stX (Ag R i))=.pointer (some ⟨b,pO (fev f (stX (Ag R i))),none⟩):=by kernel_rfl) (hC:BG C (pO (fev f (stX (Ag R i)))) (fev f (stY (Ag R i))).cells.toList=C':=by kernel_rfl)
  (ho:(ung R i&&(Hz (Ag R i)&&(C7 P (stT (Ag R i)) (fev f (stY (Ag R i))) (pO (fev f (stX (Ag R i)))) C&&(match A6 R i with | none=>true | some _=>false))))=true:=by kernel_rfl)
  (hL:∀ p,p∈Lc->p∈e0::e1::e2::e3::e4::(some b,.cells C' E (0,0))::L:=by simp) (hLz:(l.set i true).toArray.getD z true=false->∀ p,p∈Lz->p∈e0::e1::e2::e3::e4::(some b,.cells C' E (0,0))::L:=by first | (intro _;simp;done) | exact zdT (by kernel_rfl)):Au P n R PQ Post z (DZ Fs Lc Lz) fuel l i f w:=by
 simp only [Bool.and_eq_true] at ho
 obtain ⟨h1,h2,h3,h4⟩:=ho
 have e:=DD h2
 have:=A9 h1
 cases hd:A6 R i with
 | some d=>rw [hd] at h4;cases h4
 | none=>
  rw [hd] at this
  have hp:=hs.put (k:=5) rfl (.cells C' E (0,0))
  refine VI rfl rfl this rfl ?_ (A4 hp hle hL hLz) (k _ hp)
  have hr:=G2 (P:=P) (ty:=Fo R i) (w:=w) hx (hs.ownAt (k:=5) rfl) h3 hC
  rw [<-e] at hr;exact hr
theorem TM {e0 e1 e2 e3 e4 e5:Option Nat×Obj} {b:Nat} {C:Array Value} {E:TypeId} (C':Array Value) (hs:HS w0 F0 w F (e0::e1::e2::e3::e4::e5::(some b,.cells C E (0,0))::L)) (hle:Vx Fs F) (k:∀ w',HS w0 F0 w' F (e0::e1::e2::e3::e4::e5::(some b,.cells C' E (0,0))::L)->DWP P n R PQ Post z (DZ Fs Lc Lz) fuel (l.set i true) f w')
  (hx:fev f (stX (Ag R i))=.pointer (some ⟨b,pO (fev f (stX (Ag R i))),none⟩):=by kernel_rfl) (hC:BG C (pO (fev f (stX (Ag R i)))) (fev f (stY (Ag R i))).cells.toList=C':=by kernel_rfl)
  (ho:(ung R i&&(Hz (Ag R i)&&(C7 P (stT (Ag R i)) (fev f (stY (Ag R i))) (pO (fev f (stX (Ag R i)))) C&&(match A6 R i with | none=>true | some _=>false))))=true:=by kernel_rfl)
  (hL:∀ p,p∈Lc->p∈e0::e1::e2::e3::e4::e5::(some b,.cells C' E (0,0))::L:=by simp) (hLz:(l.set i true).toArray.getD z true=false->∀ p,p∈Lz->p∈e0::e1::e2::e3::e4::e5::(some b,.cells C' E (0,0))::L:=by first | (intro _;simp;done) | exact zdT (by kernel_rfl)):Au P n R PQ Post z (DZ Fs Lc Lz) fuel l i f w:=by
 simp only [Bool.and_eq_true] at ho
 obtain ⟨h1,h2,h3,h4⟩:=ho
 have e:=DD h2
 have:=A9 h1
 cases hd:A6 R i with
 | some d=>rw [hd] at h4;cases h4
 | none=>
  rw [hd] at this
  have hp:=hs.put (k:=6) rfl (.cells C' E (0,0))
  refine VI rfl rfl this rfl ?_ (A4 hp hle hL hLz) (k _ hp)
  have hr:=G2 (P:=P) (ty:=Fo R i) (w:=w) hx (hs.ownAt (k:=6) rfl) h3 hC
  rw [<-e] at hr;exact hr
theorem Vq {e0 e1 e2 e3 e4 e5 e6:Option Nat×Obj} {b:Nat} {C:Array Value} {E:TypeId} (C':Array Value) (hs:HS w0 F0 w F (e0::e1::e2::e3::e4::e5::e6::(some b,.cells C E (0,0))::L)) (hle:Vx Fs F) (k:∀ w',HS w0 F0 w' F (e0::e1::e2::e3::e4::e5::e6::(some b,.cells C' E (0,0))::L)->DWP P n R PQ Post z (DZ Fs Lc Lz) fuel (l.set i true) f w')
  (hx:fev f (stX (Ag R i))=.pointer (some ⟨b,pO (fev f (stX (Ag R i))),none⟩):=by kernel_rfl) (hC:BG C (pO (fev f (stX (Ag R i)))) (fev f (stY (Ag R i))).cells.toList=C':=by kernel_rfl)
  (ho:(ung R i&&(Hz (Ag R i)&&(C7 P (stT (Ag R i)) (fev f (stY (Ag R i))) (pO (fev f (stX (Ag R i)))) C&&(match A6 R i with | none=>true | some _=>false))))=true:=by kernel_rfl)
  (hL:∀ p,p∈Lc->p∈e0::e1::e2::e3::e4::e5::e6::(some b,.cells C' E (0,0))::L:=by simp) (hLz:(l.set i true).toArray.getD z true=false->∀ p,p∈Lz->p∈e0::e1::e2::e3::e4::e5::e6::(some b,.cells C' E (0,0))::L:=by first | (intro _;simp;done) | exact zdT (by kernel_rfl)):Au P n R PQ Post z (DZ Fs Lc Lz) fuel l i f w:=by
 simp only [Bool.and_eq_true] at ho
 obtain ⟨h1,h2,h3,h4⟩:=ho
 have e:=DD h2
 have:=A9 h1
 cases hd:A6 R i with
 | some d=>rw [hd] at h4;cases h4
 | none=>
  rw [hd] at this
  have hp:=hs.put (k:=7) rfl (.cells C' E (0,0))
  refine VI rfl rfl this rfl ?_ (A4 hp hle hL hLz) (k _ hp)
  have hr:=G2 (P:=P) (ty:=Fo R i) (w:=w) hx (hs.ownAt (k:=7) rfl) h3 hC
  rw [<-e] at hr;exact hr
end
theorem YP.mono {P:Program} {l:Nat} {args:List Value} {w:World} {S S':Ending->World->Prop} (h:YP P l args w S) (hi:∀ e w',S e w'->S' e w'):YP P l args w S':=
 let ⟨fn,t,a,b,h1,h2⟩:=h;⟨fn,t,a,b,h1,h2.mono hi⟩
section
variable {P : Program} {w : World} {ρ : Operand -> Value} {ty : TypeId}
def SI (P:Program) (t:TypeId) (parts:List (Nat×Value)):Option (List Value):=
 match P.underlying t,Bp P t with
 | some (.array _ e),some z=>match P.info? e with
  | some i=>match Instr.fill (fun k=>some (k * i.size,i.size)) z.cells parts with
   | some cs=>some cs.toList
   | none=>none
  | none=>none
 | _,_=>none
theorem Jd {t:TypeId} {parts:Array (Nat×Operand)} {vs:List (Nat×Value)} {cs:List Value} (hv:parts.toList.map (fun p=>(p.1,ρ p.2))=vs) (hb:SI P t vs=some cs):
  (Ak ρ (.build t parts) ty).run P w=.ok (.value (.agg cs.toArray)) w:=by
 subst hv
 unfold SI at hb
 split at hb
 ·rename_i n e z hu hz
  split at hb
  ·rename_i i hi
   split at hb
   ·rename_i cs' hfill
    simp only [Option.some.injEq] at hb
    subst hb
    have e1:Ak ρ (.build t parts) ty=(do pure (Next.value (<-Instr.build t (parts.map fun (i,x)=>(i,ρ x))))):=rfl
    have hzv:(zeroValue t).run P w=.ok z w:=by
     unfold Bp at hz
     split at hz
     ·rename_i i hi;simp [zeroValue,typeInfo,hi,hz]
     ·cases hz
    rw [e1]
    simp only [Instr.build,Sem.run_bind,hzv,Result.andThen_ok,run_underlying hu,CZ hi]
    have hl:(parts.map fun (i,x)=>(i,ρ x)).toList=parts.toList.map (fun p=>(p.1,ρ p.2)):=by simp
    rw [hl,hfill]
    simp
   ·cases hb
  ·cases hb
 ·cases hb
theorem Ql {t E:TypeId} {len:Nat} {x y:Operand} {k:IntKind} {i:Int} {cs:List Value} {v:Value} (hx:ρ x=.agg cs.toArray) (hy:ρ y=.int k i) (hu:P.underlying t=some (.array len E)) (ht:Ed P E=some (false,1)) (hlen:cs.length=len) (hv:idx cs i=some v):
  (Ak ρ (.index t x y) ty).run P w=.ok (.value v) w:=by
 obtain ⟨⟨h0,h1⟩,h2⟩:=Al hv
 have hc:Am cs.toArray (i.toNat * 1) 1=[v]:=by
  rw [Nat.mul_one]
  exact Ic.2 (by simpa using h2)
 have hp:=GF (P:=P) (t:=E) (C:=cs.toArray) (o:=i.toNat * 1) ht (by rw [hc];rfl) (.inr rfl) w
 rw [hc] at hp
 simp only [Ak,execOp,hx,hy,Instr.index,asIntOf,Sem.run_bind,Sem.run_pure,Result.andThen_ok,run_underlying hu,CO ht]
 rw [if_pos (show 0<=i/\i < (len:Int) by omega)]
 simp only [Sem.run_bind,CO ht,Result.andThen_ok]
 rw [hp]
 rfl
theorem O2 {α:Type} {f:α->Value} {l:List α} {i:Int} {x:α} (h:idx l i=some x):idx (l.map f) i=some (f x):=by
 obtain ⟨⟨h0,h1⟩,h2⟩:=Al h
 unfold idx
 rw [if_pos h0,List.getElem?_map,h2];rfl
def toB (l:List Int):VW:=l.map fun n=>UInt8.ofNat n.toNat
theorem MB:∀ (ns:List Int) (A:Array UInt8),ns.foldl (fun r n=>ByteArray.push r (UInt8.ofNat n.toNat)) ⟨A⟩=⟨A++(toB ns).toArray⟩
 | [],A=>by simp [toB]
 | n::ns,A=>by
  rw [List.foldl_cons]
  have:ByteArray.push ⟨A⟩ (UInt8.ofNat n.toNat)=⟨A.push (UInt8.ofNat n.toNat)⟩:=rfl
  rw [this,MB ns]
  simp [toB]
theorem Ta {w0:World} {F0 F:Mem} {L:Own} {s d E:TypeId} {x:Operand} {a:VX} {cap q:Nat} {l:List Int} {e:Option Nat×Obj} (hx:ρ x=.slice a l.length cap) (hs:P.underlying s=some (.slice E)) (hE:P.underlying E=some (.int .u8)) (hd:P.underlying d=some .string)
  (hh:HS w0 F0 w F L) (hq:L[q]? =some e) (hr:An tU8 E F a cap l e):(Ak ρ (.convert s d x) ty).run P w=.ok (.value (.string ⟨(toB l).toArray⟩)) w:=by
 have e1:Ak ρ (.convert s d x) ty=(do pure (Next.value (<-convert s d (ρ x)))):=rfl
 rw [e1,hx,Sem.run_bind,run_convert_bytes_string w s d E a l.length cap hs hE hd]
 rcases hr.2 with ⟨rfl,rfl,rfl,_⟩ | ⟨b,C,rfl,rfl,hc,hsz,hR⟩
 ·rfl
 ·have hb:=hh.ownAt hq
  have hl:=run_loadCells_list (P:=P) (w:=w) ⟨b,0,none⟩ (l.map (Value.int .u8)) (fun j v hj=>by
   rw [List.getElem?_map] at hj
   cases hlj:l[j]? with
   | none=>rw [hlj] at hj;cases hj
   | some n=>
    rw [hlj] at hj
    cases hj
    have h1:Am C (j * 1) 1=[.int .u8 n]:=hR j n hlj
    rw [Nat.mul_one] at h1
    have h2:=Ic.1 h1
    rw [Addr.add_lit]
    simp [World.cell?,hb,h2])
  rw [List.length_map] at hl
  have h2:=run_bytesToString (P:=P) w ⟨b,0,none⟩ l.length cap l (by rw [hl])
  rw [h2,show ByteArray.empty=⟨#[]⟩ from rfl,MB]
  simp [Result.andThen]
end
section
variable {P : Program} {n : Nat} {R : Array Oper} {f : Fr} {w : World} {PQ : List PanicEntry -> List Deferred -> World -> Prop} {Post : Fr -> World -> Prop} {z : Nat} {fuel : Nat} {l l' : List Bool} {zd : Bool} {i : Nat} {dst : Option Nat} {ty : TypeId} {g : Option (Nat × Bool)}
theorem Au.callO {w0:World} {F0 F Fs:Mem} {L Lc Lz:List (Option Nat×Obj)} {f0:Operand} {aos:Array Operand} {ats:Array TypeId} {fid:FuncId} {first cap:Array Value} {args:List Value} {post:Mem->Value->Own->Prop}
  (hl:l.set i true=l') (hzd:l'.toArray.getD z true=zd) (h0:l.toArray.getD z true=zd)
  (ho:opq R i=some (dst,.call {callee:=.value f0,args:=aos,argTypes:=ats},ty,g)) (hg:gd R f g=true) (hf:fev f f0=.func (.func fid) first cap) (hok:Af P fid)
  (ha:first.toList++aos.toList.map (fev f)++cap.toList=args) (hs:HS w0 F0 w F L) (hc:Calls P fid args.toArray w (K7 w F post))
  (k:∀ v F1 w1 L',HS w0 F0 w1 F1 (L'++L)->Vx F F1->post F1 v L'->DWP P n R PQ Post z (DZ Fs Lc Lz) fuel l' (AZ f dst v) w1):Au P n R PQ Post z (DZ Fs Lc Lz) fuel l i f w:=by
 intro hokR hns hS a haf
 obtain ⟨o,hR,hd,hop,hty,hgd⟩:=Cw ho
 unfold FX wpOpIn
 simp only [hR]
 rw [haf.wanted R o,hgd,hg]
 simp only [if_true]
 refine ⟨Bn,?_⟩
 show o.uponIn (FW none) 0 P a _ _ ((execOp a.eval o).run P w)
 rw [Cn,haf.evalF,hop,hty,DP hf hok ha]
 simp only [Oper.uponIn]
 refine ⟨(fun h=>by cases h),(D6 hc).mono ?_⟩
 rintro e w' ⟨r,F',L',rfl,h1,h2⟩
 simp only
 rw [h0] at hS
 have hS':DZ Fs Lc Lz zd w':=hS.keep h1.keep
 rw [hl,hd,hzd]
 exact ⟨hS',k r F' w' L' (hs.callO h1) h1.le h2 hokR hns (by rw [hzd];exact hS') _ (haf.put (by rw [<-hd];exact DW hokR hR) r)⟩
theorem Au.callS {Fs:Mem} {Lc Lz:Own} {f0:Operand} {aos:Array Operand} {ats:Array TypeId} {fid:FuncId} {first cap:Array Value} {args:List Value} {S:Ending->World->Prop}
  (hl:l.set i true=l') (hzd:l'.toArray.getD z true=zd)
  (ho:opq R i=some (dst,.call {callee:=.value f0,args:=aos,argTypes:=ats},ty,g)) (hg:gd R f g=true) (hf:fev f f0=.func (.func fid) first cap) (hok:Af P fid)
  (ha:first.toList++aos.toList.map (fev f)++cap.toList=args) (hc:Calls P fid args.toArray w S)
  (k:∀ e w',S e w'->∃ v,e=.returned v/\DZ Fs Lc Lz zd w'/\DWP P n R PQ Post z (DZ Fs Lc Lz) fuel l' (AZ f dst v) w'):Au P n R PQ Post z (DZ Fs Lc Lz) fuel l i f w:=by
 intro hokR hns hS a haf
 obtain ⟨o,hR,hd,hop,hty,hgd⟩:=Cw ho
 unfold FX wpOpIn
 simp only [hR]
 rw [haf.wanted R o,hgd,hg]
 simp only [if_true]
 refine ⟨Bn,?_⟩
 show o.uponIn (FW none) 0 P a _ _ ((execOp a.eval o).run P w)
 rw [Cn,haf.evalF,hop,hty,DP hf hok ha]
 simp only [Oper.uponIn]
 refine ⟨(fun h=>by cases h),(D6 hc).mono ?_⟩
 intro e w' he
 obtain ⟨v,rfl,hS',hk⟩:=k e w' he
 simp only
 rw [hl,hd,hzd]
 exact ⟨hS',hk hokR hns (by rw [hzd];exact hS') _ (haf.put (by rw [<-hd];exact DW hokR hR) v)⟩
theorem Au.callLentP {w0:World} {F0 F Fs:Mem} {L Lc Lz:List (Option Nat×Obj)} {f0:Operand} {aos:Array Operand} {ats:Array TypeId} {fid:FuncId} {first cap:Array Value} {args:List Value} {q:Nat} {e:Option Nat×Obj} {v0:Value}
  (hl:l.set i true=l') (hzd:l'.toArray.getD z true=zd) (h0:l.toArray.getD z true=zd)
  (ho:opq R i=some (dst,.call {callee:=.value f0,args:=aos,argTypes:=ats},ty,g)) (hg:gd R f g=true) (hf:fev f f0=.func (.func fid) first cap) (hok:Af P fid)
  (ha:first.toList++aos.toList.map (fev f)++cap.toList=args) (hs:HS w0 F0 w F L) (hk:L[q]? =some e) (hc:Calls P fid args.toArray w (AF w (Hm F e) fun _ v=>v=v0))
  (k:∀ F1 w1,HS w0 F0 w1 F1 L->Vx F F1->DWP P n R PQ Post z (DZ Fs Lc Lz) fuel l' (AZ f dst v0) w1):Au P n R PQ Post z (DZ Fs Lc Lz) fuel l i f w:=by
 intro hokR hns hS a haf
 obtain ⟨o,hR,hd,hop,hty,hgd⟩:=Cw ho
 unfold FX wpOpIn
 simp only [hR]
 rw [haf.wanted R o,hgd,hg]
 simp only [if_true]
 refine ⟨Bn,?_⟩
 show o.uponIn (FW none) 0 P a _ _ ((execOp a.eval o).run P w)
 rw [Cn,haf.evalF,hop,hty,DP hf hok ha]
 simp only [Oper.uponIn]
 refine ⟨(fun h=>by cases h),(D6 hc).mono ?_⟩
 rintro e' w' ⟨_,F',rfl,h1,rfl⟩
 simp only
 rw [h0] at hS
 have hS':DZ Fs Lc Lz zd w':=hS.keep h1.keep
 obtain ⟨h6,h7⟩:=hs.lentCall hk h1
 rw [hl,hd,hzd]
 exact ⟨hS',k _ w' h6 h7 hokR hns (by rw [hzd];exact hS') _ (haf.put (by rw [<-hd];exact DW hokR hR) _)⟩
end
section
variable {P : Program} {n : Nat} {R : Array Oper} {Q : Exit -> Fr -> World -> Prop} {w w0 : World} {F0 F : Mem} {L : Own} {f : Fr} {i : Nat} {rest : List Nat} {dst : Option Nat} {ty : TypeId} {g : Option (Nat × Bool)} {ro : Option Nat}
theorem RWP.callLentP {f0:Operand} {aos:Array Operand} {ats:Array TypeId} {fid:FuncId} {first cap:Array Value} {args:List Value} {q:Nat} {e:Option Nat×Obj} {v0:Value}
  (ho:opq R i=some (dst,.call {callee:=.value f0,args:=aos,argTypes:=ats},ty,g)) (hg:gd R f g=true) (hf:fev f f0=.func (.func fid) first cap) (hok:Af P fid)
  (ha:first.toList++aos.toList.map (fev f)++cap.toList=args) (hs:HS w0 F0 w F L) (hk:L[q]? =some e)
  (hc:Calls P fid args.toArray w (AF w (Hm F e) fun _ v=>v=v0))
  (k:∀ F1 w1,HS w0 F0 w1 F1 L->Vx F F1->RWP P ro n R Q rest (AZ f dst v0) w1):RWP P ro n R Q (i::rest) f w:=by
 refine Vv ho hg (DP hf hok ha) hc ?_
 rintro e w' ⟨_,F',rfl,h1,rfl⟩
 obtain ⟨h6,h7⟩:=hs.lentCall hk h1
 exact k _ w' h6 h7
end
section
variable {P : Program} {w : World} {ρ : Operand -> Value} {ty : TypeId}
theorem G3 {mt k vt:TypeId} {d:TypeDesc} {m x:Operand} {b clk:Nat} {es:Array MapEntry} {kv v:Value} {j:Nat} (hm:ρ m=.map (some b)) (hx:ρ x=kv) (hu:P.underlying mt=some (.map k vt)) (hk:P.underlying k=some d) (hkey:MapKept.IsKey d kv)
  (hb:w.heap[b]? =some (.map es clk)) (hf:Instr.findNow d kv es.toList 0=some (some (j,v))):(Ak ρ (.lookup mt m x true) ty).run P w=.ok (.value (.tuple #[v,.bool true])) w:=by
 have e:Ak ρ (.lookup mt m x true) ty=(do pure (Next.value (<-Instr.lookup mt (ρ m) (ρ x) true))):=rfl
 rw [e,hm,hx]
 simp [Instr.lookup,run_underlying hu,MapKept.run_getObj_map hb,MapKept.run_checkKey hk hkey,MapKept.run_findKey hk hf,Result.andThen]
theorem NR {mt k vt:TypeId} {d:TypeDesc} {m x:Operand} {b clk:Nat} {es:Array MapEntry} {kv z:Value} (hm:ρ m=.map (some b)) (hx:ρ x=kv) (hu:P.underlying mt=some (.map k vt)) (hz:Bp P vt=some z) (hk:P.underlying k=some d) (hkey:MapKept.IsKey d kv)
  (hb:w.heap[b]? =some (.map es clk)) (hf:Instr.findNow d kv es.toList 0=some none):(Ak ρ (.lookup mt m x true) ty).run P w=.ok (.value (.tuple #[z,.bool false])) w:=by
 have hzv:(zeroValue vt).run P w=.ok z w:=by
  unfold Bp at hz
  split at hz
  ·rename_i i hi
   simp [zeroValue,typeInfo,hi,hz]
  ·cases hz
 have e:Ak ρ (.lookup mt m x true) ty=(do pure (Next.value (<-Instr.lookup mt (ρ m) (ρ x) true))):=rfl
 rw [e,hm,hx]
 simp [Instr.lookup,run_underlying hu,MapKept.run_getObj_map hb,MapKept.run_checkKey hk hkey,MapKept.run_findKey hk hf,hzv,Result.andThen]
theorem P0 {x c:Int} {v:Value} {clk i:Nat} {es:List MapEntry} (h:(x==c)=true):Instr.findNow (.int .i64) (.int .i64 x) (⟨.int .i64 c,v,clk⟩::es) i=some (some (i,v)):=by
 simp [Instr.findNow,Instr.sameNow,h]
theorem IB {x c:Int} {v:Value} {clk i:Nat} {es:List MapEntry} {r:Option (Option (Nat×Value))} (h:(x==c)=false) (k:Instr.findNow (.int .i64) (.int .i64 x) es (i + 1)=r):Instr.findNow (.int .i64) (.int .i64 x) (⟨.int .i64 c,v,clk⟩::es) i=r:=by
 simp only [Instr.findNow,Instr.sameNow,if_true,h];exact k
end
section
variable {P : Program} {w0 w : World} {F0 F : Mem} {L : List (Option Nat × Obj)} {α : Type} {T : Ty α} {E : TypeId} {l m : List α} {b cap : Nat} {C : Array Value}
theorem Qc {t t2 ty:TypeId} {by_ c2:Nat} {a2:VX} (he:A2 P t=some (E,T.sz,by_)) (hni:My P t2=true)
  (h1:T.One) (hs:HS w0 F0 w F L) {k:Nat} (hk:L[k]? =some (some b,.cells C E (0,0))) (hr:An T E F (some ⟨b,0,none⟩) cap l (some b,.cells C E (0,0))) (hm:Rd T F w a2 m) (hfit:l.length + m.length<=cap) (hlen:l.length + m.length < 4398046511104):
  ∃ C',C'.size=C.size/\(Builtin.append_ #[t,t2] ty #[.slice (some ⟨b,0,none⟩) l.length cap,.slice a2 m.length c2]).run P w=.ok (.slice (some ⟨b,0,none⟩) (l++m).length cap) (Cc w b (.cells C' E (0,0)))/\An T E F (some ⟨b,0,none⟩) cap (l++m) (some b,.cells C' E (0,0)):=by
 obtain ⟨i,hu,hi,his,hib⟩:=Ea he
 obtain ⟨new,hnew,hload⟩:=hm.load (P:=P) c2
 have hnl:=hnew.len
 obtain ⟨E2,hd⟩:∃ E2,P.underlying t2=some (.slice E2):=by
  unfold My at hni
  split at hni
  ·rename_i E2 h;exact ⟨E2,h⟩
  ·cases hni
 unfold Builtin.append_
 simp only [List.getElem?_toArray,List.getElem?_cons_zero,List.getElem?_cons_succ,Sem.run_bind,run_underlying hu,Result.andThen_ok,CZ hi,his]
 simp only [run_underlying hd,Result.andThen_ok,Sem.run_pure,Bool.false_eq_true,if_false,Builtin.lenOf]
 simp only [pure_bind]
 rw [if_pos hfit]
 simp only [Bool.not_false,if_true,Sem.run_bind,hload,Result.andThen_ok]
 rcases hr.2 with ⟨h,_⟩ | ⟨b',C0,hb',hc',hlc,hC,hx⟩
 ·cases h
 ·cases hb'
  cases hc'
  have hC1:l.length * T.sz + new.length<=C.size:=by rw [hC,hnl,<-Nat.add_mul];exact Nat.mul_le_mul_right _ hfit
  have hst:=CE (P:=P) E new w b (l.length * T.sz) 0 C (hs.ownAt hk) (by simpa using hC1) (hnew.one h1)
  refine ⟨BG C (l.length * T.sz) new,B0 _ _ _,?_,?_⟩
  ·simp only [Addr.add_lit,Nat.zero_add]
   simp only [Nat.add_zero] at hst
   rw [hst]
   simp
  ·have hrow:CL T F l (Am C 0 (l.length * T.sz)):=by
    by_cases hl:l=[]
    ·subst hl;simp [CL,Am]
    ·exact He hl (fun i x hi=>by rw [Nat.zero_add];exact hx i x hi)
   have hlr:=hrow.len
   refine ⟨by simpa using hlen,.inr ⟨b,_,rfl,rfl,by simpa using hfit,by rw [B0,hC],fun i x hix=>?_⟩⟩
   have:=(CL.append hrow hnew).get i x hix
   have hii:i < (l++m).length:=by
    rcases Nat.lt_or_ge i (l++m).length with h' | h'
    ·exact h'
    ·rw [List.getElem?_eq_none h'] at hix;cases hix
   have hle:i * T.sz + T.sz<=(Am C 0 (l.length * T.sz)++new).length:=by
    rw [List.length_append,hlr,hnl,<-Nat.add_mul,<-Nat.succ_mul]
    exact Nat.mul_le_mul_right _ (Nat.succ_le_of_lt (by simpa using hii))
   have e1:Am C 0 (l.length * T.sz)=C.toList.take (l.length * T.sz):=by simp [Am]
   unfold Am
   rw [EN hC1]
   rw [e1] at this hle
   rw [List.drop_append_of_le_length (by omega),List.take_append_of_le_length (by simp only [List.length_drop];omega)]
   exact this
theorem Me {t t2:TypeId} {by_ c2:Nat} {a2:VX} (he:A2 P t=some (E,T.sz,by_)) (hni:My P t2=true)
  (h1:T.One) (hs:HS w0 F0 w F L) {k:Nat} (hk:L[k]? =some (some b,.cells C E (0,0))) (hr:An T E F (some ⟨b,0,none⟩) cap l (some b,.cells C E (0,0))) (hm:Rd T F w a2 m) (hfit:l.length + m.length<=cap) (hlen:l.length + m.length < 4398046511104):
  ∃ C',C'.size=C.size/\An T E F (some ⟨b,0,none⟩) cap (l++m) (some b,.cells C' E (0,0))/\ ∀ {ρ:Operand->Value} {x y:Operand} {ty:TypeId},ρ x=.slice (some ⟨b,0,none⟩) l.length cap->ρ y=.slice a2 m.length c2->
   (Ak ρ (.call {callee:=.builtin .append,args:=#[x,y],argTypes:=#[t,t2]}) ty).run P w=.ok (.value (.slice (some ⟨b,0,none⟩) (l++m).length cap)) (Cc w b (.cells C' E (0,0))):=by
 have key:=fun ty=>Qc (ty:=ty) (c2:=c2) he hni h1 hs hk hr hm hfit hlen
 obtain ⟨C',h2,h3,h4⟩:=key 0
 refine ⟨C',h2,h4,fun {ρ x y ty} hx hy=>?_⟩
 have h5:(Builtin.append_ #[t,t2] ty #[.slice (some ⟨b,0,none⟩) l.length cap,.slice a2 m.length c2]).run P w=.ok (.slice (some ⟨b,0,none⟩) (l++m).length cap) (Cc w b (.cells C' E (0,0))):=h3
 have e1:Ak ρ (.call {callee:=.builtin .append,args:=#[x,y],argTypes:=#[t,t2]}) ty=(do pure (Next.value (<-Builtin.append_ #[t,t2] ty (Array.map ρ #[x,y])))):=rfl
 rw [e1,map_toArray]
 simp only [List.map_cons,List.map_nil,hx,hy]
 rw [Sem.run_bind,h5]
 rfl
theorem Om {o i:Nat} {vs:List Value} (ho:o + vs.length<=C.size) (hi:i * T.sz + T.sz<=o):Am (BG C o vs) (i * T.sz) T.sz=Am C (i * T.sz) T.sz:=by
 unfold Am
 rw [EN ho,List.append_assoc,List.drop_append_of_le_length (by simp;omega),List.take_append_of_le_length (by simp;omega),List.drop_take,List.take_take,Nat.min_eq_left (by omega)]
theorem NU {t:TypeId} {by_ j k c:Nat} {z:Value} (he:A2 P t=some (E,T.sz,by_)) (hz:Bp P E=some z) (hzs:z.cells.size=T.sz) (h0:z.cells.toList.all (·.oneCell')=true)
  (hb:w.heap[b]? =some (.cells C E (0,0))) (hk:0 < k) (hfit:j * T.sz + k * T.sz<=C.size):
  ∃ vs,vs.length=k * T.sz/\ ∀ {ρ:Operand->Value} {x:Operand} {ty:TypeId},ρ x=.slice (some ⟨b,j * T.sz,none⟩) k c->(Ak ρ (.call {callee:=.builtin .clear,args:=#[x],argTypes:=#[t]}) ty).run P w=.ok (.value (.tuple #[])) (Cc w b (.cells (BG C (j * T.sz) vs) E (0,0))):=by
 obtain ⟨i,hu,hi,his,hib⟩:=Ea he
 have hzv:(zeroValue E).run P w=.ok z w:=by
  unfold Bp at hz;rw [hi] at hz
  simp [zeroValue,typeInfo,hi,hz]
 have hsz:(Builtin.zeroCells z.cells k).toList.length=k * T.sz:=by simp [Builtin.zeroCells,hzs]
 have hone:(Builtin.zeroCells z.cells k).toList.all (·.oneCell')=true:=by
  rw [List.all_eq_true] at h0 ⊢
  intro v hv
  simp only [Builtin.zeroCells,Array.toList_map,List.mem_map] at hv
  obtain ⟨q,hq,rfl⟩:=hv
  have hq':q < k * z.cells.size:=by simpa using hq
  have hpos:0 < z.cells.size:=by
   rcases Nat.eq_zero_or_pos z.cells.size with h | h
   ·rw [h] at hq';simp at hq'
   ·exact h
  have hlt:=Nat.mod_lt q hpos
  rw [getElem!_pos z.cells _ hlt]
  exact h0 _ (by simp)
 have hst:=CE (P:=P) E (Builtin.zeroCells z.cells k).toList w b (j * T.sz) 0 C hb (by rw [hsz];simpa using hfit) hone
 refine ⟨(Builtin.zeroCells z.cells k).toList,hsz,fun {ρ x ty} hx=>?_⟩
 have e:Ak ρ (.call {callee:=.builtin .clear,args:=#[x],argTypes:=#[t]}) ty=(do pure (Next.value (<-Builtin.clear_ #[t] ty (Array.map ρ #[x])))):=rfl
 rw [e,map_toArray]
 simp only [List.map_cons,List.map_nil,hx]
 obtain ⟨k',rfl⟩:∃ k',k=k' + 1:=⟨k - 1,by omega⟩
 simp only [Nat.add_zero] at hst
 simp [Builtin.clear_,run_underlying hu,hzv,hst,Result.andThen]
end
abbrev P3 (x:(VW×Bool)):List Value:=[(.string ⟨(x.1).toArray⟩),(.bool x.2)]
abbrev R5 (_:Mem) (_:(VW×Bool)):Prop:=True
abbrev RT (x:(VW×Bool)):(VW×Bool):=x
theorem kl9:KL Tryz.prog 9 AU:=KL.ofString (by kernel_rfl)
def TT (x:Ap):Value:=.agg #[(.int .i64 x.at_),(.int .i64 x.stage_),(.int .i64 x.num_),(.int .i64 x.minute_)]
def SC (x y:Ap):Bool:=((x.at_==y.at_)&&((x.stage_==y.stage_)&&((x.num_==y.num_)&&((x.minute_==y.minute_)&&true))))
theorem Ur (x y:Ap):SC x y=decide (x=y):=by
 rw [Bool.eq_iff_iff];unfold SC
 simp only [Bool.and_eq_true,beq_iff_eq,decide_eq_true_eq,and_true]
 constructor
 ·intro h
  obtain ⟨_,_,_,_⟩:=x;obtain ⟨_,_,_,_⟩:=y
  simp_all [Ap.mk.injEq]
 ·rintro rfl
  simp
set_option maxRecDepth 100000 in
theorem TV:KL Tryz.prog 143 AB:=KL.ofStruct (d:=8) (by decide) TT (fun h=>by obtain ⟨_,rfl,rfl⟩:=h;rfl) (by kernel_rfl) (fun x=>by kernel_rfl) SC (fun x y=>by kernel_rfl) Ur (fun x=>by simp [TT,Instr.sameBits,beq_toListBytes])
def AN (N:Nat) (x0:(List AQ)) (x1:(AQ->Option Bool)):Int->Option (Br Int Int):=fun h0=>
 (bif (decide (h0 < (x0.length:Int))) then ((idx x0 h0).bind fun h1=>((x1 h1).bind fun h2=>(bif h2 then some (.ret h0) else some (.next (W64 (h0 + 1)))))) else some (.done h0))
def Bv (N:Nat) (x0:(List AQ)) (x1:(AQ->Option Bool)):Option Int:=
 ((AV (AN N x0 x1) N 0).bind fun o=>o.k (fun r=>some r) (fun h0=>some (-1)))
theorem DE:Af Tryz.prog 183:=fun _ _=>by kernel_rfl
theorem DK (N:Nat) (w0:World) (F0:Mem) (hF:VY w0 F0) (x0:(List AQ)) (h4:VX) (h5:Nat) (b6:LC x0.length h5) (hd:SlA Iq F0 h4 x0) (h1:FuncId) (h6 h7:List Value) (x1:AQ->Option Bool) (he:Af Tryz.prog h1) (hf:Pu F0 h1 h6 h7 x1) (r:Int) (h:Bv N x0 x1=some r):
  Calls Tryz.prog 183 ([(sL h4 x0 h5),(.func (.func h1) h6.toArray h7.toArray)]:List Value).toArray w0 (AF w0 F0 fun F' v=>v=(vi r)):=by
 have hg:=Vz hF
 refine Go 19 Tryz.func183<|Sq (Rg [0] ?_)
 refine Vs 1<|Nss<|Sq (Rg [0,1,2] ?_)
 refine Vs 3<|Nt ?_
 obtain ⟨h9,hh,ha⟩:=bS h
 refine VE (fun f w=>∃ (hb:Int) (F2:Mem),h9=.done hb/\HS w0 F0 w F2 []/\Vx F0 F2/\FI f [] []) ?_ ?_
 ·refine Bk ?_
  refine Vw (by kernel_rfl) (fun m f w=>∃ (h0:Int) (F1:Mem),AV (AN N x0 x1) m h0=some h9/\HS w0 F0 w F1 []/\Vx F0 F1/\FI f [] [(0,(sL h4 x0 h5)),(1,(.func (.func h1) h6.toArray h7.toArray)),(7,(vi (x0.length:Int))),(8,(vi h0))]) N ⟨0,F0,hh,hg,(Vy _),fI⟩ ?_
  rintro b7 f hk ⟨h0,F1,hl,h2,h3,⟨_,rfl⟩⟩
  obtain ⟨hm,b8,rfl,hn,h8⟩:=AO hl
  refine Sq (Rg [0] ?_)
  refine Vs 1<|Nss<|Cd hn (fun ho hp=>?_) (fun ho hq=>?_)
  ·refine Sc ?_
   refine Ab<|Sq<|Bk<|Sq (Rg [0,1] ?_)
   refine Vs 2<|Nss (Rg (rG 6) ?_)
   refine Vs 3 ?_
   obtain ⟨hr,hs,ht⟩:=bS hp
   obtain ⟨hu,hx48'⟩:=Al hs
   obtain ⟨b9,ba,bb,bc,bd,rfl,hF57,hE58⟩:=VF (VA hd h3) hx48'
   have hv:=hE58 _ _ hx48'
   refine Ix hu<|Lx 0 (h2.pers _ _ hF57) hv ?_
   obtain ⟨be,hw,hx⟩:=bS ht
   refine Cq he h2 (hf hk F1 hr _ h3 h2.pers hw) ?_
   rintro _ F3 bf hc hy rfl
   refine Nt<|Cd hx (fun hz b0=>?_) (fun hz b1=>?_)
   ·refine Sq (Rg [0,1] ?_)
    refine Vs 2<|Nt<|Rt<|AA<|Ae<|Ae<|AA ?_
    have hret:=B3 b0 h8
    subst hret
    refine .inr<|Ae ?_
    obtain rfl:=Aa ha
    exact Re [(vi h0)] hc rfl
   ·refine Sc ?_
    refine As<|Ab<|Rg [0,1]<|Vs 2<|Vt ?_
    have b2:=AM b1 h8
    exact ⟨hm,Nat.lt_succ_self _,(W64 (h0 + 1)),F3,b2,hc,(h3.t hy),fI⟩
  ·refine Ex ?_
   refine Ar<|Ar<|AD rfl ?_
   have b3:=AP hq h8
   exact .inl ⟨rfl,h0,F1,b3,h2,h3,fI⟩
 ·rintro f bg ⟨hb,F2,rfl,b4,bh,⟨_,rfl⟩⟩
  have b5:=BC ha
  refine Ab<|Sq (Rg [0] ?_)
  refine Vs 1<|Nt<|Rt ?_
  obtain rfl:=Aa b5
  exact Re [(vi (-1))] b4 rfl
def A1 (N:Nat) (x0:(List AQ)) (x1:(AQ->Option Bool)):Option Bool:=
 ((Bv N x0 x1).bind fun h0=>some (decide (h0>=0)))
theorem C8:Af Tryz.prog 137:=fun _ _=>by kernel_rfl
theorem Dh (N:Nat) (w0:World) (F0:Mem) (hF:VY w0 F0) (x0:(List AQ)) (h1:VX) (h2:Nat) (h6:LC x0.length h2) (h7:SlA Iq F0 h1 x0) (h0:FuncId) (h3 h4:List Value) (x1:AQ->Option Bool) (h8:Af Tryz.prog h0) (h9:Pu F0 h0 h3 h4 x1) (r:Bool) (h:A1 N x0 x1=some r):
  Calls Tryz.prog 137 ([(sL h1 x0 h2),(.func (.func h0) h3.toArray h4.toArray)]:List Value).toArray w0 (AF w0 F0 fun F' v=>v=(.bool r)):=by
 have h5:=Vz hF
 refine Go 9 Tryz.func137<|Sq (Rg [0] ?_)
 refine Vs 1<|Nss (Rg (rG 5) ?_)
 refine Vs 2 ?_
 obtain ⟨ha,hb,hc⟩:=bS h
 refine Cl' DE h5 (DK N w0 F0 h5.pers x0 h1 h2 h6 h7 h0 h3 h4 x1 h8 (fun w1 F1 y0 r hd he hf=>h9 w1 F1 y0 r hd he hf) _ hb) ?_
 rintro _ F1 hh hg hk rfl
 refine Vs 2<|Nt<|Rt ?_
 obtain rfl:=Aa hc
 exact Re [(.bool (decide (ha>=0)))] hg rfl
def CK (N:Nat) (x0:Ac) (x1:Ad):Option (List AQ):=
 some [({has_:=x0.Report,n_:=x1.Report,most_:=599,digits_:=1}:AQ),({has_:=x0.Serial,n_:=x1.Serial,most_:=99999,digits_:=3}:AQ),({has_:=x0.Zone,n_:=x1.Zone,most_:=99,digits_:=2}:AQ)]
theorem Et:Af Tryz.prog 138:=fun _ _=>by kernel_rfl
theorem Fc (N:Nat) (w0:World) (F0:Mem) (hF:VY w0 F0) (x0:Ac) (x1:Ad) (r:(List AQ)) (h:CK N x0 x1=some r):
  Calls Tryz.prog 138 ([(.agg (Ah x0)),(.agg (B8 x1))]:List Value).toArray w0 (AF w0 F0 fun F' v=>∃ (h2:VX) (h3:Nat),v=(sL h2 r h3)/\LC r.length h3/\SlA Iq F' h2 r):=by
 have h5:=Vz hF
 refine Go 21 Tryz.func138<|Sq (Rg [0,1,2] ?_)
 refine Bx' 23 (Ah x0) h5 (fun hb hc h6=>?_)
 refine Bx' 32 (B8 x1) h6 (fun hd he h0=>?_)
 refine Vs 1<|Nss (Rg (rG 17) ?_)
 refine Vs 1<|Ld h0.at1<|Vs 1<|Ld h0.at0<|Vs 2<|Ld h0.at1<|Vs 1<|Ld h0.at0<|Vs 2<|Ld h0.at1<|Vs 1<|Ld h0.at0<|Vs 1<|Bs 180 [(.bool x0.Report),(vi x1.Report),(vi 599),(vi 1),(.bool x0.Serial),(vi x1.Serial),(vi 99999),(vi 3),(.bool x0.Zone),(vi x1.Zone),(vi 99),(vi 2)] h0 (fun h1 hf h7=>?_)
 have h4:An Iq 180 F0 (some ⟨h1,0,none⟩) 3 [({has_:=x0.Report,n_:=x1.Report,most_:=599,digits_:=1}:AQ),({has_:=x0.Serial,n_:=x1.Serial,most_:=99999,digits_:=3}:AQ),({has_:=x0.Zone,n_:=x1.Zone,most_:=99,digits_:=2}:AQ)] (some h1,.cells ([(.bool x0.Report),(vi x1.Report),(vi 599),(vi 1),(.bool x0.Serial),(vi x1.Serial),(vi 99999),(vi 3),(.bool x0.Zone),(vi x1.Zone),(vi 99),(vi 2)]:List Value).toArray 180 (0,0)):=VO ⟨rfl,⟨rfl,⟨rfl,rfl⟩⟩⟩ (by simp)
 refine Vs 1<|Nt<|Rt ?_
 have h8:=VM h4
 obtain ⟨F1,h9,hg,ha⟩:=h7.fr0 h4
 obtain rfl:=Aa h
 exact Re [(.slice (some ⟨h1,0,none⟩) [({has_:=x0.Report,n_:=x1.Report,most_:=599,digits_:=1}:AQ),({has_:=x0.Serial,n_:=x1.Serial,most_:=99999,digits_:=3}:AQ),({has_:=x0.Zone,n_:=x1.Zone,most_:=99,digits_:=2}:AQ)].length 3)] h9 ⟨(some ⟨h1,0,none⟩),3,rfl,h8,ha⟩
def FQ (N:Nat) (x0 x1 x2:Int):Option Bool:=
 some ((decide (x0>=x1))&&(decide (x0<=x2)))
theorem GA:Af Tryz.prog 140:=fun _ _=>by kernel_rfl
theorem Hg (N:Nat) (w0:World) (F0:Mem) (hF:VY w0 F0) (x0 x1 x2:Int) (r:Bool) (h:FQ N x0 x1 x2=some r):
  Calls Tryz.prog 140 ([(vi x0),(vi x1),(vi x2)]:List Value).toArray w0 (AF w0 F0 fun F' v=>v=(.bool r)):=by
 have h1:=Vz hF
 refine Go 15 Tryz.func140<|Sq (Rg [0] ?_)
 refine Vs 1<|Nss (Rg (rG 9) ?_)
 refine VD (fun f w=>∃ (F1:Mem),HS w0 F0 w F1 []/\Vx F0 F1/\FI f [] [(6,(.bool ((decide (x0>=x1))&&(decide (x0<=x2)))))]) ?_ ?_
 ·refine Vs 4 ?_
  refine VC (decide (x0>=x1)) (fun h0=>?_) (fun h0=>?_)
  ·refine Vgs h0 3 ?_
   refine Pk1 h0<|Vs 1 ?_
   exact Vt ⟨rfl,F0,h1,(Vy _),(fJ ⟨(congrArg Value.bool (Pp h0 rfl)),trivial⟩)⟩
  ·refine Ss h0 3 ?_
   refine Pk0 h0<|Vs 1 ?_
   exact Vt ⟨rfl,F0,h1,(Vy _),(fJ ⟨(congrArg Value.bool (Pq h0 rfl)),trivial⟩)⟩
 ·rintro f h3 ⟨F1,h2,h4,⟨_,rfl⟩⟩
  refine Ab<|Rt ?_
  obtain rfl:=Aa h
  exact Re [(.bool ((decide (x0>=x1))&&(decide (x0<=x2))))] h2 rfl
def B5 (N:Nat) (x0:AQ):Option Bool:=
 (((FQ N x0.n_ 1 x0.most_).bind fun h0=>(bif (!(x0.has_==h0)) then some true else (bif (!x0.has_) then some (x0.n_ !=0) else some false))).bind fun h1=>some h1)
theorem Hd:Af Tryz.prog 139:=fun _ _=>by kernel_rfl
theorem HE (N:Nat) (w0:World) (F0:Mem) (hF:VY w0 F0) (x0:AQ) (r:Bool) (h:B5 N x0=some r):
  Calls Tryz.prog 139 ([(.agg (Iz x0))]:List Value).toArray w0 (AF w0 F0 fun F' v=>v=(.bool r)):=by
 have h7:=Vz hF
 refine Go 21 Tryz.func139<|Sq (Rg [0,1] ?_)
 refine Bx' 180 (Iz x0) h7 (fun h1 hl h8=>?_)
 refine Vs 1<|Nss ?_
 obtain ⟨h5,h9,ha⟩:=bS h
 refine RD 19 19 [(sb h1 (Iz x0) 180)] [] h8 (fun f w=>∃ (F1:Mem),HS w0 F0 w F1 []/\Vx F0 F1/\FI f [] [(2,(.bool h5))]) (fun hb h6=>?_) ?_
 ·refine Dvl [0] (tf 1 18) ?_
  refine Dl 1 (fun _ hq=>(hq.1.2 0 _ _ rfl))<|Dvl [2] (tf 3 16)<|Dl 3 (fun _ hq=>(hq.1.2 0 _ _ rfl))<|Dvl [4] (tf 5 14)<|Dl 5 (fun _ hq=>(hq.1.2 0 _ _ rfl))<|D1 6 ?_
  obtain ⟨hm,hc,hd⟩:=bS h9
  refine DCl GA h6 (Hg N hb F0 h6.pers x0.n_ 1 x0.most_ _ hc) ?_
  rintro _ F2 hn h3 h4 rfl
  refine Dvl [7,8] (tf 9 10)<|Sd hd (fun h0 he=>?_) (fun h0 hf=>?_)
  ·refine Dkl [(9,12),(10,13),(11,14),(12,15)] 8 false 11 h0 (tf 13 6) ?_
   refine Dul [(13,16),(14,17),(15,18)] 12 true 15 (tf 16 3)<|Dkl [(16,19)] 8 false 11 h0 (tf 17 2)<|Dtl 17 20 4 _ (tf 18 1) (fun _ hq=>p1 11 (.const (.bool true)) (.tmp 19) (.bool true) h0)<|Dvl [18] (tf 19 0) ?_
   obtain rfl:=Aa he
   exact VK (by kernel_rfl) ⟨F2,h3.dr0,h4,fI⟩
  ·refine Dgl 9 12 0 (pt h1 0) (tf 10 9) 8 false 11 h0 (fun _ hq=>fa 180 1 0 0 1 h1 0 0) ?_
   refine Dgl 10 13 4 _ (tf 11 8) 8 false 11 h0 (fun _ hq=>ld 4 12 h1 0 false 1 (.bool x0.has_) (hq.1.2 0 _ _ rfl))<|Dgl 11 14 4 (.bool (!x0.has_)) (tf 12 7) 8 false 11 h0 (fun _ hq=>JC (t:=4) (x:=(.tmp 13)) (a:=x0.has_) rfl)<|Dgl 12 15 4 _ (tf 13 6) 8 false 11 h0 (fun _ hq=>mv 14 (.bool (!x0.has_)))<|Sd hf (fun h2 hg=>?_) (fun h2 hh=>?_)
   ·refine Dgl 13 16 0 (pt h1 1) (tf 14 5) 12 true 15 h2 (fun _ hq=>fa 180 1 1 1 1 h1 0 1) ?_
    refine Dgl 14 17 3 _ (tf 15 4) 12 true 15 h2 (fun _ hq=>ld 3 16 h1 1 false 1 (vi x0.n_) (hq.1.2 0 _ _ rfl))<|Dgl 15 18 4 (.bool (x0.n_ !=0)) (tf 16 3) 12 true 15 h2 (fun _ hq=>Iu (t:=3) (t':=3) (x:=(.tmp 17)) (y:=(.const (vi 0))) (k:=.i64) (a:=x0.n_) (b:=0) rfl rfl)<|Dgl 16 19 4 _ (tf 17 2) 8 false 11 h0 (fun _ hq=>p1 15 (.tmp 18) (.const (.bool false)) (.bool (x0.n_ !=0)) h2)<|Dtl 17 20 4 _ (tf 18 1) (fun _ hq=>p0 11 (.const (.bool true)) (.tmp 19) (.bool (x0.n_ !=0)) h0)<|Dvl [18] (tf 19 0) ?_
    obtain rfl:=Aa hg
    exact VK (by kernel_rfl) ⟨F2,h3.dr0,h4,fI⟩
   ·refine Dkl [(13,16),(14,17),(15,18)] 12 true 15 h2 (tf 16 3) ?_
    refine Dgl 16 19 4 _ (tf 17 2) 8 false 11 h0 (fun _ hq=>p0 15 (.tmp 18) (.const (.bool false)) (.bool false) h2)<|Dtl 17 20 4 _ (tf 18 1) (fun _ hq=>p0 11 (.const (.bool true)) (.tmp 19) (.bool false) h0)<|Dvl [18] (tf 19 0) ?_
    obtain rfl:=Aa hh
    exact VK (by kernel_rfl) ⟨F2,h3.dr0,h4,fI⟩
 ·rintro f ho ⟨F1,hk,hp,⟨_,rfl⟩⟩
  refine Ab<|Rt ?_
  obtain rfl:=Aa ha
  exact Re [(.bool h5)] hk rfl
def B1 (N:Nat) (x0:Ac) (x1:Ad):Option Bool:=
 ((CK N ({Report:=x0.Report,Serial:=x0.Serial,Zone:=x0.Zone}:Ac) ({Report:=x1.Report,Serial:=x1.Serial,Zone:=x1.Zone}:Ad)).bind fun h0=>((A1 N h0 (fun y0=>B5 N y0)).bind fun h1=>some (!h1)))
theorem Dp:Af Tryz.prog 75:=fun _ _=>by kernel_rfl
theorem DM (N:Nat) (w0:World) (F0:Mem) (hF:VY w0 F0) (x0:Ac) (x1:Ad) (r:Bool) (h:B1 N x0 x1=some r):
  Calls Tryz.prog 75 ([(.agg (Ah x0)),(.agg (B8 x1))]:List Value).toArray w0 (AF w0 F0 fun F' v=>v=(.bool r)):=by
 have h2:=Vz hF
 refine Go 10 Tryz.func75<|Sq (Rg [0,1,2] ?_)
 refine Bx' 23 (Ah x0) h2 (fun hl hm h3=>?_)
 refine Bx' 32 (B8 x1) h3 (fun hn h4 h0=>?_)
 refine Vs 1<|Nss (Rg (rG 6) ?_)
 refine Ld h0.at1<|Ld h0.at0 ?_
 obtain ⟨h5,h6,h7⟩:=bS h
 refine Cl' Et h0 (Fc N h4 F0 h0.pers (({Report:=x0.Report,Serial:=x0.Serial,Zone:=x0.Zone}:Ac)) (({Report:=x1.Report,Serial:=x1.Serial,Zone:=x1.Zone}:Ad)) _ h6) ?_
 rintro _ F1 h8 h1 ho ⟨h9,ha,rfl,hb,hc⟩
 obtain ⟨hd,he,hf⟩:=bS h7
 refine Cl' C8 h1 (Dh N h8 F1 h1.pers h5 h9 ha hb hc 139 [] [] (fun y0=>B5 N y0) Hd (fun w1 F1 y0 r hp hg hh=>HE N w1 F1 hg y0 r hh) _ he) ?_
 rintro _ F2 hq hk hr rfl
 refine Vs 2<|Nt<|Rt ?_
 obtain rfl:=Aa hf
 exact Re [(.bool (!hd))] hk rfl



def Fd (N:Nat) (x0:VW) (x1:Int) (x2:(Int->Option Bool)):Nat->Option (Br Bool Nat):=fun h0=>
 (bif (decide (h0 < (x0).length)) then ((x2 ((Jc x0 h0).1:Int)).bind fun h1=>(bif (!h1) then some (.ret false) else some (.next (h0 + (Jc x0 h0).2)))) else some (.done h0))
def Fe (N:Nat) (x0:VW) (x1:Int) (x2:(Int->Option Bool)):Option Bool:=
 ((AV (Fd N x0 x1 x2) N 0).bind fun o=>o.k (fun r=>some r) (fun h1=>((FQ N (x0.length:Int) 1 x1).bind fun h0=>some h0)))
theorem Fa:Af Tryz.prog 198:=fun _ _=>by kernel_rfl
theorem FO (N:Nat) (w0:World) (F0:Mem) (hF:VY w0 F0) (x0:VW) (x1:Int) (h2:FuncId) (h3 h4:List Value) (x2:Int->Option Bool) (hg:Af Tryz.prog h2) (hh:K6 F0 h2 h3 h4 x2) (r:Bool) (h:Fe N x0 x1 x2=some r):
  Calls Tryz.prog 198 ([(sv x0),(vi x1),(.func (.func h2) h3.toArray h4.toArray)]:List Value).toArray w0 (AF w0 F0 fun F' v=>v=(.bool r)):=by
 have hk:=Vz hF
 refine Go 22 Tryz.func198<|Sq (Rg [0] ?_)
 refine Vs 1<|Nss<|Sq (Rg [0,1] ?_)
 refine Vs 1<|RWP.srange (dst:=(some 10)) (ty:=0) (g:=none) (by kernel_rfl) rfl (t:=9) (x:=(.tmp 9)) (a:=x0) rfl (by kernel_rfl) hk (fun h1 hl (hm:HS w0 F0 hl F0 [(some h1,(.stringIter ⟨(x0).toArray⟩ 0))])=>?_)
 refine Nt ?_
 obtain ⟨h9,hn,ha⟩:=bS h
 refine VE (fun f w=>∃ (hb:Nat) (F2:Mem),h9=.done hb/\HS w0 F0 w F2 []/\Vx F0 F2/\FI f [] [(0,(sv x0)),(1,(vi x1))]) ?_ ?_
 ·refine Bk ?_
  refine Vw (by kernel_rfl) (fun m f w=>∃ (h0:Nat) (F1:Mem),AV (Fd N x0 x1 x2) m h0=some h9/\HS w0 F0 w F1 [(some h1,(.stringIter ⟨(x0).toArray⟩ h0))]/\Vx F0 F1/\FI f [] [(0,(sv x0)),(1,(vi x1)),(2,(.func (.func h2) h3.toArray h4.toArray)),(10,(pt h1 0))]) N ⟨0,F0,hn,hm,(Vy _),fI⟩ ?_
  rintro b7 f b8 ⟨h0,F1,ho,h5,h6,⟨_,rfl⟩⟩
  obtain ⟨hp,b9,rfl,hq,h7⟩:=AO ho
  refine Sq (Rg [0,1] ?_)
  refine Sp hq (fun h8 hr=>?_) (fun h8 hs=>?_)
  ·refine RWP.snext1 (dst:=(some 11)) (ty:=0) (g:=none) (by kernel_rfl) rfl (x:=(.tmp 10)) (b:=h1) (a:=x0) (pos:=h0) (k:=0) rfl h5 rfl h8 (fun hc (hd:HS w0 F0 hc F1 [(some h1,(.stringIter ⟨(x0).toArray⟩ (h0 + (Jc x0 h0).2)))])=>?_)
   refine Vs 1<|Nss<|C1 (rfl:true=true)<|Sc<|Ab<|Bk<|Sq (Rg [0,1] ?_)
   refine Vs 2<|Nss (Rg (rG 4) ?_)
   refine Vs 2 ?_
   obtain ⟨ba,ht,hu⟩:=bS hr
   refine Cq hg hd (hh hc F1 (((Jc x0 h0).1:Int)) _ h6 hd.pers ht) ?_
   rintro _ F3 bb he hv rfl
   refine Vs 1<|Nt<|Cd hu (fun hw hx=>?_) (fun hw hy=>?_)
   ·refine Sq (Rg [0] ?_)
    refine Vs 1<|Nt<|Rt<|AA<|Ae<|AA ?_
    have hret:=B3 hx h7
    subst hret
    refine .inr<|Ae ?_
    obtain rfl:=Aa ha
    exact Re [(.bool false)] he rfl
   ·refine Sc ?_
    refine As ?_
    have hz:=AM hy h7
    exact ⟨hp,Nat.lt_succ_self _,(h0 + (Jc x0 h0).2),F3,hz,he,(h6.t hv),fI⟩
  ·refine RWP.snext0 (dst:=(some 11)) (ty:=0) (g:=none) (by kernel_rfl) rfl (x:=(.tmp 10)) (b:=h1) (a:=x0) (pos:=h0) (k:=0) rfl h5 rfl h8 ?_
   refine Vs 1<|Nss<|C0 (rfl:false=false)<|Ex<|Ar<|Ar<|AD rfl ?_
   have b0:=AP hs h7
   exact .inl ⟨rfl,h0,F1,b0,h5.dr0,h6,fI⟩
 ·rintro f b1 ⟨hb,F2,rfl,hf,bc,⟨_,rfl⟩⟩
  have b2:=BC ha
  refine Ab<|Sq (Rg (rG 5) ?_)
  refine Vs 3 ?_
  obtain ⟨b3,b4,b5⟩:=bS b2
  refine Cl' GA hf (Hg N b1 F2 hf.pers ((x0.length:Int)) 1 x1 _ b4) ?_
  rintro _ F4 bd b6 be rfl
  refine Vs 1<|Nt<|Rt ?_
  obtain rfl:=Aa b5
  exact Re [(.bool b3)] b6 rfl
def Bm (N:Nat) (x0:Int):Option Bool:=
 some ((decide (x0>=48))&&(decide (x0<=57)))
theorem Ft:Af Tryz.prog 199:=fun _ _=>by kernel_rfl
theorem Gp (N:Nat) (w0:World) (F0:Mem) (hF:VY w0 F0) (x0:Int) (r:Bool) (h:Bm N x0=some r):
  Calls Tryz.prog 199 ([(.int .i32 x0)]:List Value).toArray w0 (AF w0 F0 fun F' v=>v=(.bool r)):=by
 have h1:=Vz hF
 refine Go 9 Tryz.func199<|Sq (Rg [0] ?_)
 refine Vs 1<|Nss (Rg (rG 7) ?_)
 refine VD (fun f w=>∃ (F1:Mem),HS w0 F0 w F1 []/\Vx F0 F1/\FI f [] [(2,(.bool ((decide (x0>=48))&&(decide (x0<=57)))))]) ?_ ?_
 ·refine Vs 3 ?_
  refine VC (decide (x0>=48)) (fun h0=>?_) (fun h0=>?_)
  ·refine Vgs h0 2 ?_
   refine Pk1 h0<|Vs 1 ?_
   exact Vt ⟨rfl,F0,h1,(Vy _),(fJ ⟨(congrArg Value.bool (Pp h0 rfl)),trivial⟩)⟩
  ·refine Ss h0 2 ?_
   refine Pk0 h0<|Vs 1 ?_
   exact Vt ⟨rfl,F0,h1,(Vy _),(fJ ⟨(congrArg Value.bool (Pq h0 rfl)),trivial⟩)⟩
 ·rintro f h3 ⟨F1,h2,h4,⟨_,rfl⟩⟩
  refine Ab<|Rt ?_
  obtain rfl:=Aa h
  exact Re [(.bool ((decide (x0>=48))&&(decide (x0<=57))))] h2 rfl
def BS (N:Nat) (x0:Int):Option Bool:=
 some ((decide (x0>=65))&&(decide (x0<=90)))
theorem EX:Af Tryz.prog 264:=fun _ _=>by kernel_rfl
theorem Fx (N:Nat) (w0:World) (F0:Mem) (hF:VY w0 F0) (x0:Int) (r:Bool) (h:BS N x0=some r):
  Calls Tryz.prog 264 ([(.int .i32 x0)]:List Value).toArray w0 (AF w0 F0 fun F' v=>v=(.bool r)):=by
 have h1:=Vz hF
 refine Go 9 Tryz.func264<|Sq (Rg [0] ?_)
 refine Vs 1<|Nss (Rg (rG 7) ?_)
 refine VD (fun f w=>∃ (F1:Mem),HS w0 F0 w F1 []/\Vx F0 F1/\FI f [] [(2,(.bool ((decide (x0>=65))&&(decide (x0<=90)))))]) ?_ ?_
 ·refine Vs 3 ?_
  refine VC (decide (x0>=65)) (fun h0=>?_) (fun h0=>?_)
  ·refine Vgs h0 2 ?_
   refine Pk1 h0<|Vs 1 ?_
   exact Vt ⟨rfl,F0,h1,(Vy _),(fJ ⟨(congrArg Value.bool (Pp h0 rfl)),trivial⟩)⟩
  ·refine Ss h0 2 ?_
   refine Pk0 h0<|Vs 1 ?_
   exact Vt ⟨rfl,F0,h1,(Vy _),(fJ ⟨(congrArg Value.bool (Pq h0 rfl)),trivial⟩)⟩
 ·rintro f h3 ⟨F1,h2,h4,⟨_,rfl⟩⟩
  refine Ab<|Rt ?_
  obtain rfl:=Aa h
  exact Re [(.bool ((decide (x0>=65))&&(decide (x0<=90))))] h2 rfl
def DA (N:Nat) (x0:Int):Option Bool:=
 (((BS N x0).bind fun h0=>(bif h0 then some true else ((Bm N x0).bind fun h1=>some h1))).bind fun h2=>some h2)
theorem M7:Af Tryz.prog 265:=fun _ _=>by kernel_rfl
theorem Ot (N:Nat) (w0:World) (F0:Mem) (hF:VY w0 F0) (x0:Int) (r:Bool) (h:DA N x0=some r):
  Calls Tryz.prog 265 ([(.int .i32 x0)]:List Value).toArray w0 (AF w0 F0 fun F' v=>v=(.bool r)):=by
 have h2:=Vz hF
 refine Go 9 Tryz.func265<|Sq (Rg [0] ?_)
 refine Vs 1<|Nss (Rg (rG 7) ?_)
 obtain ⟨h3,h5,h6⟩:=bS h
 refine VD (fun f w=>∃ (F1:Mem),HS w0 F0 w F1 []/\Vx F0 F1/\FI f [] [(2,(.bool h3))]) ?_ ?_
 ·refine Vs 1 ?_
  obtain ⟨hh,h7,h8⟩:=bS h5
  refine Cl' EX h2 (Fx N w0 F0 h2.pers x0 _ h7) ?_
  rintro _ F2 h9 h1 h4 rfl
  refine Vs 1<|Sp h8 (fun h0 ha=>?_) (fun h0 hb=>?_)
  ·refine Ss h0 2 ?_
   refine Pk1 h0<|Vs 1 ?_
   obtain rfl:=Aa ha
   exact Vt ⟨rfl,F2,h1,h4,fI⟩
  ·refine Vgs h0 1 ?_
   obtain ⟨hk,hc,hd⟩:=bS hb
   refine Cg h0 Ft h1 (Gp N h9 F2 h1.pers x0 _ hc) ?_
   rintro _ F3 hl he hf rfl
   refine Pk0 h0<|Vs 1 ?_
   obtain rfl:=Aa hd
   exact Vt ⟨rfl,F3,he,(h4.t hf),fI⟩
 ·rintro f hm ⟨F1,hg,hn,⟨_,rfl⟩⟩
  refine Ab<|Rt ?_
  obtain rfl:=Aa h6
  exact Re [(.bool h3)] hg rfl
section
open Go.Proofs Go.RowKit Go.Sort Go.Lib
def Fg (p:Int->Option Bool) (x:Nat):Bool:=(p (x:Int)).getD false
def Ow (p:Int->Option Bool):Prop:=∀ x:Nat,x<=1114111->(p (x:Int)).isSome=true
def JF (p:Int->Option Bool):Bool:=(List.range 1114112).all fun x=>(p (x:Int)).isSome
theorem HM {p:Int->Option Bool}:JF p=true ↔ Ow p:=by
 unfold JF Ow
 rw [List.all_eq_true]
 exact ⟨fun h x hx=>h x (by rw [List.mem_range];omega),fun h x hx=>h x (by rw [List.mem_range] at hx;omega)⟩
theorem Nv {w:World} {F:Mem} (hF:∀ b o,F b=some o->w.heap[b]? =some o) {gq:FuncId} {k:List Value} {p:Int->Option Bool} (h:K6 F gq [] k p) (ha:Ow p):PredGrows Tryz.prog gq k.toArray (Fg p) w:=by
 intro W x hx hb
 have hr:=ha x hx
 obtain ⟨r,hr'⟩:=Option.isSome_iff_exists.1 hr
 have:=h W F (x:Int) r (Vy F) (Below.pers hF hb) hr'
 have e:Fg p x=r:=by unfold Fg;rw [hr'];rfl
 rw [e]
 have he:(#[encR x]++k.toArray:Array Value)=(([]:List Value)++(([.int .i32 (x:Int)]:List Value)++k)).toArray:=by
  apply Array.ext';simp [encR]
 rw [he]
 refine this.mono ?_
 rintro e w' ⟨v,F',rfl,hs,rfl⟩
 exact ⟨rfl,hs.fix.1,hs.fix.2.2,hs.fix.2.1,hs.size,hs.keep⟩
def Cu (_N:Nat) (x0:VW) (x1:Int->Option Bool):Option Int:=
 if JF x1=true then some (Go.Lib.idxFunc (Fg x1) true ⟨x0.toArray⟩) else none
theorem H0:Af Tryz.prog 266:=fun _ _=>by kernel_rfl
theorem IK (N:Nat) (w0:World) (F0:Mem) (hF:VY w0 F0) (x0:VW) (h0:FuncId) (h1:List Value) (x1:Int->Option Bool) (h2:Af Tryz.prog h0) (h3:K6 F0 h0 [] h1 x1) (r:Int) (h:Cu N x0 x1=some r):
  Calls Tryz.prog 266 ([(.string ⟨(x0).toArray⟩),(.func (.func h0) ([]:List Value).toArray h1.toArray)]:List Value).toArray w0 (AF w0 F0 fun _ v=>v=(.int .i64 r)):=by
 unfold Cu at h
 split at h
 ·rename_i ha
  cases h
  exact VT hF (Tryz.strings_IndexFunc_grows h0 h1.toArray h2 _ _ w0 (Nv hF h3 (HM.1 ha))) rfl
 ·cases h
def Ch (_N:Nat) (x0:VW) (x1:Int->Option Bool) (x2:Bool):Option Int:=
 if JF x1=true/\x0.length<=9223372036854775807 then some (Go.Lib.lastIdxFunc (Fg x1) x2 ⟨x0.toArray⟩) else none
theorem Gu:Af Tryz.prog 284:=fun _ _=>by kernel_rfl
theorem GU (N:Nat) (w0:World) (F0:Mem) (hF:VY w0 F0) (hG:Bu F0) (x0:VW) (h0:FuncId) (h1:List Value) (x1:Int->Option Bool) (h2:Af Tryz.prog h0) (h3:K6 F0 h0 [] h1 x1) (x2:Bool) (r:Int) (h:Ch N x0 x1 x2=some r):
  Calls Tryz.prog 284 ([(.string ⟨(x0).toArray⟩),(.func (.func h0) ([]:List Value).toArray h1.toArray),(.bool x2)]:List Value).toArray w0 (AF w0 F0 fun _ v=>v=(.int .i64 r)):=by
 unfold Ch at h
 split at h
 ·rename_i ha
  cases h
  exact VT hF (Tryz.strings_lastIndexFunc_grows h0 h1.toArray h2 _ _ _ w0 (by simpa [ByteArray.size] using ha.2) (hG w0 hF).2.1 (Nv hF h3 (HM.1 ha.1))) rfl
 ·cases h
def NL (s sep:VW):List VW:=(Go.Lib.splitB ⟨sep.toArray⟩ 0 (Go.Lib.countB ⟨s.toArray⟩ ⟨sep.toArray⟩) ⟨s.toArray⟩).map (·.data.toList)
def strings_Split (_N:Nat) (s sep:VW):Option (List VW):=if s.length < 4294967281/\1<=sep.length then some (NL s sep) else none
theorem CF:Af Tryz.prog 93:=fun _ _=>by kernel_rfl
theorem C3 (N:Nat) (w0:World) (F0:Mem) (hF:VY w0 F0) (hG:Bu F0) (x0 x1:VW) (r:List VW) (h:strings_Split N x0 x1=some r):
  Calls Tryz.prog 93 ([(.string ⟨(x0).toArray⟩),(.string ⟨(x1).toArray⟩)]:List Value).toArray w0 (AF w0 F0 fun F' v=>∃ (h0:VX) (h2:Nat),v=(.slice h0 r.length h2)/\LC r.length h2/\SlA AU F' h0 r):=by
 unfold strings_Split at h
 split at h
 ·rename_i ha
  cases h
  obtain ⟨m,hm⟩:=(hG w0 hF).2.2.1
  have hs:(⟨x0.toArray⟩:ByteArray).size < 4294967281:=by simpa [ByteArray.size] using ha.1
  have h1:1<=(⟨x1.toArray⟩:ByteArray).size:=by simpa [ByteArray.size] using ha.2
  have hle:=Go.Lib.countB_le ⟨x1.toArray⟩ h1 _ ⟨x0.toArray⟩ (Nat.le_refl _)
  exact AF.strs hF (Tryz.strings_Split _ _ m w0 hs hm h1) (Go.Lib.splitB_all ⟨x1.toArray⟩ h1 0 _ _ rfl) (by omega)
 ·cases h
def strings_Cut (_N:Nat) (s sep:VW):Option (VW×VW×Bool):=if s.length < 4294967281 then some (Go.Lib.cut s sep) else none
theorem H1:Af Tryz.prog 164:=fun _ _=>by kernel_rfl
theorem I6 (N:Nat) (w0:World) (F0:Mem) (hF:VY w0 F0) (hG:Bu F0) (x0 x1:VW) (r:VW×VW×Bool) (h:strings_Cut N x0 x1=some r):
  Calls Tryz.prog 164 ([(.string ⟨(x0).toArray⟩),(.string ⟨(x1).toArray⟩)]:List Value).toArray w0 (AF w0 F0 fun _ v=>v=(.tuple #[(.string ⟨(r.1).toArray⟩),(.string ⟨(r.2.1).toArray⟩),(.bool r.2.2)])):=by
 unfold strings_Cut at h
 split at h
 ·rename_i ha
  cases h
  obtain ⟨m,hm⟩:=(hG w0 hF).2.2.1
  refine VT hF ((Tryz.strings_Cut ⟨x0.toArray⟩ ⟨x1.toArray⟩ m w0 (by simpa [ByteArray.size] using ha) hm).mono ?_) rfl
  rintro e w' ⟨rfl,n,rfl⟩
  exact ⟨rfl,Pl _ _⟩
 ·cases h
def strings_Repeat (_N:Nat) (s:VW) (n:Int):Option VW:=if 0<=n/\n<=9223372036854775807/\s.length * n.toNat<=140737488355328 then some (Go.Lib.repeatL s n.toNat) else none
theorem JW:Af Tryz.prog 186:=fun _ _=>by kernel_rfl
theorem KA (N:Nat) (w0:World) (F0:Mem) (hF:VY w0 F0) (x0:VW) (x1:Int) (r:VW) (h:strings_Repeat N x0 x1=some r):
  Calls Tryz.prog 186 ([(.string ⟨(x0).toArray⟩),(.int .i64 x1)]:List Value).toArray w0 (AF w0 F0 fun _ v=>v=(.string ⟨(r).toArray⟩)):=by
 unfold strings_Repeat at h
 split at h
 ·rename_i ha
  cases h
  have e:(x1.toNat:Int)=x1:=by omega
  have:=Tryz.strings_Repeat ⟨x0.toArray⟩ x1.toNat w0 (by omega) (by simpa [ByteArray.size] using ha.2.2)
  rw [e] at this
  exact VT hF this rfl
 ·cases h
def strings_Join (_N:Nat) (l:List VW) (sep:VW):Option VW:=if l.length<=140737488355328/\(Go.Lib.join l sep).length<=140737488355328 then some (Go.Lib.join l sep) else none
theorem Co:Af Tryz.prog 84:=fun _ _=>by kernel_rfl
theorem CI (N:Nat) (w0:World) (F0:Mem) (hF:VY w0 F0) (x0:(List VW)) (h1:VX) (h0:Nat) (h2:LC x0.length h0) (h3:SlA AU F0 h1 x0) (x1 r:VW) (h:strings_Join N x0 x1=some r):
  Calls Tryz.prog 84 ([(.slice h1 x0.length h0),(.string ⟨(x1).toArray⟩)]:List Value).toArray w0 (AF w0 F0 fun _ v=>v=(.string ⟨(r).toArray⟩)):=by
 unfold strings_Join at h
 split at h
 ·rename_i ha
  cases h
  rcases h3 with rfl | ⟨b,o,C,E,fz,rfl,hC,hx⟩
  ·refine VT hF ((Tryz.strings_Join_none h1 h0 ⟨x1.toArray⟩ w0).mono ?_) rfl
   rintro e w' ⟨rfl,rfl⟩
   exact ⟨rfl,Below.refl _ _⟩
  ·have hb:=hF _ _ hC
   have hmap:(x0.map fun l=>(⟨l.toArray⟩:ByteArray)).map (·.data.toList)=x0:=by
    rw [List.map_map];conv=>rhs;rw [<-List.map_id x0]
    exact List.map_congr_left fun l _=>by simp
   have:=Tryz.strings_Join b o h0 (x0.map fun l=>⟨l.toArray⟩) ⟨x1.toArray⟩ w0 (fun j x hj=>by
    rw [List.getElem?_map] at hj
    cases hl:x0[j]? with
    | none=>rw [hl] at hj;cases hj
    | some l=>
     rw [hl] at hj
     cases hj
     have hc:Am C (o + j * 1) 1=[.string ⟨l.toArray⟩]:=hx j l hl
     rw [Nat.mul_one] at hc
     have:=Ic.1 hc
     simp [World.cell?,hb,this]) (Bc hb) (by simpa using ha.1) (by simpa using h2.1) (by rw [hmap];exact ha.2)
   rw [hmap,List.length_map] at this
   exact VT hF this rfl
 ·cases h
def strconv_Itoa (_N:Nat) (n:Int):Option VW:=if -9223372036854775808<=n/\n<=9223372036854775807 then some (Go.Lib.itoa n) else none
theorem BM:Af Tryz.prog 85:=fun _ _=>by kernel_rfl
theorem BV (N:Nat) (w0:World) (F0:Mem) (hF:VY w0 F0) (hG:Bu F0) (x0:Int) (r:VW) (h:strconv_Itoa N x0=some r):
  Calls Tryz.prog 85 ([(.int .i64 x0)]:List Value).toArray w0 (AF w0 F0 fun _ v=>v=(.string ⟨(r).toArray⟩)):=by
 unfold strconv_Itoa at h
 split at h
 ·rename_i ha
  cases h
  refine VT hF ((Tryz.strconv_Itoa x0 ha.1 ha.2 w0 (hG w0 hF).1).mono ?_) rfl
  rintro e w' ⟨rfl,k,os,rfl⟩
  exact ⟨rfl,rfl,rfl,rfl,by simp [grow,World.drewN],fun j hj=>by
   show ((w0.drewN k).heap++os)[j]? =_
   rw [Array.getElem?_append_left (show j < (w0.drewN k).heap.size from hj)];rfl⟩
 ·cases h
def Ek (_N:Nat) (s:VW):Option (Int×Bool):=if s.length<=281474976710656 then (match Go.Lib.atoiAll s with
 | .ok v=>some (v,false)
 | .range=>some (Go.Lib.atoiSat s,true)
 | _=>some (0,true)) else none
theorem Hs:Af Tryz.prog 163:=fun _ _=>by kernel_rfl
theorem Ih (N:Nat) (w0:World) (F0:Mem) (hF:VY w0 F0) (hG:Bu F0) (x0:VW) (r:Int×Bool) (h:Ek N x0=some r):
  Calls Tryz.prog 163 ([(.string ⟨(x0).toArray⟩)]:List Value).toArray w0 (AF w0 F0 fun _ v=>∃ (h0:Value),v=(.tuple #[(.int .i64 r.1),h0])/\U2 r.2 h0):=by
 unfold Ek at h
 split at h
 ·rename_i ha
  have hsz:(⟨x0.toArray⟩:ByteArray).size<=281474976710656:=by simpa [ByteArray.size] using ha
  cases hv:Go.Lib.atoiAll x0 with
  | ok v=>
   rw [hv] at h
   cases h
   refine VT hF ((Tryz.strconv_Atoi_ok ⟨x0.toArray⟩ (by omega) v (by simpa using hv) w0).mono ?_) ⟨.nilIface,rfl,rfl⟩
   rintro e w' ⟨rfl,(rfl | ⟨t,rfl⟩)⟩
   ·exact ⟨rfl,Below.refl _ _⟩
   ·exact ⟨rfl,rfl,rfl,rfl,by rw [Go.Lib.bytesWorld_size];omega,fun j hj=>Go.Lib.bytesWorld_at_old w0 _ _ j hj⟩
  | range=>
   rw [hv] at h
   cases h
   obtain ⟨tp,p,hvar⟩:=(hG w0 hF).2.2.2.1
   refine (Tryz.strconv_Atoi_range_var ⟨x0.toArray⟩ hsz (by simpa using hv) tp p w0 hvar).mono ?_
   rintro e w' ⟨n,rfl,_,_,hb⟩
   exact ⟨_,F0,rfl,HS.below hF hb,_,rfl,_,_,rfl⟩
  | _=>
   rw [hv] at h
   cases h
   obtain ⟨tp,p,hvar⟩:=(hG w0 hF).2.2.2.2
   refine (Tryz.strconv_Atoi_syntax_var ⟨x0.toArray⟩ hsz (by simpa using hv) tp p w0 hvar).mono ?_
   rintro e w' ⟨n,rfl,_,_,hb⟩
   exact ⟨_,F0,rfl,HS.below hF hb,_,rfl,_,_,rfl⟩
 ·cases h
def strings_Index (_N:Nat) (s sub:VW):Option Int:=if s.length < 4294967281 then some (Go.Lib.index s sub) else none
theorem GR:Af Tryz.prog 98:=fun _ _=>by kernel_rfl
theorem Hv (N:Nat) (w0:World) (F0:Mem) (hF:VY w0 F0) (hG:Bu F0) (x0 x1:VW) (r:Int) (h:strings_Index N x0 x1=some r):
  Calls Tryz.prog 98 ([(.string ⟨(x0).toArray⟩),(.string ⟨(x1).toArray⟩)]:List Value).toArray w0 (AF w0 F0 fun _ v=>v=(.int .i64 r)):=by
 unfold strings_Index at h
 split at h
 ·rename_i ha
  cases h
  obtain ⟨m,hm⟩:=(hG w0 hF).2.2.1
  exact VT hF ((Tryz.strings_Index ⟨x0.toArray⟩ ⟨x1.toArray⟩ m w0 (by simpa [ByteArray.size] using ha) hm).mono fun e w' ⟨he,hw⟩=>⟨he,hw ▸ Below.refl _ _⟩) rfl
 ·cases h
def strings_CutPrefix (_N:Nat) (s p:VW):Option (VW×Bool):=some (Go.Lib.trimPrefix s p,Go.Lib.hasPrefix s p)
theorem A7:Af Tryz.prog 189:=fun _ _=>by kernel_rfl
theorem Bb (N:Nat) (w0:World) (F0:Mem) (hF:VY w0 F0) (x0 x1:VW) (r:VW×Bool) (h:strings_CutPrefix N x0 x1=some r):
  Calls Tryz.prog 189 ([(.string ⟨(x0).toArray⟩),(.string ⟨(x1).toArray⟩)]:List Value).toArray w0 (AF w0 F0 fun _ v=>v=(.tuple #[(.string ⟨(r.1).toArray⟩),(.bool r.2)])):=by
 cases h
 exact VT hF ((Tryz.strings_CutPrefix ⟨x0.toArray⟩ ⟨x1.toArray⟩ w0).mono fun e w' ⟨he,hw⟩=>⟨he,hw ▸ Below.refl _ _⟩) rfl
def strings_TrimSuffix (_N:Nat) (s p:VW):Option VW:=if s.length<=9223372036854775807 then some (Go.Lib.trimSuffix s p) else none
theorem HA:Af Tryz.prog 117:=fun _ _=>by kernel_rfl
theorem Ig (N:Nat) (w0:World) (F0:Mem) (hF:VY w0 F0) (x0 x1 r:VW) (h:strings_TrimSuffix N x0 x1=some r):
  Calls Tryz.prog 117 ([(.string ⟨(x0).toArray⟩),(.string ⟨(x1).toArray⟩)]:List Value).toArray w0 (AF w0 F0 fun _ v=>v=(.string ⟨(r).toArray⟩)):=by
 unfold strings_TrimSuffix at h
 split at h
 ·rename_i ha
  cases h
  exact VT hF ((Tryz.strings_TrimSuffix ⟨x0.toArray⟩ ⟨x1.toArray⟩ w0 (by simpa [ByteArray.size] using ha)).mono fun e w' ⟨he,hw⟩=>⟨he,hw ▸ Below.refl _ _⟩) rfl
 ·cases h
end
def Ff (N:Nat) (x0:VW):Option Bool:=
 (((Fe N x0 4 (fun y0=>DA N y0)).bind fun h0=>(bif h0 then ((Cu N x0 (fun y0=>BS N y0)).bind fun h1=>some (decide (h1>=0))) else some false)).bind fun h2=>some h2)
theorem Ib:Af Tryz.prog 225:=fun _ _=>by kernel_rfl
theorem Js (N:Nat) (w0:World) (F0:Mem) (hF:VY w0 F0) (x0:VW) (r:Bool) (h:Ff N x0=some r):
  Calls Tryz.prog 225 ([(sv x0)]:List Value).toArray w0 (AF w0 F0 fun F' v=>v=(.bool r)):=by
 have h4:=Vz hF
 refine Go 10 Tryz.func225<|Sq (Rg [0] ?_)
 refine Vs 1<|Nss (Rg (rG 8) ?_)
 obtain ⟨h5,h7,h8⟩:=bS h
 refine VD (fun f w=>∃ (F1:Mem),HS w0 F0 w F1 []/\Vx F0 F1/\FI f [] [(2,(.bool h5))]) ?_ ?_
 ·refine Vs 1 ?_
  obtain ⟨hm,h9,ha⟩:=bS h7
  refine Cl' Fa h4 (FO N w0 F0 h4.pers x0 4 265 [] [] (fun y0=>DA N y0) M7 (fun w1 F1 y0 r hb h1 h2=>Ot N w1 F1 h1 y0 r h2) _ h9) ?_
  rintro _ F2 hc h3 h6 rfl
  refine Vs 1<|Sp ha (fun h0 hd=>?_) (fun h0 he=>?_)
  ·refine Vgs h0 1 ?_
   obtain ⟨hn,hf,hg⟩:=bS hd
   refine Cg h0 H0 h3 (IK N hc F2 h3.pers x0 264 [] (fun y0=>BS N y0) EX (fun w1 F1 y0 r hb h1 h2=>Fx N w1 F1 h1 y0 r h2) _ hf) ?_
   rintro _ F3 ho hh hk rfl
   refine Vgs h0 1<|Pk1 h0<|Vs 1 ?_
   obtain rfl:=Aa hg
   exact Vt ⟨rfl,F3,hh,(h6.t hk),fI⟩
  ·refine Ss h0 3 ?_
   refine Pk0 h0<|Vs 1 ?_
   obtain rfl:=Aa he
   exact Vt ⟨rfl,F2,h3,h6,fI⟩
 ·rintro f hp ⟨F1,hl,hq,⟨_,rfl⟩⟩
  refine Ab<|Rt ?_
  obtain rfl:=Aa h8
  exact Re [(.bool h5)] hl rfl
def BN (N:Nat) (x0:VW) (x1:(Int->Option Bool)):Option Int:=
 ((Ch N x0 x1 true).bind fun h0=>some h0)
theorem Gv:Af Tryz.prog 263:=fun _ _=>by kernel_rfl
theorem GV (N:Nat) (w0:World) (F0:Mem) (hF:VY w0 F0) (hG:Bu F0) (x0:VW) (h0:FuncId) (h1:List Value) (x1:Int->Option Bool) (h3:Af Tryz.prog h0) (h4:K6 F0 h0 [] h1 x1) (r:Int) (h:BN N x0 x1=some r):
  Calls Tryz.prog 263 ([(sv x0),(.func (.func h0) ([]:List Value).toArray h1.toArray)]:List Value).toArray w0 (AF w0 F0 fun F' v=>v=(vi r)):=by
 have h2:=Vz hF
 refine Go 8 Tryz.func263<|Sq (Rg [0] ?_)
 refine Vs 1<|Nss (Rg (rG 4) ?_)
 refine Vs 2 ?_
 obtain ⟨h5,h6,h7⟩:=bS h
 refine Cl' Gu h2 (GU N w0 F0 h2.pers hG x0 h0 h1 x1 h3 (fun w1 F1 y0 r h8 h9 ha=>h4 w1 F1 y0 r h8 h9 ha) true _ h6) ?_
 rintro _ F1 hc hb hd rfl
 refine Vs 1<|Nt<|Rt ?_
 obtain rfl:=Aa h7
 exact Re [(vi h5)] hb rfl
def Kf (N:Nat) (x0:VW):Option (VW×VW×Bool):=
 ((BN N x0 (fun y0=>Bm N y0)).bind fun h1=>(((MX x0 0 (W64 (h1 + 1))).bind fun h2=>((MX x0 (W64 (h1 + 1)) (x0.length:Int)).bind fun h3=>some (h2,h3))).bind fun h0=>((bif (decide ((W64 (h1 + 1)) > 0)) then ((Ff N h0.1).bind fun h4=>(bif h4 then ((Fe N h0.2 4 (fun y0=>BS N y0)).bind fun h5=>some h5) else some false)) else some false).bind fun h6=>some (h0.1,h0.2,h6))))
theorem Pd:Af Tryz.prog 222:=fun _ _=>by kernel_rfl
theorem P8 (N:Nat) (w0:World) (F0:Mem) (hF:VY w0 F0) (hG:Bu F0) (x0:VW) (r:(VW×VW×Bool)) (h:Kf N x0=some r):
  Calls Tryz.prog 222 ([(sv x0)]:List Value).toArray w0 (AF w0 F0 fun F' v=>v=(.tuple #[(sv r.1),(sv r.2.1),(.bool r.2.2)])):=by
 have h8:=Vz hF
 refine Go 27 Tryz.func222<|Sq (Rg [0,1,2] ?_)
 refine Vs 3<|Nss (Rg (rG 4) ?_)
 refine Vs 1 ?_
 obtain ⟨h3,hd,he⟩:=bS h
 refine Cl' Gv h8 (GV N w0 F0 h8.pers hG x0 199 [] (fun y0=>Bm N y0) Ft (fun w1 F1 y0 r hf h4 h5=>Gp N w1 F1 h4 y0 r h5) _ hd) ?_
 rintro _ F1 b6 hg b7 rfl
 refine Vs 2<|Nss ?_
 obtain ⟨h0,hh,hk⟩:=bS he
 refine RD 8 8 [] [] hg (fun f w=>∃ (F2:Mem),HS w0 F0 w F2 []/\Vx F1 F2/\FI f [] [(2,(sv h0.1)),(3,(sv h0.2)),(5,(vi (W64 (h3 + 1))))]) (fun b8 hl=>?_) ?_
 ·refine Dv [0,1] ?_
  obtain ⟨h9,hm,hn⟩:=bS hh
  refine Dt 2 11 9 (sv h9) (fun _ hq=>JB (t:=9) (x:=(.tmp 9)) (lo:=none) (hi:=(some (.tmp 10))) (a:=x0) (il:=0) (ih:=(W64 (h3 + 1))) (v:=h9) rfl (by kernel_rfl) rfl rfl hm)<|Dv [3,4] ?_
  obtain ⟨ha,ho,hp⟩:=bS hn
  refine Dt 5 14 9 (sv ha) (fun _ hq=>JB (t:=9) (x:=(.tmp 12)) (lo:=(some (.tmp 13))) (hi:=none) (a:=x0) (il:=(W64 (h3 + 1))) (ih:=(x0.length:Int)) (v:=ha) rfl (by kernel_rfl) rfl rfl ho)<|Dv [6,7] ?_
  obtain rfl:=Aa hp
  exact VK (by kernel_rfl) ⟨F1,hl,(Vy _),fI⟩
 ·rintro f hr ⟨F2,h6,b9,⟨_,rfl⟩⟩
  refine Ab<|Sq (Rg (rG 15) ?_)
  obtain ⟨hb,hs,ht⟩:=bS hk
  refine VD (fun f w=>∃ (F3:Mem),HS w0 F0 w F3 []/\Vx F2 F3/\FI f [] [(2,(sv h0.1)),(3,(sv h0.2)),(4,(.bool hb))]) ?_ ?_
  ·refine Vs 5 ?_
   refine Sp hs (fun h1 hu=>?_) (fun h1 hv=>?_)
   ·refine Vgs h1 1 ?_
    obtain ⟨ba,hw,hx⟩:=bS hu
    refine Cg h1 Ib h6 (Js N hr F2 h6.pers h0.1 _ hw) ?_
    rintro _ F4 hy h7 hc rfl
    refine Pk1 h1<|Vs 1<|Sp hx (fun h2 hz=>?_) (fun h2 b0=>?_)
    ·refine Vgs h2 1 ?_
     obtain ⟨bb,b1,b2⟩:=bS hz
     refine Cg h2 Fa h7 (FO N hy F4 h7.pers h0.2 4 264 [] [] (fun y0=>BS N y0) EX (fun w1 F1 y0 r hf h4 h5=>Fx N w1 F1 h4 y0 r h5) _ b1) ?_
     rintro _ F5 bc b3 b4 rfl
     refine Pk1 h2<|Vs 3 ?_
     obtain rfl:=Aa b2
     exact Vt ⟨rfl,F5,b3,(hc.t b4),fI⟩
    ·refine Ss h2 2 ?_
     refine Pk0 h2<|Vs 3 ?_
     obtain rfl:=Aa b0
     exact Vt ⟨rfl,F4,h7,hc,fI⟩
   ·refine Ss h1 2 ?_
    refine Pk0 h1<|Vs 1<|Ss (rfl:false=false) 2<|Pk0 (rfl:false=false)<|Vs 3 ?_
    obtain rfl:=Aa hv
    exact Vt ⟨rfl,F2,h6,(Vy _),fI⟩
  ·rintro f bd ⟨F3,b5,be,⟨_,rfl⟩⟩
   refine Ab<|Rt ?_
   obtain rfl:=Aa ht
   exact Re [(sv h0.1),(sv h0.2),(.bool hb)] b5 rfl
def AE (N:Nat) (x0:VW):Option (Bj×Bool):=
 ((Kf N x0).bind fun h0=>some (({Area:=([]:VW),Prefix:=h0.1,Suffix:=h0.2.1,Stroke:=([]:VW)}:Bj),h0.2.2))
theorem Eu:Af Tryz.prog 221:=fun _ _=>by kernel_rfl
theorem E3 (N:Nat) (w0:World) (F0:Mem) (hF:VY w0 F0) (hG:Bu F0) (x0:VW) (r:(Bj×Bool)) (h:AE N x0=some r):
  Calls Tryz.prog 221 ([(sv x0)]:List Value).toArray w0 (AF w0 F0 fun F' v=>v=(.tuple #[(.agg (CU r.1)),(.bool r.2)])):=by
 have h3:=Vz hF
 refine Go 17 Tryz.func221<|Sq (Rg [0,1] ?_)
 refine Al' 186 #[(sv (([]:VW))),(sv (([]:VW))),(sv (([]:VW))),(sv (([]:VW)))] h3 (fun h4 h5 h1=>?_)
 refine Vs 1<|Nss (Rg (rG 9) ?_)
 refine Vs 1 ?_
 obtain ⟨h0,h6,h7⟩:=bS h
 refine Cl' Pd h1 (P8 N h5 F0 h1.pers hG x0 _ h6) ?_
 rintro _ F1 h9 h8 ha rfl
 refine Vs 7<|Nss (Rg (rG 6) ?_)
 refine Vs 4<|St0 #[(sv (([]:VW))),(sv h0.1),(sv h0.2.1),(sv (([]:VW)))] h8 (fun hb h2=>?_)
 refine Vs 1<|Nt<|Rt ?_
 obtain rfl:=Aa h7
 exact ⟨rfl,(.tuple #[(.agg #[(sv (([]:VW))),(sv h0.1),(sv h0.2.1),(sv (([]:VW)))]),(.bool h0.2.2)]),AH (l:=[.cell 2 186,.tmp 3]) (by kernel_rfl) (vs:=[(.agg #[(sv (([]:VW))),(sv h0.1),(sv h0.2.1),(sv (([]:VW)))]),(.bool h0.2.2)]) ⟨h4,0,rfl,Aj (t:=186) (g:=true) (s:=4) (by kernel_rfl) h2.at0 rfl (by decide),⟨rfl,trivial⟩⟩,(.tuple #[(.agg #[(sv (([]:VW))),(sv h0.1),(sv h0.2.1),(sv (([]:VW)))]),(.bool h0.2.2)]),F1,rfl,h2.clear,rfl⟩
def Dz (N:Nat) (x0:(List VW)) (z0:(VW->Option (Bj×Bool))):Option (Bj×Bool):=
 (((idx x0 0).bind fun h2=>((z0 h2).bind fun h0=>some (h0.2,h0.1.Area,h0.1.Prefix,h0.1.Suffix,h0.1.Stroke))).bind fun h1=>some (({Area:=h1.2.1,Prefix:=h1.2.2.1,Suffix:=h1.2.2.2.1,Stroke:=h1.2.2.2.2}:Bj),h1.1))
theorem ML:Af Tryz.prog 223:=fun _ _=>by kernel_rfl
theorem Nf (N:Nat) (w0:World) (F0:Mem) (hF:VY w0 F0) (x0:(List VW)) (h6:VX) (h7:Nat) (hx:LC x0.length h7) (hc:SlA AU F0 h6 x0) (h8:Nat) (z0:(VW->Option (Bj×Bool))) (h3:FuncId) (h1 h2:List Value) (hd:Af Tryz.prog h3) (he:Ip F0 h3 h1 h2 z0) (hf:F0 h8=some (oc #[(.func (.func h3) h1.toArray h2.toArray)] 188)) (r:(Bj×Bool)) (h:Dz N x0 z0=some r):
  Calls Tryz.prog 223 ([(sL h6 x0 h7),(pt h8 0)]:List Value).toArray w0 (AF w0 F0 fun F' v=>v=(.tuple #[(.agg (CU r.1)),(.bool r.2)])):=by
 have hg:=Vz hF
 refine Go 12 Tryz.func223<|Sq (Rg [0,1] ?_)
 refine Al' 186 #[(sv (([]:VW))),(sv (([]:VW))),(sv (([]:VW))),(sv (([]:VW)))] hg (fun h4 hy hh=>?_)
 refine Vs 1<|Nss ?_
 obtain ⟨h0,hk,hl⟩:=bS h
 refine RD 9 9 [] [] hh (fun f w=>∃ (F1:Mem),HS w0 F0 w F1 [(sb h4 #[(sv h0.2.1),(sv h0.2.2.1),(sv h0.2.2.2.1),(sv h0.2.2.2.2)] 186)]/\Vx F0 F1/\FI f [] [(3,(pt h4 0)),(4,(.bool h0.1))]) (fun hm h9=>?_) ?_
 ·refine Dl 0 (fun _ hq=>(hq.1.1 _ _ hf)) ?_
  refine Dv [1] ?_
  obtain ⟨h5,hn,ho⟩:=bS hk
  obtain ⟨hp,hx36'⟩:=Al hn
  obtain ⟨hz,b0,b1,b2,b3,rfl,hF45,hE46⟩:=VF hc hx36'
  have hr:=hE46 _ _ hx36'
  refine Di 2 hp<|Dx 3 0 (fun _ hq=>hq.1.1 _ _ hF45) hr<|D1 4 ?_
  obtain ⟨hs,ht,hu⟩:=bS ho
  refine VJ (l':=[true,true,true,true,true,false,false,false,false]) (zd:=true) (by kernel_rfl) (by kernel_rfl) (by kernel_rfl) (dst:=(some 9)) (ty:=187) (g:=none) (by kernel_rfl) rfl (f0:=(.tmp 5)) (aos:=#[(.tmp 8)]) (ats:=#[9]) (fid:=h3) (first:=h1.toArray) (cap:=h2.toArray) (args:=(h1++(([(sv h5)]:List Value)++h2))) rfl hd (Ec (l:=[(sv h5)]) (fi:=h1) (k:=h2) rfl) h9 (he hm F0 h5 _ (Vy _) h9.pers ht) ?_
  rintro _ F2 b4 hv ha rfl
  refine Dv [5,6]<|D1 7<|GE (CU hs.1) hv ha (fun b5 hw=>?_)
  refine Dv [8] ?_
  obtain rfl:=Aa hu
  exact VK (by kernel_rfl) ⟨F2,hw,ha,fI⟩
 ·rintro f b6 ⟨F1,hb,b7,⟨_,rfl⟩⟩
  refine Ab<|Rt ?_
  obtain rfl:=Aa hl
  exact ⟨rfl,(.tuple #[(.agg #[(sv h0.2.1),(sv h0.2.2.1),(sv h0.2.2.2.1),(sv h0.2.2.2.2)]),(.bool h0.1)]),AH (l:=[.cell 3 186,.tmp 4]) (by kernel_rfl) (vs:=[(.agg #[(sv h0.2.1),(sv h0.2.2.1),(sv h0.2.2.2.1),(sv h0.2.2.2.2)]),(.bool h0.1)]) ⟨h4,0,rfl,Aj (t:=186) (g:=true) (s:=4) (by kernel_rfl) hb.at0 rfl (by decide),⟨rfl,trivial⟩⟩,(.tuple #[(.agg #[(sv h0.2.1),(sv h0.2.2.1),(sv h0.2.2.2.1),(sv h0.2.2.2.2)]),(.bool h0.1)]),F1,rfl,hb.clear,rfl⟩
def Dy (N:Nat) (x0:(List VW)) (z0:(VW->Option (Bj×Bool))):Option (Bj×Bool):=
 (((idx x0 1).bind fun h4=>((z0 h4).bind fun h1=>some (h1.2,h1.1.Area,h1.1.Prefix,h1.1.Suffix,h1.1.Stroke))).bind fun h0=>((idx x0 0).bind fun h3=>((bif h0.1 then ((idx x0 0).bind fun h5=>((Ff N h5).bind fun h6=>(bif h6 then ((idx x0 0).bind fun h7=>((idx x0 1).bind fun h8=>some ((decide ((h7.length:Int) < (h8.length:Int))),h3,h0.2.2.1,h0.2.2.2.1,h0.2.2.2.2))) else some (false,h3,h0.2.2.1,h0.2.2.2.1,h0.2.2.2.2)))) else some (false,h3,h0.2.2.1,h0.2.2.2.1,h0.2.2.2.2)).bind fun h2=>some (({Area:=h2.2.1,Prefix:=h2.2.2.1,Suffix:=h2.2.2.2.1,Stroke:=h2.2.2.2.2}:Bj),h2.1))))
theorem MK:Af Tryz.prog 224:=fun _ _=>by kernel_rfl
theorem Nd (N:Nat) (w0:World) (F0:Mem) (hF:VY w0 F0) (x0:(List VW)) (hh:VX) (h8:Nat) (cj:LC x0.length h8) (ho:SlA AU F0 hh x0) (hp:Nat) (z0:(VW->Option (Bj×Bool))) (hd:FuncId) (h5 h6:List Value) (hr:Af Tryz.prog hd) (hs:Ip F0 hd h5 h6 z0) (hz:F0 hp=some (oc #[(.func (.func hd) h5.toArray h6.toArray)] 188)) (r:(Bj×Bool)) (h:Dy N x0 z0=some r):
  Calls Tryz.prog 224 ([(sL hh x0 h8),(pt hp 0)]:List Value).toArray w0 (AF w0 F0 fun F' v=>v=(.tuple #[(.agg (CU r.1)),(.bool r.2)])):=by
 have b0:=Vz hF
 refine Go 38 Tryz.func224<|Sq (Rg [0,1] ?_)
 refine Al' 186 #[(sv (([]:VW))),(sv (([]:VW))),(sv (([]:VW))),(sv (([]:VW)))] b0 (fun h9 cl b1=>?_)
 refine Vs 1<|Nss ?_
 obtain ⟨h0,b2,b3⟩:=bS h
 refine RD 11 11 [(sb h9 #[(sv (([]:VW))),(sv (([]:VW))),(sv (([]:VW))),(sv (([]:VW)))] 186)] [] b1 (fun f w=>∃ (F1:Mem) (hf:Nat),HS w0 F0 w F1 [(sb hf #[(sv h0.2.1),(sv h0.2.2.1),(sv h0.2.2.2.1),(sv h0.2.2.2.2)] 186),(sb h9 #[(sv (([]:VW))),(sv (([]:VW))),(sv (([]:VW))),(sv (([]:VW)))] 186)]/\Vx F0 F1/\FI f [] [(0,(sL hh x0 h8)),(3,(pt h9 0)),(5,(pt hf 0)),(6,(.bool h0.1))]) (fun b4 hk=>?_) ?_
 ·refine Dl 0 (fun _ hq=>(hq.1.1 _ _ hz)) ?_
  refine Dv [1] ?_
  obtain ⟨ha,b5,ht⟩:=bS b2
  obtain ⟨b6,hx39'⟩:=Al b5
  obtain ⟨cm,cn,co,cp,cq,rfl,hF48,hE49⟩:=VF ho hx39'
  have b7:=hE49 _ _ hx39'
  refine Di 2 b6<|Dx 3 0 (fun _ hq=>hq.1.1 _ _ hF48) b7<|VG (i:=4) (j:=8) (by kernel_rfl) ?_ ?_
  ·obtain ⟨b8,b9,ba⟩:=bS ht
   refine VJ (l':=[true,true,true,true,true,false,false,false,false,false,false]) (zd:=true) (by kernel_rfl) (by kernel_rfl) (by kernel_rfl) (dst:=(some 12)) (ty:=187) (g:=none) (by kernel_rfl) rfl (f0:=(.tmp 8)) (aos:=#[(.tmp 11)]) (ats:=#[9]) (fid:=hd) (first:=h5.toArray) (cap:=h6.toArray) (args:=(h5++(([(sv ha)]:List Value)++h6))) rfl hr (Ec (l:=[(sv ha)]) (fi:=h5) (k:=h6) rfl) hk (hs b4 F0 ha _ (Vy _) hk.pers b9) ?_
   rintro _ F2 cr bb hl rfl
   refine Dv [5,6,7]<|D1 8<|DAl 186 #[(sv (([]:VW))),(sv (([]:VW))),(sv (([]:VW))),(sv (([]:VW)))] bb hl (fun bc ct bd=>?_)
   refine D1 9<|GE (CU b8.1) bd hl (fun cu be=>?_)
   refine Dv [10] ?_
   obtain rfl:=Aa ba
   exact VK (by kernel_rfl) ⟨F2,bc,be,hl,fI⟩
  ·refine DAl 186 #[(sv (([]:VW))),(sv (([]:VW))),(sv (([]:VW))),(sv (([]:VW)))] hk (Vy _) (fun bf bg hu=>?_)
   refine D1 4 ?_
   obtain ⟨bh,bi,bj⟩:=bS ht
   refine VJ (l':=[true,true,true,true,true,false,false,false,true,false,false]) (zd:=true) (by kernel_rfl) (by kernel_rfl) (by kernel_rfl) (dst:=(some 12)) (ty:=187) (g:=none) (by kernel_rfl) rfl (f0:=(.tmp 8)) (aos:=#[(.tmp 11)]) (ats:=#[9]) (fid:=hd) (first:=h5.toArray) (cap:=h6.toArray) (args:=(h5++(([(sv ha)]:List Value)++h6))) rfl hr (Ec (l:=[(sv ha)]) (fi:=h5) (k:=h6) rfl) hu (hs bg F0 ha _ (Vy _) hu.pers bi) ?_
   rintro _ F3 cv bk hv rfl
   refine Dv [5,6,7]<|D1 9<|GE (CU bh.1) bk hv (fun cw bl=>?_)
   refine Dv [10] ?_
   obtain rfl:=Aa bj
   exact VK (by kernel_rfl) ⟨F3,bf,bl,hv,fI⟩
 ·rintro f cx ⟨F1,hf,hw,bm,⟨_,rfl⟩⟩
  refine Ab<|Sq (Rg (rG 5) ?_)
  refine Vs 1 ?_
  obtain ⟨he,bn,bo⟩:=bS b3
  obtain ⟨bp,hx79'⟩:=Al bn
  obtain ⟨h3,h4,cy,cz,d0,rfl,hF88,hE89⟩:=VF (VA ho bm) hx79'
  have bq:=hE89 _ _ hx79'
  refine Ix bp<|Lx 0 (hw.pers _ _ hF88) bq<|Vs 1<|St0 #[(sv he),(sv h0.2.2.1),(sv h0.2.2.2.1),(sv h0.2.2.2.2)] hw (fun d1 br=>?_)
  refine Nss ?_
  obtain ⟨h1,bs,bt⟩:=bS bo
  refine RD 21 21 [(sb hf #[(sv he),(sv h0.2.2.1),(sv h0.2.2.2.1),(sv h0.2.2.2.2)] 186)] [] br (fun f w=>∃ (F4:Mem),HS w0 F0 w F4 [(sb h9 #[(sv h1.2.1),(sv h1.2.2.1),(sv h1.2.2.2.1),(sv h1.2.2.2.2)] 186)]/\Vx F1 F4/\FI f [] [(3,(pt h9 0)),(4,(.bool h1.1))]) (fun bu hm=>?_) ?_
  ·refine Dl 0 (fun _ hq=>(hq.1.2 0 _ _ rfl)) ?_
   refine Dvl [1,2] (tf 3 18)<|Sd bs (fun h7 bv=>?_) (fun h7 bw=>?_)
   ·refine Dgl 3 22 55 _ (tf 4 17) 2 true 21 h7 (fun _ hq=>mv 0 (.slice (some ⟨h3,h4,none⟩) x0.length h8)) ?_
    obtain ⟨hn,bx,bz⟩:=bS bv
    obtain ⟨c0,hx109'⟩:=Al bx
    have c1:=hE89 _ _ hx109'
    refine Dgl 4 23 0 (.pointer (some ⟨h3,(h4 + (0:Int).toNat * 1),none⟩)) (tf 5 16) 2 true 21 h7 (fun _ hq=>Cm (t:=55) (x:=(.tmp 22)) (y:=(.const (vi 0))) (b:=h3) (o:=h4) (E:=9) (s:=1) (by_:=16) rfl rfl (by kernel_rfl) c0)<|Dgl 5 24 9 _ (tf 6 15) 2 true 21 h7 (fun _ hq=>lx 9 23 0 1 false 1 (sv hn) (hq.1.1 _ _ hF88) c1)<|D1 6 ?_
    obtain ⟨c3,c4,c5⟩:=bS bz
    refine VJ (l':=[true,true,true,true,true,true,true,false,false,false,false,false,false,false,false,false,false,false,false,false,false]) (zd:=true) (by kernel_rfl) (by kernel_rfl) (by kernel_rfl) (dst:=(some 25)) (ty:=4) (g:=(some (2,true))) (by kernel_rfl) (G7 (d:=21) (by kernel_rfl) rfl h7) (f0:=(.func 225)) (aos:=#[(.tmp 24)]) (ats:=#[9]) (fid:=225) (first:=#[]) (cap:=#[]) (args:=[(sv hn)]) rfl Ib rfl hm (Js N bu F1 hm.pers hn _ c4) ?_
    rintro _ F5 d2 hx hg rfl
    refine Dtl 7 26 4 _ (tf 8 13) (fun _ hq=>p1 21 (.tmp 25) (.const (.bool false)) (.bool c3) h7)<|Dvl [8] (tf 9 12)<|Sd c5 (fun h2 c6=>?_) (fun h2 c7=>?_)
    ·refine Dgl 9 28 55 _ (tf 10 11) 8 true 27 h2 (fun _ hq=>mv 0 (.slice (some ⟨h3,h4,none⟩) x0.length h8)) ?_
     obtain ⟨hb,c8,c9⟩:=bS c6
     obtain ⟨ca,hx126'⟩:=Al c8
     have cb:=hE89 _ _ hx126'
     refine Dgl 10 29 0 (.pointer (some ⟨h3,(h4 + (0:Int).toNat * 1),none⟩)) (tf 11 10) 8 true 27 h2 (fun _ hq=>Cm (t:=55) (x:=(.tmp 28)) (y:=(.const (vi 0))) (b:=h3) (o:=h4) (E:=9) (s:=1) (by_:=16) rfl rfl (by kernel_rfl) ca)<|Dgl 11 30 9 _ (tf 12 9) 8 true 27 h2 (fun _ hq=>lx 9 29 0 1 false 1 (sv hb) (hq.1.1 _ _ hF88) cb)<|Dgl 12 31 3 (vi (hb.length:Int)) (tf 13 8) 8 true 27 h2 (fun _ hq=>L9 (x:=(.tmp 30)) (ats:=#[9]) (t:=9) (a:=hb) rfl rfl (by kernel_rfl))<|Dgl 13 32 55 _ (tf 14 7) 8 true 27 h2 (fun _ hq=>mv 0 (.slice (some ⟨h3,h4,none⟩) x0.length h8)) ?_
     obtain ⟨hc,cc,cd⟩:=bS c9
     obtain ⟨ce,hx132'⟩:=Al cc
     have cf:=hE89 _ _ hx132'
     refine Dgl 14 33 0 (.pointer (some ⟨h3,(h4 + (1:Int).toNat * 1),none⟩)) (tf 15 6) 8 true 27 h2 (fun _ hq=>Cm (t:=55) (x:=(.tmp 32)) (y:=(.const (vi 1))) (b:=h3) (o:=h4) (E:=9) (s:=1) (by_:=16) rfl rfl (by kernel_rfl) ce)<|Dgl 15 34 9 _ (tf 16 5) 8 true 27 h2 (fun _ hq=>lx 9 33 0 1 false 1 (sv hc) (hq.1.1 _ _ hF88) cf)<|Dgl 16 35 3 (vi (hc.length:Int)) (tf 17 4) 8 true 27 h2 (fun _ hq=>L9 (x:=(.tmp 34)) (ats:=#[9]) (t:=9) (a:=hc) rfl rfl (by kernel_rfl))<|Dgl 17 36 4 (.bool (decide ((hb.length:Int) < (hc.length:Int)))) (tf 18 3) 8 true 27 h2 (fun _ hq=>FZ (t:=3) (t':=3) (x:=(.tmp 31)) (y:=(.tmp 35)) (k:=.i64) (a:=(hb.length:Int)) (b:=(hc.length:Int)) rfl rfl)<|Dtl 18 37 4 _ (tf 19 2) (fun _ hq=>p1 27 (.tmp 36) (.const (.bool false)) (.bool (decide ((hb.length:Int) < (hc.length:Int)))) h2)<|D1 19<|KK #[(sv he),(sv h0.2.2.1),(sv h0.2.2.2.1),(sv h0.2.2.2.2)] hx hg (fun d3 cg=>?_)
     refine Dvl [20] (tf 21 0) ?_
     obtain rfl:=Aa cd
     exact VK (by kernel_rfl) ⟨F5,cg.dr0,hg,fI⟩
    ·refine Dkl [(9,28),(10,29),(11,30),(12,31),(13,32),(14,33)] 8 true 27 h2 (tf 15 6) ?_
     refine Dkl [(15,34),(16,35),(17,36)] 8 true 27 h2 (tf 18 3)<|Dtl 18 37 4 _ (tf 19 2) (fun _ hq=>p0 27 (.tmp 36) (.const (.bool false)) (.bool false) h2)<|D1 19<|KK #[(sv he),(sv h0.2.2.1),(sv h0.2.2.2.1),(sv h0.2.2.2.2)] hx hg (fun d4 ch=>?_)
     refine Dvl [20] (tf 21 0) ?_
     obtain rfl:=Aa c7
     exact VK (by kernel_rfl) ⟨F5,ch.dr0,hg,fI⟩
   ·refine Dkl [(3,22),(4,23),(5,24),(6,25)] 2 true 21 h7 (tf 7 14) ?_
    refine Dtl 7 26 4 _ (tf 8 13) (fun _ hq=>p0 21 (.tmp 25) (.const (.bool false)) (.bool false) h7)<|Dvl [8] (tf 9 12)<|Dkl [(9,28),(10,29),(11,30),(12,31),(13,32),(14,33)] 8 true 27 rfl (tf 15 6)<|Dkl [(15,34),(16,35),(17,36)] 8 true 27 rfl (tf 18 3)<|Dtl 18 37 4 _ (tf 19 2) (fun _ hq=>p0 27 (.tmp 36) (.const (.bool false)) (.bool false) rfl)<|D1 19<|KK #[(sv he),(sv h0.2.2.1),(sv h0.2.2.2.1),(sv h0.2.2.2.2)] hm (Vy _) (fun d6 ci=>?_)
    refine Dvl [20] (tf 21 0) ?_
    obtain rfl:=Aa bw
    exact VK (by kernel_rfl) ⟨F1,ci.dr0,(Vy _),fI⟩
  ·rintro f d7 ⟨F4,hy,d8,⟨_,rfl⟩⟩
   refine Ab<|Rt ?_
   obtain rfl:=Aa bt
   exact ⟨rfl,(.tuple #[(.agg #[(sv h1.2.1),(sv h1.2.2.1),(sv h1.2.2.2.1),(sv h1.2.2.2.2)]),(.bool h1.1)]),AH (l:=[.cell 3 186,.tmp 4]) (by kernel_rfl) (vs:=[(.agg #[(sv h1.2.1),(sv h1.2.2.1),(sv h1.2.2.2.1),(sv h1.2.2.2.2)]),(.bool h1.1)]) ⟨h9,0,rfl,Aj (t:=186) (g:=true) (s:=4) (by kernel_rfl) hy.at0 rfl (by decide),⟨rfl,trivial⟩⟩,(.tuple #[(.agg #[(sv h1.2.1),(sv h1.2.2.1),(sv h1.2.2.2.1),(sv h1.2.2.2.2)]),(.bool h1.1)]),F4,rfl,hy.clear,rfl⟩
def D7 (N:Nat) (x0:VW):Option Bool:=
 (((Fe N x0 4 (fun y0=>BS N y0)).bind fun h0=>(bif h0 then some true else ((Fe N x0 1 (fun y0=>Bm N y0)).bind fun h1=>some h1))).bind fun h2=>some h2)
theorem I5:Af Tryz.prog 227:=fun _ _=>by kernel_rfl
theorem Kd (N:Nat) (w0:World) (F0:Mem) (hF:VY w0 F0) (x0:VW) (r:Bool) (h:D7 N x0=some r):
  Calls Tryz.prog 227 ([(sv x0)]:List Value).toArray w0 (AF w0 F0 fun F' v=>v=(.bool r)):=by
 have h4:=Vz hF
 refine Go 9 Tryz.func227<|Sq (Rg [0] ?_)
 refine Vs 1<|Nss (Rg (rG 7) ?_)
 obtain ⟨h5,h7,h8⟩:=bS h
 refine VD (fun f w=>∃ (F1:Mem),HS w0 F0 w F1 []/\Vx F0 F1/\FI f [] [(2,(.bool h5))]) ?_ ?_
 ·refine Vs 1 ?_
  obtain ⟨hm,h9,ha⟩:=bS h7
  refine Cl' Fa h4 (FO N w0 F0 h4.pers x0 4 264 [] [] (fun y0=>BS N y0) EX (fun w1 F1 y0 r hb h1 h2=>Fx N w1 F1 h1 y0 r h2) _ h9) ?_
  rintro _ F2 hc h3 h6 rfl
  refine Vs 1<|Sp ha (fun h0 hd=>?_) (fun h0 he=>?_)
  ·refine Ss h0 2 ?_
   refine Pk1 h0<|Vs 1 ?_
   obtain rfl:=Aa hd
   exact Vt ⟨rfl,F2,h3,h6,fI⟩
  ·refine Vgs h0 1 ?_
   obtain ⟨hn,hf,hg⟩:=bS he
   refine Cg h0 Fa h3 (FO N hc F2 h3.pers x0 1 199 [] [] (fun y0=>Bm N y0) Ft (fun w1 F1 y0 r hb h1 h2=>Gp N w1 F1 h1 y0 r h2) _ hf) ?_
   rintro _ F3 ho hh hk rfl
   refine Pk0 h0<|Vs 1 ?_
   obtain rfl:=Aa hg
   exact Vt ⟨rfl,F3,hh,(h6.t hk),fI⟩
 ·rintro f hp ⟨F1,hl,hq,⟨_,rfl⟩⟩
  refine Ab<|Rt ?_
  obtain rfl:=Aa h8
  exact Re [(.bool h5)] hl rfl
def Dw (N:Nat) (x0:(List VW)) (z0:(VW->Option (Bj×Bool))):Option (Bj×Bool):=
 (((idx x0 0).bind fun h4=>((z0 h4).bind fun h1=>some (h1.2,h1.1.Area,h1.1.Prefix,h1.1.Suffix,h1.1.Stroke))).bind fun h0=>((idx x0 1).bind fun h3=>((bif h0.1 then ((idx x0 1).bind fun h5=>((D7 N h5).bind fun h6=>some (h6,h0.2.1,h0.2.2.1,h0.2.2.2.1,h3))) else some (false,h0.2.1,h0.2.2.1,h0.2.2.2.1,h3)).bind fun h2=>some (({Area:=h2.2.1,Prefix:=h2.2.2.1,Suffix:=h2.2.2.2.1,Stroke:=h2.2.2.2.2}:Bj),h2.1))))
theorem MJ:Af Tryz.prog 226:=fun _ _=>by kernel_rfl
theorem Nc (N:Nat) (w0:World) (F0:Mem) (hF:VY w0 F0) (x0:(List VW)) (hb:VX) (h8:Nat) (c5:LC x0.length h8) (hk:SlA AU F0 hb x0) (hl:Nat) (z0:(VW->Option (Bj×Bool))) (h7:FuncId) (h2 h3:List Value) (hm:Af Tryz.prog h7) (hn:Ip F0 h7 h2 h3 z0) (hv:F0 hl=some (oc #[(.func (.func h7) h2.toArray h3.toArray)] 188)) (r:(Bj×Bool)) (h:Dw N x0 z0=some r):
  Calls Tryz.prog 226 ([(sL hb x0 h8),(pt hl 0)]:List Value).toArray w0 (AF w0 F0 fun F' v=>v=(.tuple #[(.agg (CU r.1)),(.bool r.2)])):=by
 have hw:=Vz hF
 refine Go 27 Tryz.func226<|Sq (Rg [0,1] ?_)
 refine Al' 186 #[(sv (([]:VW))),(sv (([]:VW))),(sv (([]:VW))),(sv (([]:VW)))] hw (fun h5 c6 hx=>?_)
 refine Vs 1<|Nss ?_
 obtain ⟨h1,hy,hz⟩:=bS h
 refine RD 11 11 [(sb h5 #[(sv (([]:VW))),(sv (([]:VW))),(sv (([]:VW))),(sv (([]:VW)))] 186)] [] hx (fun f w=>∃ (F1:Mem) (h9:Nat),HS w0 F0 w F1 [(sb h9 #[(sv h1.2.1),(sv h1.2.2.1),(sv h1.2.2.2.1),(sv h1.2.2.2.2)] 186),(sb h5 #[(sv (([]:VW))),(sv (([]:VW))),(sv (([]:VW))),(sv (([]:VW)))] 186)]/\Vx F0 F1/\FI f [] [(0,(sL hb x0 h8)),(3,(pt h5 0)),(5,(pt h9 0)),(6,(.bool h1.1))]) (fun b0 hc=>?_) ?_
 ·refine Dl 0 (fun _ hq=>(hq.1.1 _ _ hv)) ?_
  refine Dv [1] ?_
  obtain ⟨h6,b1,ho⟩:=bS hy
  obtain ⟨b2,hx39'⟩:=Al b1
  obtain ⟨c7,c8,c9,ca,cb,rfl,hF48,hE49⟩:=VF hk hx39'
  have b3:=hE49 _ _ hx39'
  refine Di 2 b2<|Dx 3 0 (fun _ hq=>hq.1.1 _ _ hF48) b3<|VG (i:=4) (j:=8) (by kernel_rfl) ?_ ?_
  ·obtain ⟨b4,b5,b6⟩:=bS ho
   refine VJ (l':=[true,true,true,true,true,false,false,false,false,false,false]) (zd:=true) (by kernel_rfl) (by kernel_rfl) (by kernel_rfl) (dst:=(some 12)) (ty:=187) (g:=none) (by kernel_rfl) rfl (f0:=(.tmp 8)) (aos:=#[(.tmp 11)]) (ats:=#[9]) (fid:=h7) (first:=h2.toArray) (cap:=h3.toArray) (args:=(h2++(([(sv h6)]:List Value)++h3))) rfl hm (Ec (l:=[(sv h6)]) (fi:=h2) (k:=h3) rfl) hc (hn b0 F0 h6 _ (Vy _) hc.pers b5) ?_
   rintro _ F2 cc b7 hd rfl
   refine Dv [5,6,7]<|D1 8<|DAl 186 #[(sv (([]:VW))),(sv (([]:VW))),(sv (([]:VW))),(sv (([]:VW)))] b7 hd (fun b8 cd b9=>?_)
   refine D1 9<|GE (CU b4.1) b9 hd (fun ce ba=>?_)
   refine Dv [10] ?_
   obtain rfl:=Aa b6
   exact VK (by kernel_rfl) ⟨F2,b8,ba,hd,fI⟩
  ·refine DAl 186 #[(sv (([]:VW))),(sv (([]:VW))),(sv (([]:VW))),(sv (([]:VW)))] hc (Vy _) (fun bb bc hp=>?_)
   refine D1 4 ?_
   obtain ⟨bd,be,bf⟩:=bS ho
   refine VJ (l':=[true,true,true,true,true,false,false,false,true,false,false]) (zd:=true) (by kernel_rfl) (by kernel_rfl) (by kernel_rfl) (dst:=(some 12)) (ty:=187) (g:=none) (by kernel_rfl) rfl (f0:=(.tmp 8)) (aos:=#[(.tmp 11)]) (ats:=#[9]) (fid:=h7) (first:=h2.toArray) (cap:=h3.toArray) (args:=(h2++(([(sv h6)]:List Value)++h3))) rfl hm (Ec (l:=[(sv h6)]) (fi:=h2) (k:=h3) rfl) hp (hn bc F0 h6 _ (Vy _) hp.pers be) ?_
   rintro _ F3 cf bg hr rfl
   refine Dv [5,6,7]<|D1 9<|GE (CU bd.1) bg hr (fun cg bh=>?_)
   refine Dv [10] ?_
   obtain rfl:=Aa bf
   exact VK (by kernel_rfl) ⟨F3,bb,bh,hr,fI⟩
 ·rintro f ch ⟨F1,h9,hs,bi,⟨_,rfl⟩⟩
  refine Ab<|Sq (Rg (rG 5) ?_)
  refine Vs 1 ?_
  obtain ⟨ha,bj,bk⟩:=bS hz
  obtain ⟨bl,hx79'⟩:=Al bj
  obtain ⟨he,hf,ci,cj,cl,rfl,hF88,hE89⟩:=VF (VA hk bi) hx79'
  have bm:=hE89 _ _ hx79'
  refine Ix bl<|Lx 0 (hs.pers _ _ hF88) bm<|Vs 1<|St0 #[(sv h1.2.1),(sv h1.2.2.1),(sv h1.2.2.2.1),(sv ha)] hs (fun cm bn=>?_)
  refine Nss ?_
  obtain ⟨h0,bo,bp⟩:=bS bk
  refine RD 10 10 [(sb h9 #[(sv h1.2.1),(sv h1.2.2.1),(sv h1.2.2.2.1),(sv ha)] 186)] [] bn (fun f w=>∃ (F4:Mem),HS w0 F0 w F4 [(sb h5 #[(sv h0.2.1),(sv h0.2.2.1),(sv h0.2.2.2.1),(sv h0.2.2.2.2)] 186)]/\Vx F1 F4/\FI f [] [(3,(pt h5 0)),(4,(.bool h0.1))]) (fun bq hg=>?_) ?_
  ·refine Dl 0 (fun _ hq=>(hq.1.2 0 _ _ rfl)) ?_
   refine Dv [1,2]<|Sd bo (fun h4 br=>?_) (fun h4 bs=>?_)
   ·refine Dg 3 22 55 _ 2 true 21 h4 (fun _ hq=>mv 0 (.slice (some ⟨he,hf,none⟩) x0.length h8)) ?_
    obtain ⟨hh,bt,bu⟩:=bS br
    obtain ⟨bv,hx109'⟩:=Al bt
    have bw:=hE89 _ _ hx109'
    refine Dg 4 23 0 (.pointer (some ⟨he,(hf + (1:Int).toNat * 1),none⟩)) 2 true 21 h4 (fun _ hq=>Cm (t:=55) (x:=(.tmp 22)) (y:=(.const (vi 1))) (b:=he) (o:=hf) (E:=9) (s:=1) (by_:=16) rfl rfl (by kernel_rfl) bv)<|Dg 5 24 9 _ 2 true 21 h4 (fun _ hq=>lx 9 23 0 1 false 1 (sv hh) (hq.1.1 _ _ hF88) bw)<|D1 6 ?_
    obtain ⟨bx,bz,c0⟩:=bS bu
    refine VJ (l':=[true,true,true,true,true,true,true,false,false,false]) (zd:=true) (by kernel_rfl) (by kernel_rfl) (by kernel_rfl) (dst:=(some 25)) (ty:=4) (g:=(some (2,true))) (by kernel_rfl) (G7 (d:=21) (by kernel_rfl) rfl h4) (f0:=(.func 227)) (aos:=#[(.tmp 24)]) (ats:=#[9]) (fid:=227) (first:=#[]) (cap:=#[]) (args:=[(sv hh)]) rfl I5 rfl hg (Kd N bq F1 hg.pers hh _ bz) ?_
    rintro _ F5 cn c1 ht rfl
    refine Dt 7 26 4 _ (fun _ hq=>p1 21 (.tmp 25) (.const (.bool false)) (.bool bx) h4)<|D1 8<|KK #[(sv h1.2.1),(sv h1.2.2.1),(sv h1.2.2.2.1),(sv ha)] c1 ht (fun co c3=>?_)
    refine Dv [9] ?_
    obtain rfl:=Aa c0
    exact VK (by kernel_rfl) ⟨F5,c3.dr0,ht,fI⟩
   ·refine Dk [(3,22),(4,23),(5,24),(6,25)] 2 true 21 h4 ?_
    refine Dt 7 26 4 _ (fun _ hq=>p0 21 (.tmp 25) (.const (.bool false)) (.bool false) h4)<|D1 8<|KK #[(sv h1.2.1),(sv h1.2.2.1),(sv h1.2.2.2.1),(sv ha)] hg (Vy _) (fun cp c4=>?_)
    refine Dv [9] ?_
    obtain rfl:=Aa bs
    exact VK (by kernel_rfl) ⟨F1,c4.dr0,(Vy _),fI⟩
  ·rintro f cq ⟨F4,hu,cr,⟨_,rfl⟩⟩
   refine Ab<|Rt ?_
   obtain rfl:=Aa bp
   exact ⟨rfl,(.tuple #[(.agg #[(sv h0.2.1),(sv h0.2.2.1),(sv h0.2.2.2.1),(sv h0.2.2.2.2)]),(.bool h0.1)]),AH (l:=[.cell 3 186,.tmp 4]) (by kernel_rfl) (vs:=[(.agg #[(sv h0.2.1),(sv h0.2.2.1),(sv h0.2.2.2.1),(sv h0.2.2.2.2)]),(.bool h0.1)]) ⟨h5,0,rfl,Aj (t:=186) (g:=true) (s:=4) (by kernel_rfl) hu.at0 rfl (by decide),⟨rfl,trivial⟩⟩,(.tuple #[(.agg #[(sv h0.2.1),(sv h0.2.2.1),(sv h0.2.2.2.1),(sv h0.2.2.2.2)]),(.bool h0.1)]),F4,rfl,hu.clear,rfl⟩
def Ds (N:Nat) (x0:(List VW)) (z0:(VW->Option (Bj×Bool))):Option (Bj×Bool):=
 (((idx x0 1).bind fun h4=>((z0 h4).bind fun h2=>some (h2.2,h2.1.Area,h2.1.Prefix,h2.1.Suffix,h2.1.Stroke))).bind fun h0=>(((idx x0 0).bind fun h5=>((idx x0 2).bind fun h6=>some (h5,h6))).bind fun h1=>((bif h0.1 then ((idx x0 0).bind fun h7=>((Ff N h7).bind fun h8=>(bif h8 then ((idx x0 2).bind fun h9=>((D7 N h9).bind fun ha=>some (ha,h1.1,h0.2.2.1,h0.2.2.2.1,h1.2))) else some (false,h1.1,h0.2.2.1,h0.2.2.2.1,h1.2)))) else some (false,h1.1,h0.2.2.1,h0.2.2.2.1,h1.2)).bind fun h3=>some (({Area:=h3.2.1,Prefix:=h3.2.2.1,Suffix:=h3.2.2.2.1,Stroke:=h3.2.2.2.2}:Bj),h3.1))))
theorem MI:Af Tryz.prog 228:=fun _ _=>by kernel_rfl
theorem Nb (N:Nat) (w0:World) (F0:Mem) (hF:VY w0 F0) (x0:(List VW)) (hb:VX) (h8:Nat) (cy:LC x0.length h8) (hg:SlA AU F0 hb x0) (hp:Nat) (z0:(VW->Option (Bj×Bool))) (hc:FuncId) (h4 h5:List Value) (hr:Af Tryz.prog hc) (hs:Ip F0 hc h4 h5 z0) (b0:F0 hp=some (oc #[(.func (.func hc) h4.toArray h5.toArray)] 188)) (r:(Bj×Bool)) (h:Ds N x0 z0=some r):
  Calls Tryz.prog 228 ([(sL hb x0 h8),(pt hp 0)]:List Value).toArray w0 (AF w0 F0 fun F' v=>v=(.tuple #[(.agg (CU r.1)),(.bool r.2)])):=by
 have b1:=Vz hF
 refine Go 37 Tryz.func228<|Sq (Rg [0,1] ?_)
 refine Al' 186 #[(sv (([]:VW))),(sv (([]:VW))),(sv (([]:VW))),(sv (([]:VW)))] b1 (fun h3 cz b2=>?_)
 refine Vs 1<|Nss ?_
 obtain ⟨h0,b3,b4⟩:=bS h
 refine RD 11 11 [(sb h3 #[(sv (([]:VW))),(sv (([]:VW))),(sv (([]:VW))),(sv (([]:VW)))] 186)] [] b2 (fun f w=>∃ (F1:Mem) (h9:Nat),HS w0 F0 w F1 [(sb h9 #[(sv h0.2.1),(sv h0.2.2.1),(sv h0.2.2.2.1),(sv h0.2.2.2.2)] 186),(sb h3 #[(sv (([]:VW))),(sv (([]:VW))),(sv (([]:VW))),(sv (([]:VW)))] 186)]/\Vx F0 F1/\FI f [] [(0,(sL hb x0 h8)),(3,(pt h3 0)),(5,(pt h9 0)),(6,(.bool h0.1))]) (fun b5 hh=>?_) ?_
 ·refine Dl 0 (fun _ hq=>(hq.1.1 _ _ b0)) ?_
  refine Dv [1] ?_
  obtain ⟨ha,b6,ht⟩:=bS b3
  obtain ⟨b7,hx39'⟩:=Al b6
  obtain ⟨d0,d1,d2,d3,d4,rfl,hF48,hE49⟩:=VF hg hx39'
  have b8:=hE49 _ _ hx39'
  refine Di 2 b7<|Dx 3 0 (fun _ hq=>hq.1.1 _ _ hF48) b8<|VG (i:=4) (j:=8) (by kernel_rfl) ?_ ?_
  ·obtain ⟨b9,ba,bb⟩:=bS ht
   refine VJ (l':=[true,true,true,true,true,false,false,false,false,false,false]) (zd:=true) (by kernel_rfl) (by kernel_rfl) (by kernel_rfl) (dst:=(some 12)) (ty:=187) (g:=none) (by kernel_rfl) rfl (f0:=(.tmp 8)) (aos:=#[(.tmp 11)]) (ats:=#[9]) (fid:=hc) (first:=h4.toArray) (cap:=h5.toArray) (args:=(h4++(([(sv ha)]:List Value)++h5))) rfl hr (Ec (l:=[(sv ha)]) (fi:=h4) (k:=h5) rfl) hh (hs b5 F0 ha _ (Vy _) hh.pers ba) ?_
   rintro _ F2 d6 bc hk rfl
   refine Dv [5,6,7]<|D1 8<|DAl 186 #[(sv (([]:VW))),(sv (([]:VW))),(sv (([]:VW))),(sv (([]:VW)))] bc hk (fun bd d7 be=>?_)
   refine D1 9<|GE (CU b9.1) be hk (fun d8 bf=>?_)
   refine Dv [10] ?_
   obtain rfl:=Aa bb
   exact VK (by kernel_rfl) ⟨F2,bd,bf,hk,fI⟩
  ·refine DAl 186 #[(sv (([]:VW))),(sv (([]:VW))),(sv (([]:VW))),(sv (([]:VW)))] hh (Vy _) (fun bg bh hu=>?_)
   refine D1 4 ?_
   obtain ⟨bi,bj,bk⟩:=bS ht
   refine VJ (l':=[true,true,true,true,true,false,false,false,true,false,false]) (zd:=true) (by kernel_rfl) (by kernel_rfl) (by kernel_rfl) (dst:=(some 12)) (ty:=187) (g:=none) (by kernel_rfl) rfl (f0:=(.tmp 8)) (aos:=#[(.tmp 11)]) (ats:=#[9]) (fid:=hc) (first:=h4.toArray) (cap:=h5.toArray) (args:=(h4++(([(sv ha)]:List Value)++h5))) rfl hr (Ec (l:=[(sv ha)]) (fi:=h4) (k:=h5) rfl) hu (hs bh F0 ha _ (Vy _) hu.pers bj) ?_
   rintro _ F3 d9 bl hv rfl
   refine Dv [5,6,7]<|D1 9<|GE (CU bi.1) bl hv (fun da bm=>?_)
   refine Dv [10] ?_
   obtain rfl:=Aa bk
   exact VK (by kernel_rfl) ⟨F3,bg,bm,hv,fI⟩
 ·rintro f db ⟨F1,h9,bn,hw,⟨_,rfl⟩⟩
  refine Ab<|Sq ?_
  obtain ⟨h2,bo,bp⟩:=bS b4
  refine RD 9 10 [(sb h3 #[(sv (([]:VW))),(sv (([]:VW))),(sv (([]:VW))),(sv (([]:VW)))] 186)] [] bn (fun f w=>∃ (F4:Mem),HS w0 F0 w F4 [(sb h9 #[(sv h2.1),(sv h0.2.2.1),(sv h0.2.2.2.1),(sv h2.2)] 186),(sb h3 #[(sv (([]:VW))),(sv (([]:VW))),(sv (([]:VW))),(sv (([]:VW)))] 186)]/\Vx F1 F4/\FI f [] [(0,(sL hb x0 h8)),(3,(pt h3 0)),(5,(pt h9 0)),(6,(.bool h0.1))]) (fun dc bq=>?_) ?_
  ·refine Dv [0] ?_
   obtain ⟨hx,br,bs⟩:=bS bo
   obtain ⟨bt,hx92'⟩:=Al br
   obtain ⟨dd,de,df,dg,dh,rfl,hF101,hE102⟩:=VF (VA hg hw) hx92'
   have bu:=hE102 _ _ hx92'
   refine Di 1 bt<|Dx 2 0 (fun _ hq=>hq.1.1 _ _ hF101) bu<|Dv [3] ?_
   obtain ⟨bv,bw,bx⟩:=bS bs
   obtain ⟨bz,hx106'⟩:=Al bw
   have c0:=hE102 _ _ hx106'
   refine Di 4 bz<|Dx 5 0 (fun _ hq=>hq.1.1 _ _ hF101) c0<|Dv [6]<|D1 7<|GE #[(sv hx),(sv h0.2.2.1),(sv h0.2.2.2.1),(sv h0.2.2.2.2)] bq (Vy _) (fun di c1=>?_)
   refine Dv [8]<|D1 9<|GE #[(sv hx),(sv h0.2.2.1),(sv h0.2.2.2.1),(sv bv)] c1 (Vy _) (fun dj c3=>?_)
   obtain rfl:=Aa bx
   exact VK (by kernel_rfl) ⟨F1,c3,(Vy _),fI⟩
  ·rintro f dk ⟨F4,c4,c5,⟨_,rfl⟩⟩
   refine Ab<|Sq ?_
   obtain ⟨h1,c6,c7⟩:=bS bp
   refine RD 16 16 [(sb h9 #[(sv h2.1),(sv h0.2.2.1),(sv h0.2.2.2.1),(sv h2.2)] 186)] [] c4 (fun f w=>∃ (F5:Mem),HS w0 F0 w F5 [(sb h3 #[(sv h1.2.1),(sv h1.2.2.1),(sv h1.2.2.2.1),(sv h1.2.2.2.2)] 186)]/\Vx F4 F5/\FI f [] [(3,(pt h3 0)),(4,(.bool h1.1))]) (fun c8 hl=>?_) ?_
   ·refine Dl 0 (fun _ hq=>(hq.1.2 0 _ _ rfl)) ?_
    refine Dv [1,2]<|Sd c6 (fun h6 c9=>?_) (fun h6 ca=>?_)
    ·refine Dg 3 26 55 _ 2 true 25 h6 (fun _ hq=>mv 0 (sL hb x0 h8)) ?_
     obtain ⟨hm,cb,cc⟩:=bS c9
     obtain ⟨cd,hx130'⟩:=Al cb
     obtain ⟨hd,he,dl,dm,dn,rfl,hF139,hE140⟩:=VF (VA hg (hw.t c5)) hx130'
     have ce:=hE140 _ _ hx130'
     refine Dg 4 27 0 (.pointer (some ⟨hd,(he + (0:Int).toNat * 1),none⟩)) 2 true 25 h6 (fun _ hq=>Cm (t:=55) (x:=(.tmp 26)) (y:=(.const (vi 0))) (b:=hd) (o:=he) (E:=9) (s:=1) (by_:=16) rfl rfl (by kernel_rfl) cd)<|Dg 5 28 9 _ 2 true 25 h6 (fun _ hq=>lx 9 27 0 1 false 1 (sv hm) (hq.1.1 _ _ hF139) ce)<|D1 6 ?_
     obtain ⟨cf,cg,ch⟩:=bS cc
     refine VJ (l':=[true,true,true,true,true,true,true,false,false,false,false,false,false,false,false,false]) (zd:=true) (by kernel_rfl) (by kernel_rfl) (by kernel_rfl) (dst:=(some 29)) (ty:=4) (g:=(some (2,true))) (by kernel_rfl) (G7 (d:=25) (by kernel_rfl) rfl h6) (f0:=(.func 225)) (aos:=#[(.tmp 28)]) (ats:=#[9]) (fid:=225) (first:=#[]) (cap:=#[]) (args:=[(sv hm)]) rfl Ib rfl hl (Js N c8 F4 hl.pers hm _ cg) ?_
     rintro _ F6 ci hn hf rfl
     refine Dt 7 30 4 _ (fun _ hq=>p1 25 (.tmp 29) (.const (.bool false)) (.bool cf) h6)<|Dv [8]<|Sd ch (fun h7 cj=>?_) (fun h7 cl=>?_)
     ·refine Dg 9 32 55 _ 8 true 31 h7 (fun _ hq=>mv 0 (.slice (some ⟨hd,he,none⟩) x0.length h8)) ?_
      obtain ⟨ho,cm,cn⟩:=bS cj
      obtain ⟨co,hx155'⟩:=Al cm
      have cp:=hE140 _ _ hx155'
      refine Dg 10 33 0 (.pointer (some ⟨hd,(he + (2:Int).toNat * 1),none⟩)) 8 true 31 h7 (fun _ hq=>Cm (t:=55) (x:=(.tmp 32)) (y:=(.const (vi 2))) (b:=hd) (o:=he) (E:=9) (s:=1) (by_:=16) rfl rfl (by kernel_rfl) co)<|Dg 11 34 9 _ 8 true 31 h7 (fun _ hq=>lx 9 33 0 1 false 1 (sv ho) (hq.1.1 _ _ hF139) cp)<|D1 12 ?_
      obtain ⟨cq,cr,ct⟩:=bS cn
      refine VJ (l':=[true,true,true,true,true,true,true,true,true,true,true,true,true,false,false,false]) (zd:=true) (by kernel_rfl) (by kernel_rfl) (by kernel_rfl) (dst:=(some 35)) (ty:=4) (g:=(some (8,true))) (by kernel_rfl) (G7 (d:=31) (by kernel_rfl) rfl h7) (f0:=(.func 227)) (aos:=#[(.tmp 34)]) (ats:=#[9]) (fid:=227) (first:=#[]) (cap:=#[]) (args:=[(sv ho)]) rfl I5 rfl hn (Kd N ci F6 hn.pers ho _ cr) ?_
      rintro _ F7 dp cu hy rfl
      refine Dt 13 36 4 _ (fun _ hq=>p1 31 (.tmp 35) (.const (.bool false)) (.bool cq) h7)<|D1 14<|KK #[(sv h2.1),(sv h0.2.2.1),(sv h0.2.2.2.1),(sv h2.2)] cu (hf.t hy) (fun dq cv=>?_)
      refine Dv [15] ?_
      obtain rfl:=Aa ct
      exact VK (by kernel_rfl) ⟨F7,cv.dr0,(hf.t hy),fI⟩
     ·refine Dk [(9,32),(10,33),(11,34),(12,35)] 8 true 31 h7 ?_
      refine Dt 13 36 4 _ (fun _ hq=>p0 31 (.tmp 35) (.const (.bool false)) (.bool false) h7)<|D1 14<|KK #[(sv h2.1),(sv h0.2.2.1),(sv h0.2.2.2.1),(sv h2.2)] hn hf (fun dr cw=>?_)
      refine Dv [15] ?_
      obtain rfl:=Aa cl
      exact VK (by kernel_rfl) ⟨F6,cw.dr0,hf,fI⟩
    ·refine Dk [(3,26),(4,27),(5,28),(6,29)] 2 true 25 h6 ?_
     refine Dt 7 30 4 _ (fun _ hq=>p0 25 (.tmp 29) (.const (.bool false)) (.bool false) h6)<|Dv [8]<|Dk [(9,32),(10,33),(11,34),(12,35)] 8 true 31 rfl<|Dt 13 36 4 _ (fun _ hq=>p0 31 (.tmp 35) (.const (.bool false)) (.bool false) rfl)<|D1 14<|KK #[(sv h2.1),(sv h0.2.2.1),(sv h0.2.2.2.1),(sv h2.2)] hl (Vy _) (fun dt cx=>?_)
     refine Dv [15] ?_
     obtain rfl:=Aa ca
     exact VK (by kernel_rfl) ⟨F4,cx.dr0,(Vy _),fI⟩
   ·rintro f du ⟨F5,hz,dv,⟨_,rfl⟩⟩
    refine Ab<|Rt ?_
    obtain rfl:=Aa c7
    exact ⟨rfl,(.tuple #[(.agg #[(sv h1.2.1),(sv h1.2.2.1),(sv h1.2.2.2.1),(sv h1.2.2.2.2)]),(.bool h1.1)]),AH (l:=[.cell 3 186,.tmp 4]) (by kernel_rfl) (vs:=[(.agg #[(sv h1.2.1),(sv h1.2.2.1),(sv h1.2.2.2.1),(sv h1.2.2.2.2)]),(.bool h1.1)]) ⟨h3,0,rfl,Aj (t:=186) (g:=true) (s:=4) (by kernel_rfl) hz.at0 rfl (by decide),⟨rfl,trivial⟩⟩,(.tuple #[(.agg #[(sv h1.2.1),(sv h1.2.2.1),(sv h1.2.2.2.1),(sv h1.2.2.2.2)]),(.bool h1.1)]),F5,rfl,hz.clear,rfl⟩
def KH (N:Nat):Option (List BH):=
 some [({words_:=1,split_:=(fun y0=>Dz N y0 (fun y0=>AE N y0))}:BH),({words_:=2,split_:=(fun y0=>Dy N y0 (fun y0=>AE N y0))}:BH),({words_:=2,split_:=(fun y0=>Dw N y0 (fun y0=>AE N y0))}:BH),({words_:=3,split_:=(fun y0=>Ds N y0 (fun y0=>AE N y0))}:BH)]
theorem Ok:Af Tryz.prog 184:=fun _ _=>by kernel_rfl
theorem Pj (N:Nat) (w0:World) (F0:Mem) (hF:VY w0 F0) (hG:Bu F0) (r:(List BH)) (h:KH N=some r):
  Calls Tryz.prog 184 ([]:List Value).toArray w0 (AF w0 F0 fun F' v=>∃ (ha:VX) (hb:Nat),v=(sL ha r hb)/\LC r.length hb/\SlA Nl F' ha r):=by
 have hd:=Vz hF
 refine Go 11 Tryz.func184<|Sq (Rg [0] ?_)
 refine Vs 1<|Nss (Rg [0,1] ?_)
 refine Al' 188 #[.nilFunc] hd (fun h1 hn he=>?_)
 refine St0 #[(fV 221 #[])] he (fun ho hf=>?_)
 refine Nss (Rg (rG 10) ?_)
 refine Vs 8 ?_
 obtain ⟨F1,hg,h8,hF28⟩:=hf.fc0
 refine Bs 228 [(vi 1),(fV 223 #[(pt h1 0)]),(vi 2),(fV 224 #[(pt h1 0)]),(vi 2),(fV 226 #[(pt h1 0)]),(vi 3),(fV 228 #[(pt h1 0)])] hg (fun h9 hp hh=>?_)
 have hc:An Nl 228 F1 (some ⟨h9,0,none⟩) 4 [({words_:=1,split_:=(fun y0=>Dz N y0 (fun y0=>AE N y0))}:BH),({words_:=2,split_:=(fun y0=>Dy N y0 (fun y0=>AE N y0))}:BH),({words_:=2,split_:=(fun y0=>Dw N y0 (fun y0=>AE N y0))}:BH),({words_:=3,split_:=(fun y0=>Ds N y0 (fun y0=>AE N y0))}:BH)] (some h9,.cells ([(vi 1),(fV 223 #[(pt h1 0)]),(vi 2),(fV 224 #[(pt h1 0)]),(vi 2),(fV 226 #[(pt h1 0)]),(vi 3),(fV 228 #[(pt h1 0)])]:List Value).toArray 228 (0,0)):=VO ⟨⟨223,[],[(pt h1 0)],rfl,ML,(fun w1 F1 y0 h4 h5 h6 h7 r h0 h2 h3=>Nf N w1 F1 h2 y0 h4 h5 h6 h7 h1 (fun y0=>AE N y0) 221 [] [] Eu (Ip.mono (fun w1 F1 y0 r h0 h2 h3=>E3 N w1 F1 h2 (hG.mono (h8.t h0)) y0 r h3) h0) (h0 _ _ hF28) r h3)⟩,⟨⟨224,[],[(pt h1 0)],rfl,MK,(fun w1 F1 y0 h4 h5 h6 h7 r h0 h2 h3=>Nd N w1 F1 h2 y0 h4 h5 h6 h7 h1 (fun y0=>AE N y0) 221 [] [] Eu (Ip.mono (fun w1 F1 y0 r h0 h2 h3=>E3 N w1 F1 h2 (hG.mono (h8.t h0)) y0 r h3) h0) (h0 _ _ hF28) r h3)⟩,⟨⟨226,[],[(pt h1 0)],rfl,MJ,(fun w1 F1 y0 h4 h5 h6 h7 r h0 h2 h3=>Nc N w1 F1 h2 y0 h4 h5 h6 h7 h1 (fun y0=>AE N y0) 221 [] [] Eu (Ip.mono (fun w1 F1 y0 r h0 h2 h3=>E3 N w1 F1 h2 (hG.mono (h8.t h0)) y0 r h3) h0) (h0 _ _ hF28) r h3)⟩,⟨⟨228,[],[(pt h1 0)],rfl,MI,(fun w1 F1 y0 h4 h5 h6 h7 r h0 h2 h3=>Nb N w1 F1 h2 y0 h4 h5 h6 h7 h1 (fun y0=>AE N y0) 221 [] [] Eu (Ip.mono (fun w1 F1 y0 r h0 h2 h3=>E3 N w1 F1 h2 (hG.mono (h8.t h0)) y0 r h3) h0) (h0 _ _ hF28) r h3)⟩,rfl⟩⟩⟩⟩ (by simp)
 refine Vs 1<|Nt<|Rt ?_
 have hk:=VM hc
 obtain ⟨F2,hl,hq,hm⟩:=hh.fr0 hc
 obtain rfl:=Aa h
 exact Re [(.slice (some ⟨h9,0,none⟩) [({words_:=1,split_:=(fun y0=>Dz N y0 (fun y0=>AE N y0))}:BH),({words_:=2,split_:=(fun y0=>Dy N y0 (fun y0=>AE N y0))}:BH),({words_:=2,split_:=(fun y0=>Dw N y0 (fun y0=>AE N y0))}:BH),({words_:=3,split_:=(fun y0=>Ds N y0 (fun y0=>AE N y0))}:BH)].length 4)] hl ⟨(some ⟨h9,0,none⟩),4,rfl,hk,hm⟩
def CY (N:Nat) (x0:VW) (h1:(List VW)) (h2:(List BH)):Int->Option (Br (Bj×Bool) Int):=fun h0=>
 (bif (decide (h0 < (h2.length:Int))) then ((idx h2 h0).bind fun h3=>(bif (h3.words_ !=(h1.length:Int)) then some (.next (W64 (h0 + 1))) else ((h3.split_ h1).bind fun h4=>(bif h4.2 then some (.ret (h4.1,true)) else some (.next (W64 (h0 + 1))))))) else some (.done h0))
def IC (N:Nat) (x0:VW):Option (Bj×Bool):=
 (bif (decide ((x0.length:Int) > 16)) then some (({Area:=([]:VW),Prefix:=([]:VW),Suffix:=([]:VW),Stroke:=([]:VW)}:Bj),false) else ((strings_Split N x0 ([47]:VW)).bind fun h0=>((KH N).bind fun h1=>((AV (CY N x0 h0 h1) N 0).bind fun o=>o.k (fun r=>some r) (fun h2=>some (({Area:=([]:VW),Prefix:=([]:VW),Suffix:=([]:VW),Stroke:=([]:VW)}:Bj),false))))))
theorem Oj:Af Tryz.prog 143:=fun _ _=>by kernel_rfl
theorem Pi (N:Nat) (w0:World) (F0:Mem) (hF:VY w0 F0) (hG:Bu F0) (x0:VW) (r:(Bj×Bool)) (h:IC N x0=some r):
  Calls Tryz.prog 143 ([(sv x0)]:List Value).toArray w0 (AF w0 F0 fun F' v=>v=(.tuple #[(.agg (CU r.1)),(.bool r.2)])):=by
 have hn:=Vz hF
 refine Go 37 Tryz.func143<|Sq (Rg [0,1] ?_)
 refine Al' 186 #[(sv (([]:VW))),(sv (([]:VW))),(sv (([]:VW))),(sv (([]:VW)))] hn (fun h0 ho h6=>?_)
 refine Vs 1<|Nss<|Sq (Rg [0,1,2] ?_)
 refine Vs 3<|Nt<|Cd h (fun hp hq=>?_) (fun hp hr=>?_)
 ·refine Sq (Rg [0,1,2] ?_)
  refine Vs 1<|St0 #[(sv (([]:VW))),(sv (([]:VW))),(sv (([]:VW))),(sv (([]:VW)))] h6 (fun c5 hb=>?_)
  refine Vs 1<|Nt<|Rt<|Ae ?_
  obtain rfl:=Aa hq
  exact ⟨rfl,(.tuple #[(.agg #[(sv (([]:VW))),(sv (([]:VW))),(sv (([]:VW))),(sv (([]:VW)))]),(.bool false)]),AH (l:=[.cell 2 186,.tmp 3]) (by kernel_rfl) (vs:=[(.agg #[(sv (([]:VW))),(sv (([]:VW))),(sv (([]:VW))),(sv (([]:VW)))]),(.bool false)]) ⟨h0,0,rfl,Aj (t:=186) (g:=true) (s:=4) (by kernel_rfl) hb.at0 rfl (by decide),⟨rfl,trivial⟩⟩,(.tuple #[(.agg #[(sv (([]:VW))),(sv (([]:VW))),(sv (([]:VW))),(sv (([]:VW)))]),(.bool false)]),F0,rfl,hb.clear,rfl⟩
 ·refine Sc ?_
  refine Ab<|Sq (Rg [0,1,2] ?_)
  refine Vs 1 ?_
  obtain ⟨h7,hs,ht⟩:=bS hr
  refine Cl' CF h6 (C3 N ho F0 h6.pers hG x0 (([47]:VW)) _ hs) ?_
  rintro _ F1 hu hc hv ⟨hd,he,rfl,hw,hx⟩
  refine Vs 1<|Nss<|Sq (Rg [0,1,2] ?_)
  obtain ⟨h8,hy,hz⟩:=bS ht
  refine Cl' Ok hc (Pj N hu F1 hc.pers (hG.mono hv) _ hy) ?_
  rintro _ F2 c6 b0 b1 ⟨b2,b3,rfl,c7,b4⟩
  refine Vs 2<|Nt ?_
  obtain ⟨hf,b5,hg⟩:=bS hz
  refine VE (fun f w=>∃ (hh:Int) (F4:Mem),hf=.done hh/\HS w0 F0 w F4 [(sb h0 #[(sv (([]:VW))),(sv (([]:VW))),(sv (([]:VW))),(sv (([]:VW)))] 186)]/\Vx F2 F4/\FI f [] [(2,(pt h0 0))]) ?_ ?_
  ·refine Bk ?_
   refine Vw (by kernel_rfl) (fun m f w=>∃ (h1:Int) (F3:Mem),AV (CY N x0 h7 h8) m h1=some hf/\HS w0 F0 w F3 [(sb h0 #[(sv (([]:VW))),(sv (([]:VW))),(sv (([]:VW))),(sv (([]:VW)))] 186)]/\Vx F2 F3/\FI f [] [(2,(pt h0 0)),(4,(sL hd h7 he)),(15,(sL b2 h8 b3)),(16,(vi (h8.length:Int))),(17,(vi h1))]) N ⟨0,F2,b5,b0,(Vy _),fI⟩ ?_
   rintro c8 f c9 ⟨h1,F3,b6,h9,h2,⟨_,rfl⟩⟩
   obtain ⟨hk,ca,rfl,b7,h5⟩:=AO b6
   refine Sq (Rg [0] ?_)
   refine Vs 1<|Nss<|Cd b7 (fun b8 b9=>?_) (fun b8 ba=>?_)
   ·refine Sc ?_
    refine Ab<|Sq<|Bk<|Sq (Rg (rG 4) ?_)
    obtain ⟨bb,bc,bd⟩:=bS b9
    obtain ⟨be,hx74'⟩:=Al bc
    obtain ⟨cb,cc,cd,ce,cf,rfl,hF83,hE84⟩:=VF (VA b4 h2) hx74'
    obtain ⟨bf,bg,bh,bi,bj,bk⟩:=hE84 _ _ hx74'
    refine Ix be<|Lx 0 (h9.pers _ _ hF83) bi<|Al' 228 #[(vi 0),.nilFunc] h9 (fun cg ch bl=>?_)
    refine St0 #[(vi bb.words_),(.func (.func bf) bg.toArray bh.toArray)] bl (fun bm h3=>?_)
    refine Nss<|Sq (Rg (rG 5) ?_)
    refine Vs 1<|Ld h3.at0<|Vs 3<|Nt<|Cd bd (fun bn bo=>?_) (fun bn bp=>?_)
    ·refine Ex ?_
     refine Ar<|AD rfl<|Ab<|Rg [0,1]<|Vs 2<|Vt ?_
     have bq:=AM bo h5
     exact ⟨hk,Nat.lt_succ_self _,(W64 (h1 + 1)),F3,bq,h3.dr0,h2,fI⟩
    ·refine Sc ?_
     refine Ab<|Sq (Rg (rG 10) ?_)
     refine Vs 1<|Ld h3.at0<|Vs 1 ?_
     obtain ⟨h4,br,bs⟩:=bS bp
     refine Cq bj h3 (bk bm F3 h7 hd he hw (VA hx (b1.t h2)) _ (Vy _) h3.pers br) ?_
     rintro _ F5 ci bt bu rfl
     refine Vs 3<|Al' 186 #[(sv (([]:VW))),(sv (([]:VW))),(sv (([]:VW))),(sv (([]:VW)))] bt (fun cj cl bv=>?_)
     refine St0 (CU h4.1) bv (fun cm ha=>?_)
     refine Vs 1<|Nss (Rg [0] ?_)
     refine Vs 1<|Nt<|Cd bs (fun bw bx=>?_) (fun bw bz=>?_)
     ·refine Sq (Rg [0,1,2] ?_)
      refine Ld ha.at0<|St2 (CU h4.1) ha (fun cn hl=>?_)
      refine Vs 1<|Nt<|Rt<|AA<|Ae<|Ae<|AA ?_
      have hret:=B3 bx h5
      subst hret
      refine .inr<|Ae ?_
      obtain rfl:=Aa hg
      exact ⟨rfl,(.tuple #[(.agg (CU h4.1)),(.bool true)]),AH (l:=[.cell 2 186,.tmp 3]) (by kernel_rfl) (vs:=[(.agg (CU h4.1)),(.bool true)]) ⟨h0,0,rfl,Aj (t:=186) (g:=true) (s:=4) (by kernel_rfl) hl.at2 rfl (by decide),⟨rfl,trivial⟩⟩,(.tuple #[(.agg (CU h4.1)),(.bool true)]),F5,rfl,hl.clear,rfl⟩
     ·refine Sc ?_
      refine As<|Ab<|Rg [0,1]<|Vs 2<|Vt ?_
      have c0:=AM bz h5
      exact ⟨hk,Nat.lt_succ_self _,(W64 (h1 + 1)),F5,c0,ha.dr0.dr0,(h2.t bu),fI⟩
   ·refine Ex ?_
    refine Ar<|Ar<|AD rfl ?_
    have c1:=AP ba h5
    exact .inl ⟨rfl,h1,F3,c1,h9,h2,fI⟩
  ·rintro f co ⟨hh,F4,rfl,c3,cp,⟨_,rfl⟩⟩
   have c4:=BC hg
   refine Ab<|Sq (Rg [0,1,2] ?_)
   refine Vs 1<|St0 #[(sv (([]:VW))),(sv (([]:VW))),(sv (([]:VW))),(sv (([]:VW)))] c3 (fun cq hm=>?_)
   refine Vs 1<|Nt<|Rt ?_
   obtain rfl:=Aa c4
   exact ⟨rfl,(.tuple #[(.agg #[(sv (([]:VW))),(sv (([]:VW))),(sv (([]:VW))),(sv (([]:VW)))]),(.bool false)]),AH (l:=[.cell 2 186,.tmp 3]) (by kernel_rfl) (vs:=[(.agg #[(sv (([]:VW))),(sv (([]:VW))),(sv (([]:VW))),(sv (([]:VW)))]),(.bool false)]) ⟨h0,0,rfl,Aj (t:=186) (g:=true) (s:=4) (by kernel_rfl) hm.at0 rfl (by decide),⟨rfl,trivial⟩⟩,(.tuple #[(.agg #[(sv (([]:VW))),(sv (([]:VW))),(sv (([]:VW))),(sv (([]:VW)))]),(.bool false)]),F4,rfl,hm.clear,rfl⟩
def FR (N:Nat) (x0:VW):Option Bool:=
 ((IC N x0).bind fun h0=>some h0.2)
theorem J3:Af Tryz.prog 79:=fun _ _=>by kernel_rfl
theorem KE (N:Nat) (w0:World) (F0:Mem) (hF:VY w0 F0) (hG:Bu F0) (x0:VW) (r:Bool) (h:FR N x0=some r):
  Calls Tryz.prog 79 ([(sv x0)]:List Value).toArray w0 (AF w0 F0 fun F' v=>v=(.bool r)):=by
 have h0:=Vz hF
 refine Go 11 Tryz.func79<|Sq (Rg [0] ?_)
 refine Vs 1<|Nss (Rg (rG 8) ?_)
 refine Vs 1 ?_
 obtain ⟨h1,h2,h3⟩:=bS h
 refine Cl' Oj h0 (Pi N w0 F0 h0.pers hG x0 _ h2) ?_
 rintro _ F1 h7 h4 h8 rfl
 refine Vs 3<|Al' 186 #[(sv (([]:VW))),(sv (([]:VW))),(sv (([]:VW))),(sv (([]:VW)))] h4 (fun h9 ha h5=>?_)
 refine St0 (CU h1.1) h5 (fun hb h6=>?_)
 refine Vs 1<|Nss (Rg [0,1] ?_)
 refine Vs 2<|Nt<|Rt ?_
 obtain rfl:=Aa h3
 exact Re [(.bool h1.2)] h6 rfl
def BR (N:Nat) (x0 x1:Int):Option VW:=
 ((strconv_Itoa N x0).bind fun h0=>((strings_Repeat N ([48]:VW) (max 0 (W64 (x1 - (h0.length:Int))))).bind fun h1=>((D0 h1 h0).bind fun h2=>some h2)))
theorem GB:Af Tryz.prog 146:=fun _ _=>by kernel_rfl
theorem Hh (N:Nat) (w0:World) (F0:Mem) (hF:VY w0 F0) (hG:Bu F0) (x0 x1:Int) (r:VW) (h:BR N x0 x1=some r):
  Calls Tryz.prog 146 ([(vi x0),(vi x1)]:List Value).toArray w0 (AF w0 F0 fun F' v=>v=(sv r)):=by
 have h0:=Vz hF
 refine Go 16 Tryz.func146<|Sq (Rg [0] ?_)
 refine Vs 1<|Nss (Rg [0,1,2] ?_)
 refine Vs 1 ?_
 obtain ⟨h1,h4,h5⟩:=bS h
 refine Cl' BM h0 (BV N w0 F0 h0.pers hG x0 _ h4) ?_
 rintro _ F1 h6 h2 hd rfl
 refine Vs 1<|Nss (Rg (rG 9) ?_)
 refine Vs 5 ?_
 obtain ⟨h7,h8,h9⟩:=bS h5
 refine Cl' JW h2 (KA N h6 F1 h2.pers (([48]:VW)) ((max 0 (W64 (x1 - (h1.length:Int))))) _ h8) ?_
 rintro _ F2 he ha hf rfl
 refine Vs 1 ?_
 obtain ⟨h3,hb,hc⟩:=bS h9
 refine V 15 9 (A3 (t:=9) (t':=9) (x:=(.tmp 13)) (y:=(.tmp 14)) (a:=h7) (b:=h1) (v:=h3) rfl rfl hb)<|Vs 1<|Nt<|Rt ?_
 obtain rfl:=Aa hc
 exact Re [(sv h3)] ha rfl
def C6 (N:Nat) (x0:Int):Option (VW×Int):=
 ((FQ N x0 0 20000).bind fun h0=>(bif (!h0) then some (([]:VW),1) else ((strconv_Itoa N (W64 ((W64 (Int.tdiv x0 1440)) + 1))).bind fun h1=>((D0 h1 ([32]:VW)).bind fun h2=>((BR N (Int.tmod (W64 (Int.tdiv x0 60)) 24) 2).bind fun h3=>((D0 h2 h3).bind fun h4=>((BR N (Int.tmod x0 60) 2).bind fun h5=>((D0 h4 h5).bind fun h6=>some (h6,0)))))))))
theorem GT:Af Tryz.prog 82:=fun _ _=>by kernel_rfl
theorem Hx (N:Nat) (w0:World) (F0:Mem) (hF:VY w0 F0) (hG:Bu F0) (x0:Int) (r:(VW×Int)) (h:C6 N x0=some r):
  Calls Tryz.prog 82 ([(vi x0)]:List Value).toArray w0 (AF w0 F0 fun F' v=>v=(.tuple #[(sv r.1),(vi r.2)])):=by
 have h2:=Vz hF
 refine Go 21 Tryz.func82<|Sq (Rg [0,1] ?_)
 refine Vs 2<|Nss<|Sq (Rg [0,1,2] ?_)
 refine Vs 1 ?_
 obtain ⟨b0,h9,ha⟩:=bS h
 refine Cl' GA h2 (Hg N w0 F0 h2.pers x0 0 20000 _ h9) ?_
 rintro _ F1 hb h0 h1 rfl
 refine Vs 1<|Nt<|Cd ha (fun hc hd=>?_) (fun hc he=>?_)
 ·refine Sq (Rg [0,1] ?_)
  refine Vs 2<|Nt<|Rt<|Ae ?_
  obtain rfl:=Aa hd
  exact Re [(sv (([]:VW))),(vi 1)] h0 rfl
 ·refine Sc ?_
  refine Ab<|Sq (Rg (rG 16) ?_)
  refine Vs 3 ?_
  obtain ⟨hf,hg,hh⟩:=bS he
  refine Cl' BM h0 (BV N hb F1 h0.pers (hG.mono h1) ((W64 ((W64 (Int.tdiv x0 1440)) + 1))) _ hg) ?_
  rintro _ F2 hk h3 h4 rfl
  obtain ⟨h5,hl,hm⟩:=bS hh
  refine V 11 9 (A3 (t:=9) (t':=9) (x:=(.tmp 10)) (y:=(.const (sv ([32]:VW)))) (a:=hf) (b:=([32]:VW)) (v:=h5) rfl rfl hl)<|Vs 3 ?_
  obtain ⟨hn,ho,hp⟩:=bS hm
  refine Cl' GB h3 (Hh N hk F2 h3.pers (hG.mono (h1.t h4)) ((Int.tmod (W64 (Int.tdiv x0 60)) 24)) 2 _ ho) ?_
  rintro _ F3 hq h6 hr rfl
  obtain ⟨h7,hs,ht⟩:=bS hp
  refine V 16 9 (A3 (t:=9) (t':=9) (x:=(.tmp 11)) (y:=(.tmp 15)) (a:=h5) (b:=hn) (v:=h7) rfl rfl hs)<|Vs 2 ?_
  obtain ⟨hu,hv,hw⟩:=bS ht
  refine Cl' GB h6 (Hh N hq F3 h6.pers (hG.mono ((h1.t h4).trans hr)) ((Int.tmod x0 60)) 2 _ hv) ?_
  rintro _ F4 b1 hx b2 rfl
  obtain ⟨h8,hy,hz⟩:=bS hw
  refine V 20 9 (A3 (t:=9) (t':=9) (x:=(.tmp 16)) (y:=(.tmp 19)) (a:=h7) (b:=hu) (v:=h8) rfl rfl hy)<|Vs 2<|Nt<|Rt ?_
  obtain rfl:=Aa hz
  exact Re [(sv h8),(vi 0)] hx rfl
def CH (N:Nat) (x0:(List VW)):Int->Option (Br VW Int):=fun h0=>
 (bif (decide (h0 < (x0.length:Int))) then ((idx x0 h0).bind fun h1=>(bif (h1 !=([]:VW)) then some (.ret h1) else some (.next (W64 (h0 + 1))))) else some (.done h0))
def EZ (N:Nat) (x0:(List VW)):Option VW:=
 ((AV (CH N x0) N 0).bind fun o=>o.k (fun r=>some r) (fun h0=>some ([]:VW)))
theorem Ky:Af Tryz.prog 147:=fun _ _=>by kernel_rfl
theorem LJ (N:Nat) (w0:World) (F0:Mem) (hF:VY w0 F0) (x0:(List VW)) (h2:VX) (h3:Nat) (hw:LC x0.length h3) (h9:SlA AU F0 h2 x0) (r:VW) (h:EZ N x0=some r):
  Calls Tryz.prog 147 ([(sL h2 x0 h3)]:List Value).toArray w0 (AF w0 F0 fun F' v=>v=(sv r)):=by
 have ha:=Vz hF
 refine Go 18 Tryz.func147<|Sq (Rg [0] ?_)
 refine Vs 1<|Nss (Rg [0] ?_)
 refine Vs 1<|Nss<|Sq (Rg [0,1,2] ?_)
 refine Vs 3<|Nt ?_
 obtain ⟨h6,hb,h7⟩:=bS h
 refine VE (fun f w=>∃ (h8:Int) (F2:Mem),h6=.done h8/\HS w0 F0 w F2 []/\Vx F0 F2/\FI f [] [(3,(sv (([]:VW))))]) ?_ ?_
 ·refine Bk ?_
  refine Vw (by kernel_rfl) (fun m f w=>∃ (h0:Int) (F1:Mem),AV (CH N x0) m h0=some h6/\HS w0 F0 w F1 []/\Vx F0 F1/\FI f [] [(3,(sv (([]:VW)))),(6,(sL h2 x0 h3)),(7,(vi (x0.length:Int))),(8,(vi h0))]) N ⟨0,F0,hb,ha,(Vy _),fI⟩ ?_
  rintro hx f hy ⟨h0,F1,hc,h1,h4,⟨_,rfl⟩⟩
  obtain ⟨hd,hz,rfl,he,h5⟩:=AO hc
  refine Sq (Rg [0] ?_)
  refine Vs 1<|Nss<|Cd he (fun hf hg=>?_) (fun hf hh=>?_)
  ·refine Sc ?_
   refine Ab<|Sq<|Bk<|Sq (Rg [0,1,2] ?_)
   obtain ⟨hk,hl,hm⟩:=bS hg
   obtain ⟨hn,hx49'⟩:=Al hl
   obtain ⟨b0,b1,b2,b3,b4,rfl,hF58,hE59⟩:=VF (VA h9 h4) hx49'
   have ho:=hE59 _ _ hx49'
   refine Ix hn<|Lx 0 (h1.pers _ _ hF58) ho<|Vs 1<|Nss (Rg [0,1,2] ?_)
   refine Vs 3<|Nt<|Cd hm (fun hp hq=>?_) (fun hp hr=>?_)
   ·refine Sq (Rg [0,1] ?_)
    refine Vs 2<|Nt<|Rt<|AA<|Ae<|Ae<|AA ?_
    have hret:=B3 hq h5
    subst hret
    refine .inr<|Ae ?_
    obtain rfl:=Aa h7
    exact Re [(sv hk)] h1 rfl
   ·refine Sc ?_
    refine As<|Ab<|Rg [0,1]<|Vs 2<|Vt ?_
    have hs:=AM hr h5
    exact ⟨hd,Nat.lt_succ_self _,(W64 (h0 + 1)),F1,hs,h1,h4,fI⟩
  ·refine Ex ?_
   refine Ar<|Ar<|AD rfl ?_
   have ht:=AP hh h5
   exact .inl ⟨rfl,h0,F1,ht,h1,h4,fI⟩
 ·rintro f b5 ⟨h8,F2,rfl,hu,b6,⟨_,rfl⟩⟩
  have hv:=BC h7
  refine Ab<|Sq (Rg [0,1] ?_)
  refine Vs 2<|Nt<|Rt ?_
  obtain rfl:=Aa hv
  exact Re [(sv (([]:VW)))] hu rfl
def BW (N:Nat) (x0:Ac) (x1:Ad) (h6:Bool) (h2:(List AQ)):(List VW×Int)->Option (Br (VW×Int) (List VW×Int)):=fun h0=>
 (bif (decide (h0.2 < (h2.length:Int))) then ((idx h2 h0.2).bind fun h1=>((bif h1.has_ then ((BR N h1.n_ h1.digits_).bind fun h3=>((Ci h0.1 [h3]).bind fun h4=>some h4)) else some h0.1).bind fun h5=>some (.next (h5,(W64 (h0.2 + 1)))))) else some (.done (h0.1,h0.2)))
def BI (N:Nat) (x0:Ac) (x1:Ad):Option (VW×Int):=
 ((B1 N ({Report:=x0.Report,Serial:=x0.Serial,Zone:=x0.Zone}:Ac) ({Report:=x1.Report,Serial:=x1.Serial,Zone:=x1.Zone}:Ad)).bind fun h0=>(bif (!h0) then some (([]:VW),1) else ((CK N ({Report:=x0.Report,Serial:=x0.Serial,Zone:=x0.Zone}:Ac) ({Report:=x1.Report,Serial:=x1.Serial,Zone:=x1.Zone}:Ad)).bind fun h1=>((AV (BW N x0 x1 h0 h1) N (([]:List VW),0)).bind fun o=>o.k (fun r=>some r) (fun h2=>((strings_Join N h2.1 ([32]:VW)).bind fun h3=>((EZ N ([h3,([45]:VW)])).bind fun h4=>some (h4,0))))))))
theorem Dq:Af Tryz.prog 83:=fun _ _=>by kernel_rfl
theorem DN (N:Nat) (w0:World) (F0:Mem) (hF:VY w0 F0) (hG:Bu F0) (x0:Ac) (x1:Ad) (r:(VW×Int)) (h:BI N x0 x1=some r):
  Calls Tryz.prog 83 ([(.agg (Ah x0)),(.agg (B8 x1))]:List Value).toArray w0 (AF w0 F0 fun F' v=>v=(.tuple #[(sv r.1),(vi r.2)])):=by
 have hz:=Vz hF
 refine Go 36 Tryz.func83<|Sq (Rg (rG 4) ?_)
 refine Bx' 23 (Ah x0) hz (fun d2 d3 b0=>?_)
 refine Bx' 32 (B8 x1) b0 (fun d4 b1 h8=>?_)
 refine Vs 2<|Nss<|Sq (Rg (rG 4) ?_)
 refine Ld h8.at1<|Ld h8.at0 ?_
 obtain ⟨b2,b3,b4⟩:=bS h
 refine Cl' Dp h8 (DM N b1 F0 h8.pers (({Report:=x0.Report,Serial:=x0.Serial,Zone:=x0.Zone}:Ac)) (({Report:=x1.Report,Serial:=x1.Serial,Zone:=x1.Zone}:Ad)) _ b3) ?_
 rintro _ F1 b5 h2 b6 rfl
 refine Vs 1<|Nt<|Cd b4 (fun b7 b8=>?_) (fun b7 b9=>?_)
 ·refine Sq (Rg [0,1] ?_)
  refine Vs 2<|Nt<|Rt<|Ae ?_
  obtain rfl:=Aa b8
  exact Re [(sv (([]:VW))),(vi 1)] h2 rfl
 ·refine Sc ?_
  refine Ab<|Sq (Rg [0] ?_)
  refine Vs 1<|Nss<|Sq (Rg (rG 5) ?_)
  refine Ld h2.at1<|Ld h2.at0 ?_
  obtain ⟨h3,ba,bb⟩:=bS b9
  refine Cl' Et h2 (Fc N b5 F1 h2.pers (({Report:=x0.Report,Serial:=x0.Serial,Zone:=x0.Zone}:Ac)) (({Report:=x1.Report,Serial:=x1.Serial,Zone:=x1.Zone}:Ad)) _ ba) ?_
  rintro _ F2 d6 bc bd ⟨be,hp,rfl,d7,bf⟩
  refine Vs 2<|Nt ?_
  have bg:=bc.dr0.dr0.dummy (oc #[] 0)
  obtain ⟨hq,bh,bi⟩:=bS bb
  refine VE (fun f w=>∃ (h4:(List VW×Int)) (F4:Mem) (h9:VX) (ha:Nat) (hg:Option Nat×Obj),hq=.done h4/\HS w0 F0 w F4 [hg]/\Vx F2 F4/\FI f [] [(6,(sL h9 h4.1 ha))]/\An AU 9 F4 h9 ha h4.1 hg) ?_ ?_
  ·refine Bk ?_
   refine Vw (by kernel_rfl) (fun m f w=>∃ (h0:(List VW×Int)) (F3:Mem) (h5:VX) (h6:Nat) (h7:Option Nat×Obj),AV (BW N x0 x1 b2 h3) m h0=some hq/\HS w0 F0 w F3 [h7]/\Vx F2 F3/\FI f [] [(6,(sL h5 h0.1 h6)),(15,(sL be h3 hp)),(16,(vi (h3.length:Int))),(17,(vi h0.2))]/\An AU 9 F3 h5 h6 h0.1 h7) N ⟨(([]:List VW),0),F2,none,0,(none,.cells #[] 0 (0,0)),bh,bg,(Vy _),fI,(VN AU 9 F2 _)⟩ ?_
   rintro d8 f d9 ⟨h0,F3,h5,h6,h7,bj,hh,hb,⟨_,rfl⟩,hk⟩
   obtain ⟨bk,da,rfl,bl,hr⟩:=AO bj
   refine Sq (Rg [0] ?_)
   refine Vs 1<|Nss<|Cd bl (fun bm bn=>?_) (fun bm bo=>?_)
   ·refine Sc ?_
    refine Ab<|Sq<|Bk<|Sq (Rg (rG 4) ?_)
    obtain ⟨hl,bp,bq⟩:=bS bn
    obtain ⟨br,hx76'⟩:=Al bp
    obtain ⟨bs,bt,db,dc,dd,rfl,hF85,hE86⟩:=VF (VA bf hb) hx76'
    have bu:=hE86 _ _ hx76'
    refine Ix br<|Lx 0 (hh.pers _ _ hF85) bu<|Al' 180 #[(.bool false),(vi 0),(vi 0),(vi 0)] hh (fun de df bv=>?_)
    refine St0 (Iz hl) bv (fun bw h1=>?_)
    refine Nss (Rg [0,1] ?_)
    refine Vs 1<|Ld h1.at0<|Nt ?_
    obtain ⟨hm,bx,bz⟩:=bS bq
    refine VE (fun f w=>∃ (F5:Mem) (hc:VX) (hd:Nat) (he:Option Nat×Obj),HS w0 F0 w F5 [he]/\Vx F3 F5/\FI f [] [(6,(sL hc hm hd)),(15,(.slice (some ⟨bs,bt,none⟩) h3.length hp)),(16,(vi (h3.length:Int))),(17,(vi h0.2))]/\An AU 9 F5 hc hd hm he) ?_ ?_
    ·refine Cd bx (fun c0 c1=>?_) (fun c0 c3=>?_)
     ·refine Rg (rG 9) ?_
      refine Vs 2<|Ld h1.at0<|Vs 1<|Ld h1.at0 ?_
      obtain ⟨hn,c4,c5⟩:=bS c1
      refine Cl' GB h1 (Hh N bw F3 h1.pers (hG.mono ((b6.t bd).trans hb)) hl.n_ hl.digits_ _ c4) ?_
      rintro _ F6 dg c6 hs rfl
      refine Bs 9 [(sv hn)] c6 (fun ht dh hu=>?_)
      have c7:An AU 9 F6 (some ⟨ht,0,none⟩) 1 [hn] (some ht,.cells ([(sv hn)]:List Value).toArray 9 (0,0)):=VO ⟨rfl,rfl⟩ (by simp)
      obtain ⟨di,c8,c9⟩:=bS c5
      refine Ap2 UK hu (hk.mono hs) (hu.rd0 c7) c8 (fun ca cb cc dj cd ce=>?_)
      refine Vs 1<|Vt ?_
      obtain rfl:=Aa c9
      exact .inl ⟨rfl,F6,ca,cb,cc,cd.dr0.dr0,hs,fI,ce⟩
     ·refine Sc ?_
      obtain rfl:=Aa c3
      exact .inl ⟨rfl,F3,h5,h6,h7,h1.dr0,(Vy _),fI,hk⟩
    ·rintro f dk ⟨F5,hc,hd,he,cf,cg,⟨_,rfl⟩,ch⟩
     refine As<|Ab<|Rg [0,1]<|Vs 2<|Vt ?_
     have ci:=AM bz hr
     exact ⟨bk,Nat.lt_succ_self _,(hm,(W64 (h0.2 + 1))),F5,hc,hd,he,ci,cf,(hb.t cg),fI,ch⟩
   ·refine Ex ?_
    refine Ar<|Ar<|AD rfl ?_
    have cj:=AP bo hr
    exact .inl ⟨rfl,(h0.1,h0.2),F3,h5,h6,h7,cj,hh,hb,fI,hk⟩
  ·rintro f cl ⟨h4,F4,h9,ha,hg,rfl,cm,dl,⟨_,rfl⟩,hv⟩
   have cn:=BC bi
   refine Ab<|Sq (Rg (rG 6) ?_)
   refine Vs 1 ?_
   have co:=VM hv
   obtain ⟨F7,hw,dm,cp⟩:=cm.fr0 hv
   obtain ⟨hf,cq,cr⟩:=bS cn
   refine Cl' Co hw (CI N cl F7 hw.pers h4.1 h9 ha co cp (([32]:VW)) _ cq) ?_
   rintro _ F8 dn ct dp rfl
   refine Bs 9 [(sv hf),(sv (([45]:VW)))] ct (fun ho cu cv=>?_)
   have hx:An AU 9 F8 (some ⟨ho,0,none⟩) 2 [hf,([45]:VW)] (some ho,.cells ([(sv hf),(sv (([45]:VW)))]:List Value).toArray 9 (0,0)):=VO ⟨rfl,⟨rfl,rfl⟩⟩ (by simp)
   have cw:=VM hx
   obtain ⟨F9,hy,dq,cx⟩:=cv.fr0 hx
   obtain ⟨cy,cz,d0⟩:=bS cr
   refine Cl' Ky hy (LJ N cu F9 hy.pers ([hf,([45]:VW)]) (some ⟨ho,0,none⟩) 2 cw cx _ cz) ?_
   rintro _ dr dt d1 du rfl
   refine Vs 2<|Nt<|Rt ?_
   obtain rfl:=Aa d0
   exact Re [(sv cy),(vi 0)] d1 rfl




def CM (N:Nat) (x0:(List VW)) (x1:VW):Int->Option (Br Int Int):=fun h0=>
 (bif (decide (h0 < (x0.length:Int))) then ((idx x0 h0).bind fun h1=>(bif (x1==h1) then some (.ret h0) else some (.next (W64 (h0 + 1))))) else some (.done h0))
def Ca (N:Nat) (x0:(List VW)) (x1:VW):Option Int:=
 ((AV (CM N x0 x1) N 0).bind fun o=>o.k (fun r=>some r) (fun h0=>some (-1)))
theorem CQ:Af Tryz.prog 94:=fun _ _=>by kernel_rfl
theorem C4 (N:Nat) (w0:World) (F0:Mem) (hF:VY w0 F0) (x0:(List VW)) (h2:VX) (h3:Nat) (hv:LC x0.length h3) (h9:SlA AU F0 h2 x0) (x1:VW) (r:Int) (h:Ca N x0 x1=some r):
  Calls Tryz.prog 94 ([(sL h2 x0 h3),(sv x1)]:List Value).toArray w0 (AF w0 F0 fun F' v=>v=(vi r)):=by
 have ha:=Vz hF
 refine Go 19 Tryz.func94<|Sq (Rg [0] ?_)
 refine Vs 1<|Nss<|Sq (Rg [0,1,2] ?_)
 refine Vs 3<|Nt ?_
 obtain ⟨h6,hb,h7⟩:=bS h
 refine VE (fun f w=>∃ (h8:Int) (F2:Mem),h6=.done h8/\HS w0 F0 w F2 []/\Vx F0 F2/\FI f [] []) ?_ ?_
 ·refine Bk ?_
  refine Vw (by kernel_rfl) (fun m f w=>∃ (h0:Int) (F1:Mem),AV (CM N x0 x1) m h0=some h6/\HS w0 F0 w F1 []/\Vx F0 F1/\FI f [] [(0,(sL h2 x0 h3)),(1,(sv x1)),(7,(vi (x0.length:Int))),(8,(vi h0))]) N ⟨0,F0,hb,ha,(Vy _),fI⟩ ?_
  rintro hw f hx ⟨h0,F1,hc,h1,h4,⟨_,rfl⟩⟩
  obtain ⟨hd,hy,rfl,he,h5⟩:=AO hc
  refine Sq (Rg [0] ?_)
  refine Vs 1<|Nss<|Cd he (fun hf hg=>?_) (fun hf hh=>?_)
  ·refine Sc ?_
   refine Ab<|Sq<|Bk<|Sq (Rg [0,1] ?_)
   refine Vs 2<|Nss (Rg (rG 6) ?_)
   refine Vs 3 ?_
   obtain ⟨hz,hk,hl⟩:=bS hg
   obtain ⟨hm,hx48'⟩:=Al hk
   obtain ⟨b0,b1,b2,b3,b4,rfl,hF57,hE58⟩:=VF (VA h9 h4) hx48'
   have hn:=hE58 _ _ hx48'
   refine Ix hm<|Lx 0 (h1.pers _ _ hF57) hn<|Vs 1<|Nt<|Cd hl (fun ho hp=>?_) (fun ho hq=>?_)
   ·refine Sq (Rg [0,1] ?_)
    refine Vs 2<|Nt<|Rt<|AA<|Ae<|Ae<|AA ?_
    have hret:=B3 hp h5
    subst hret
    refine .inr<|Ae ?_
    obtain rfl:=Aa h7
    exact Re [(vi h0)] h1 rfl
   ·refine Sc ?_
    refine As<|Ab<|Rg [0,1]<|Vs 2<|Vt ?_
    have hr:=AM hq h5
    exact ⟨hd,Nat.lt_succ_self _,(W64 (h0 + 1)),F1,hr,h1,h4,fI⟩
  ·refine Ex ?_
   refine Ar<|Ar<|AD rfl ?_
   have hs:=AP hh h5
   exact .inl ⟨rfl,h0,F1,hs,h1,h4,fI⟩
 ·rintro f b5 ⟨h8,F2,rfl,ht,b6,⟨_,rfl⟩⟩
  have hu:=BC h7
  refine Ab<|Sq (Rg [0] ?_)
  refine Vs 1<|Nt<|Rt ?_
  obtain rfl:=Aa hu
  exact Re [(vi (-1))] ht rfl
def Cf (N:Nat) (x0:VW):Option Int:=
 ((Fe N x0 9 (fun y0=>Bm N y0)).bind fun h0=>(bif (!h0) then some (-1) else ((Ek N x0).bind fun h1=>some h1.1)))
theorem DT:Af Tryz.prog 165:=fun _ _=>by kernel_rfl
theorem EA (N:Nat) (w0:World) (F0:Mem) (hF:VY w0 F0) (hG:Bu F0) (x0:VW) (r:Int) (h:Cf N x0=some r):
  Calls Tryz.prog 165 ([(sv x0)]:List Value).toArray w0 (AF w0 F0 fun F' v=>v=(vi r)):=by
 have h1:=Vz hF
 refine Go 14 Tryz.func165<|Sq (Rg [0] ?_)
 refine Vs 1<|Nss<|Sq (Rg [0,1,2] ?_)
 refine Vs 1 ?_
 obtain ⟨hf,h2,h3⟩:=bS h
 refine Cl' Fa h1 (FO N w0 F0 h1.pers x0 9 199 [] [] (fun y0=>Bm N y0) Ft (fun w1 F1 y0 r hg h4 h5=>Gp N w1 F1 h4 y0 r h5) _ h2) ?_
 rintro _ F1 h6 h0 h7 rfl
 refine Vs 1<|Nt<|Cd h3 (fun h8 h9=>?_) (fun h8 ha=>?_)
 ·refine Sq (Rg [0] ?_)
  refine Vs 1<|Nt<|Rt<|Ae ?_
  obtain rfl:=Aa h9
  exact Re [(vi (-1))] h0 rfl
 ·refine Sc ?_
  refine Ab<|Sq (Rg (rG 7) ?_)
  refine Vs 1 ?_
  obtain ⟨hb,hc,hd⟩:=bS ha
  refine Cl' Hs h0 (Ih N h6 F1 h0.pers (hG.mono h7) x0 _ hc) ?_
  rintro _ F2 hh he hk ⟨hl,rfl,hm⟩
  refine Vs 5<|Nss (Rg [0,1] ?_)
  refine Vs 2<|Nt<|Rt ?_
  obtain rfl:=Aa hd
  exact Re [(vi hb.1)] he rfl
def FS (N:Nat) (x0:VW):Option (Int×Int):=
 ((strings_Cut N x0 ([32]:VW)).bind fun h2=>((Cf N h2.1).bind fun h1=>((Cf N h2.2.1).bind fun h0=>(bif ((decide (h1 < 1))||((decide (h1 > 20000))||(decide (h0 < 0)))) then some (0,13) else ((C6 N (W64 ((W64 ((W64 ((W64 (h1 - 1)) * 1440)) + (W64 ((W64 (Int.tdiv h0 100)) * 60)))) + (Int.tmod h0 100)))).bind fun h3=>(bif ((h3.2 !=0)||(h3.1 !=x0)) then some (0,13) else some ((W64 ((W64 ((W64 ((W64 (h1 - 1)) * 1440)) + (W64 ((W64 (Int.tdiv h0 100)) * 60)))) + (Int.tmod h0 100))),0)))))))
theorem J4:Af Tryz.prog 96:=fun _ _=>by kernel_rfl
theorem KF (N:Nat) (w0:World) (F0:Mem) (hF:VY w0 F0) (hG:Bu F0) (x0:VW) (r:(Int×Int)) (h:FS N x0=some r):
  Calls Tryz.prog 96 ([(sv x0)]:List Value).toArray w0 (AF w0 F0 fun F' v=>v=(.tuple #[(vi r.1),(vi r.2)])):=by
 have h9:=Vz hF
 refine Go 55 Tryz.func96<|Sq (Rg [0,1] ?_)
 refine Vs 2<|Nss (Rg (rG 9) ?_)
 refine Vs 1 ?_
 obtain ⟨ha,hg,hh⟩:=bS h
 refine Cl' H1 h9 (I6 N w0 F0 h9.pers hG x0 (([32]:VW)) _ hg) ?_
 rintro _ F1 hk hb h5 rfl
 refine Vs 7<|Nss (Rg (rG 6) ?_)
 refine Vs 1 ?_
 obtain ⟨h0,hl,hm⟩:=bS hh
 refine Cl' DT hb (EA N hk F1 hb.pers (hG.mono h5) ha.1 _ hl) ?_
 rintro _ F2 hn hc hd rfl
 refine Vs 1 ?_
 obtain ⟨h1,ho,hp⟩:=bS hm
 refine Cl' DT hc (EA N hn F2 hc.pers (hG.mono (h5.t hd)) ha.2.1 _ ho) ?_
 rintro _ F3 b1 h6 hq rfl
 refine Vs 2<|Nss<|Sq (Rg (rG 10) ?_)
 refine VD (fun f w=>∃ (F4:Mem),HS w0 F0 w F4 []/\Vx F3 F4/\FI f [] [(0,(sv x0)),(7,(vi h0)),(8,(vi h1)),(31,(.bool ((decide (h0 < 1))||((decide (h0 > 20000))||(decide (h1 < 0))))))]) ?_ ?_
 ·refine Vs 3 ?_
  refine VC (decide (h0 < 1)) (fun h2=>?_) (fun h2=>?_)
  ·refine Ss h2 2 ?_
   refine Pk1 h2<|Vs 1<|Ss (rfl:true=true) 2<|Pk1 (rfl:true=true) ?_
   exact Vt ⟨rfl,F3,h6,(Vy _),(fJ ⟨rfl,rfl,rfl,(congrArg Value.bool (Hy h2 rfl)),trivial⟩)⟩
  ·refine Vgs h2 2 ?_
   refine Pk0 h2<|Vs 1<|VC (decide (h0 > 20000)) (fun h3=>?_) (fun h3=>?_)
   ·refine Ss h3 2 ?_
    refine Pk1 h3 ?_
    exact Vt ⟨rfl,F3,h6,(Vy _),(fJ ⟨rfl,rfl,rfl,(congrArg Value.bool (DB h2 (Hy h3 rfl))),trivial⟩)⟩
   ·refine Vgs h3 2 ?_
    refine Pk0 h3 ?_
    exact Vt ⟨rfl,F3,h6,(Vy _),(fJ ⟨rfl,rfl,rfl,(congrArg Value.bool (DB h2 (DB h3 rfl))),trivial⟩)⟩
 ·rintro f hr ⟨F4,h7,hs,⟨_,rfl⟩⟩
  refine Ab<|Cd hp (fun ht hu=>?_) (fun ht hv=>?_)
  ·refine Sq (Rg [0,1] ?_)
   refine Vs 2<|Nt<|Rt<|Ae ?_
   obtain rfl:=Aa hu
   exact Re [(vi 0),(vi 13)] h7 rfl
  ·refine Sc ?_
   refine Ab<|Sq (Rg (rG 11) ?_)
   refine Vs 11<|Nss<|Sq (Rg (rG 7) ?_)
   refine Vs 1 ?_
   obtain ⟨h8,hw,hx⟩:=bS hv
   refine Cl' GT h7 (Hx N hr F4 h7.pers (hG.mono (((h5.t hd).trans hq).trans hs)) ((W64 ((W64 ((W64 ((W64 (h0 - 1)) * 1440)) + (W64 ((W64 (Int.tdiv h1 100)) * 60)))) + (Int.tmod h1 100)))) _ hw) ?_
   rintro _ F5 b2 he b3 rfl
   refine Vs 5<|Nss (Rg (rG 7) ?_)
   refine VD (fun f w=>∃ (F6:Mem),HS w0 F0 w F6 []/\Vx F5 F6/\FI f [] [(9,(vi (W64 ((W64 ((W64 ((W64 (h0 - 1)) * 1440)) + (W64 ((W64 (Int.tdiv h1 100)) * 60)))) + (Int.tmod h1 100))))),(53,(.bool ((h8.2 !=0)||(h8.1 !=x0))))]) ?_ ?_
   ·refine Vs 3 ?_
    refine VC (h8.2 !=0) (fun h4=>?_) (fun h4=>?_)
    ·refine Ss h4 3 ?_
     refine Pk1 h4 ?_
     exact Vt ⟨rfl,F5,he,(Vy _),(fJ ⟨rfl,(congrArg Value.bool (Hy h4 rfl)),trivial⟩)⟩
    ·refine Vgs h4 3 ?_
     refine Pk0 h4 ?_
     exact Vt ⟨rfl,F5,he,(Vy _),(fJ ⟨rfl,(congrArg Value.bool (DB h4 rfl)),trivial⟩)⟩
   ·rintro f b4 ⟨F6,hf,b5,⟨_,rfl⟩⟩
    refine Ab<|Cd hx (fun hy hz=>?_) (fun hy b0=>?_)
    ·refine Sq (Rg [0,1] ?_)
     refine Vs 2<|Nt<|Rt<|Ae ?_
     obtain rfl:=Aa hz
     exact Re [(vi 0),(vi 13)] hf rfl
    ·refine Sc ?_
     refine Ab<|Sq (Rg [0,1,2] ?_)
     refine Vs 3<|Nt<|Rt ?_
     obtain rfl:=Aa b0
     exact Re [(vi (W64 ((W64 ((W64 ((W64 (h0 - 1)) * 1440)) + (W64 ((W64 (Int.tdiv h1 100)) * 60)))) + (Int.tmod h1 100)))),(vi 0)] hf rfl
def D8 (N:Nat) (x0:Ac) (x1:VW):Option (Ad×Int):=
 ((strings_Split N x1 ([32]:VW)).bind fun h2=>(((CK N ({Report:=x0.Report,Serial:=x0.Serial,Zone:=x0.Zone}:Ac) ({Report:=0,Serial:=0,Zone:=0}:Ad)).bind fun h5=>((idx h5 0).bind fun h6=>(bif h6.has_ then some (decide ((h2.length:Int) > 0)) else some false))).bind fun h7=>((bif h7 then ((idx h2 0).bind fun h8=>((Cf N h8).bind fun h9=>((sub h2 1 (h2.length:Int)).bind fun ha=>some (ha,h9)))) else some (h2,0)).bind fun h0=>(((CK N ({Report:=x0.Report,Serial:=x0.Serial,Zone:=x0.Zone}:Ac) ({Report:=h0.2,Serial:=0,Zone:=0}:Ad)).bind fun hb=>((idx hb 1).bind fun hc=>(bif hc.has_ then some (decide ((h0.1.length:Int) > 0)) else some false))).bind fun hd=>((bif hd then ((idx h0.1 0).bind fun he=>((Cf N he).bind fun hf=>((sub h0.1 1 (h0.1.length:Int)).bind fun hg=>some (hg,hf)))) else some (h0.1,0)).bind fun h1=>(((CK N ({Report:=x0.Report,Serial:=x0.Serial,Zone:=x0.Zone}:Ac) ({Report:=h0.2,Serial:=h1.2,Zone:=0}:Ad)).bind fun hh=>((idx hh 2).bind fun hk=>(bif hk.has_ then some (decide ((h1.1.length:Int) > 0)) else some false))).bind fun hl=>((bif hl then ((idx h1.1 0).bind fun hm=>((Cf N hm).bind fun hn=>((sub h1.1 1 (h1.1.length:Int)).bind fun ho=>some (ho,hn)))) else some (h1.1,0)).bind fun h3=>((BI N ({Report:=x0.Report,Serial:=x0.Serial,Zone:=x0.Zone}:Ac) ({Report:=h0.2,Serial:=h1.2,Zone:=h3.2}:Ad)).bind fun h4=>(bif ((h4.2 !=0)||(h4.1 !=x1)) then some (({Report:=0,Serial:=0,Zone:=0}:Ad),1) else some (({Report:=h0.2,Serial:=h1.2,Zone:=h3.2}:Ad),0))))))))))
theorem HB:Af Tryz.prog 97:=fun _ _=>by kernel_rfl
theorem Il (N:Nat) (w0:World) (F0:Mem) (hF:VY w0 F0) (hG:Bu F0) (x0:Ac) (x1:VW) (r:(Ad×Int)) (h:D8 N x0 x1=some r):
  Calls Tryz.prog 97 ([(.agg (Ah x0)),(sv x1)]:List Value).toArray w0 (AF w0 F0 fun F' v=>v=(.tuple #[(.agg (B8 r.1)),(vi r.2)])):=by
 have bp:=Vz hF
 refine Go 60 Tryz.func97<|Sq (Rg [0,1,2] ?_)
 refine Bx' 23 (Ah x0) bp (fun h5 gx bq=>?_)
 refine Al' 32 #[(vi 0),(vi 0),(vi 0)] bq (fun h4 br b9=>?_)
 refine Vs 1<|Nss (Rg [0,1,2] ?_)
 refine Vs 1 ?_
 obtain ⟨hv,bs,bt⟩:=bS h
 refine Cl' CF b9 (C3 N br F0 b9.pers hG x1 (([32]:VW)) _ bs) ?_
 rintro _ F1 gy bu hq ⟨ba,hw,rfl,bb,hx⟩
 refine Vs 1<|Nss (Rg [0] ?_)
 refine Al' 32 #[(vi 0),(vi 0),(vi 0)] bu (fun h0 gz bv=>?_)
 refine Nss<|Sq (Rg (rG 6) ?_)
 refine Vs 3<|Bs 194 [(pt h0 0),(pt h0 1),(pt h0 2)] bv (fun h2 bw hd=>?_)
 refine Vs 2<|Nt<|Bk<|CWP.unroll (by kernel_rfl) 4<|URL.step<|Sq (Rg [0] ?_)
 refine Vs 1<|Nss<|C1 (rfl:true=true)<|Sc<|Ab<|Sq<|Bk<|Sq (Rg (rG 5) ?_)
 refine Vs 1<|V 22 0 (T1 (v1:=(pt h2 0)) (by rfl) (CR (t:=200) (x:=(.tmp 17)) (y:=(.tmp 19)) (b:=h2) (nn:=3) (c:=3) (E:=194) (s:=1) (by_:=8) (j:=0) rfl rfl (by kernel_rfl) (by decide)))<|Ld hd.at0<|Vs 2<|Nss (Rg (rG 12) ?_)
 obtain ⟨bx,bz,c0⟩:=bS bt
 refine VD (fun f w=>∃ (F2:Mem),HS w0 F0 w F2 [(sb h2 #[(pt h0 0),(pt h0 1),(pt h0 2)] 194),(sb h0 #[(vi 0),(vi 0),(vi 0)] 32),(sb h4 #[(vi 0),(vi 0),(vi 0)] 32),(sb h5 (Ah x0) 23)]/\Vx F1 F2/\FI f [] [(1,(sv x1)),(2,(pt h5 0)),(4,(pt h4 0)),(6,(sL ba hv hw)),(7,(pt h0 0)),(9,(pt h0 0)),(17,(.slice (some ⟨h2,0,none⟩) 3 3)),(18,(vi 3)),(19,(vi 0)),(35,(.bool bx))]) ?_ ?_
 ·refine Ld hd.at3 ?_
  refine Ld hd.at1 ?_
  obtain ⟨i0,c1,c3⟩:=bS bz
  refine Cl' Et hd (Fc N bw F1 hd.pers (({Report:=x0.Report,Serial:=x0.Serial,Zone:=x0.Zone}:Ac)) (({Report:=0,Serial:=0,Zone:=0}:Ad)) _ c1) ?_
  rintro _ F3 i1 hy bc ⟨i2,i3,rfl,i4,c4⟩
  refine Vs 1 ?_
  obtain ⟨i5,c5,c6⟩:=bS c3
  obtain ⟨c7,hx67'⟩:=Al c5
  obtain ⟨i6,i7,i8,i9,ia,rfl,hF76,hE77⟩:=VF c4 hx67'
  have c8:=hE77 _ _ hx67'
  refine Ix c7<|Vs 1<|Lx 0 (hy.pers _ _ hF76) c8<|Vs 1<|Sp c6 (fun he c9=>?_) (fun he ca=>?_)
  ·refine Vgs he 3 ?_
   refine Pk1 he ?_
   obtain rfl:=Aa c9
   exact Vt ⟨rfl,F3,hy,bc,fI⟩
  ·refine Ss he 3 ?_
   refine Pk0 he ?_
   obtain rfl:=Aa ca
   exact Vt ⟨rfl,F3,hy,bc,fI⟩
 ·rintro f cb ⟨F2,hr,h7,⟨_,rfl⟩⟩
  refine Ab ?_
  obtain ⟨h1,cc,cd⟩:=bS c0
  refine VE (fun f w=>∃ (F4:Mem) (hf:VX) (h9:Nat),HS w0 F0 w F4 [(sb h2 #[(pt h0 0),(pt h0 1),(pt h0 2)] 194),(sb h0 #[(vi h1.2),(vi 0),(vi 0)] 32),(sb h4 #[(vi 0),(vi 0),(vi 0)] 32),(sb h5 (Ah x0) 23)]/\Vx F2 F4/\FI f [] [(1,(sv x1)),(2,(pt h5 0)),(4,(pt h4 0)),(6,(sL hf h1.1 h9)),(7,(pt h0 0)),(17,(.slice (some ⟨h2,0,none⟩) 3 3)),(18,(vi 3)),(19,(vi 0))]/\LC h1.1.length h9/\SlA AU F4 hf h1.1) ?_ ?_
  ·refine Cd cc (fun ce cf=>?_) (fun ce cg=>?_)
   ·refine Sq (Rg (rG 7) ?_)
    refine Vs 2 ?_
    obtain ⟨ch,ci,cj⟩:=bS cf
    obtain ⟨cl,hx102'⟩:=Al ci
    obtain ⟨cm,cn,ib,ic,ie,rfl,hF111,hE112⟩:=VF (VA hx h7) hx102'
    have co:=hE112 _ _ hx102'
    refine Ix cl<|Lx 0 (hr.pers _ _ hF111) co ?_
    obtain ⟨cp,cq,cr⟩:=bS cj
    refine Cl' DT hr (EA N cb F2 hr.pers (hG.mono (hq.t h7)) ch _ cq) ?_
    rintro _ F5 ig ct bd rfl
    refine Vs 1<|St1 #[(vi cp),(vi 0),(vi 0)] ct (fun ii cu=>?_)
    refine Nt<|Rg [0,1,2]<|Vs 1 ?_
    obtain ⟨cv,cw,cx⟩:=bS cr
    obtain ⟨cy,cz,d0,d1,d2⟩:=FC (P:=Tryz.prog) (T:=AU) (lo:=(some (.const (vi 1)))) (hi:=none) (mx:=none) (t:=55) (E:=9) (by_:=16) (c:=hw) (a:=(some ⟨cm,cn,none⟩)) (l:=hv) (r:=cv) (il:=1) (ih:=(hv.length:Int)) (im:=0) (by kernel_rfl) (by kernel_rfl) bb (VA hx (h7.t bd)) (fun h=>by first | rfl | cases h) cw
    refine V 43 55 (d2 (x:=(.tmp 42)) rfl rfl rfl trivial)<|Vs 1<|Vt ?_
    obtain rfl:=Aa cx
    exact .inl ⟨rfl,F5,cy,cz,cu,bd,fI,d0,d1⟩
   ·refine Sc ?_
    obtain rfl:=Aa cg
    exact .inl ⟨rfl,F2,ba,hw,hr,(Vy _),fI,bb,(VA hx h7)⟩
  ·rintro f d3 ⟨F4,hf,h9,hg,hz,⟨_,rfl⟩,be,b0⟩
   refine As<|Ab<|Rg [0,1]<|Vs 2<|Nt<|URL.step<|Sq (Rg [0] ?_)
   refine Vs 1<|Nss<|C1 (rfl:true=true)<|Sc<|Ab<|Sq<|Bk<|Sq (Rg (rG 5) ?_)
   refine Vs 1<|V 22 0 (T1 (v1:=(pt h2 1)) (by rfl) (CR (t:=200) (x:=(.tmp 17)) (y:=(.tmp 19)) (b:=h2) (nn:=3) (c:=3) (E:=194) (s:=1) (by_:=8) (j:=1) rfl rfl (by kernel_rfl) (by decide)))<|Ld hg.at0<|Vs 2<|Nss (Rg (rG 12) ?_)
   obtain ⟨d4,d6,d7⟩:=bS cd
   refine VD (fun f w=>∃ (F6:Mem),HS w0 F0 w F6 [(sb h2 #[(pt h0 0),(pt h0 1),(pt h0 2)] 194),(sb h0 #[(vi h1.2),(vi 0),(vi 0)] 32),(sb h4 #[(vi 0),(vi 0),(vi 0)] 32),(sb h5 (Ah x0) 23)]/\Vx F4 F6/\FI f [] [(1,(sv x1)),(2,(pt h5 0)),(4,(pt h4 0)),(6,(sL hf h1.1 h9)),(7,(pt h0 0)),(9,(pt h0 1)),(17,(.slice (some ⟨h2,0,none⟩) 3 3)),(18,(vi 3)),(19,(vi 1)),(35,(.bool d4))]) ?_ ?_
   ·refine Ld hg.at3 ?_
    refine Ld hg.at1 ?_
    obtain ⟨ij,d8,d9⟩:=bS d6
    refine Cl' Et hg (Fc N d3 F4 hg.pers (({Report:=x0.Report,Serial:=x0.Serial,Zone:=x0.Zone}:Ac)) (({Report:=h1.2,Serial:=0,Zone:=0}:Ad)) _ d8) ?_
    rintro _ F7 ik b1 bf ⟨io,ip,rfl,iq,da⟩
    refine Vs 1 ?_
    obtain ⟨ir,db,dc⟩:=bS d9
    obtain ⟨dd,hx159'⟩:=Al db
    obtain ⟨it,iu,iv,iw,iy,rfl,hF168,hE169⟩:=VF da hx159'
    have de:=hE169 _ _ hx159'
    refine Ix dd<|Vs 1<|Lx 0 (b1.pers _ _ hF168) de<|Vs 1<|Sp dc (fun hh df=>?_) (fun hh dg=>?_)
    ·refine Vgs hh 3 ?_
     refine Pk1 hh ?_
     obtain rfl:=Aa df
     exact Vt ⟨rfl,F7,b1,bf,fI⟩
    ·refine Ss hh 3 ?_
     refine Pk0 hh ?_
     obtain rfl:=Aa dg
     exact Vt ⟨rfl,F7,b1,bf,fI⟩
   ·rintro f dh ⟨F6,hs,ha,⟨_,rfl⟩⟩
    refine Ab ?_
    obtain ⟨h3,di,dj⟩:=bS d7
    refine VE (fun f w=>∃ (F8:Mem) (hk:VX) (hb:Nat),HS w0 F0 w F8 [(sb h2 #[(pt h0 0),(pt h0 1),(pt h0 2)] 194),(sb h0 #[(vi h1.2),(vi h3.2),(vi 0)] 32),(sb h4 #[(vi 0),(vi 0),(vi 0)] 32),(sb h5 (Ah x0) 23)]/\Vx F6 F8/\FI f [] [(1,(sv x1)),(2,(pt h5 0)),(4,(pt h4 0)),(6,(sL hk h3.1 hb)),(7,(pt h0 0)),(17,(.slice (some ⟨h2,0,none⟩) 3 3)),(18,(vi 3)),(19,(vi 1))]/\LC h3.1.length hb/\SlA AU F8 hk h3.1) ?_ ?_
    ·refine Cd di (fun dk dl=>?_) (fun dk dm=>?_)
     ·refine Sq (Rg (rG 7) ?_)
      refine Vs 2 ?_
      obtain ⟨dn,dp,dq⟩:=bS dl
      obtain ⟨dr,hx194'⟩:=Al dp
      obtain ⟨dt,du,iz,j0,j1,rfl,hF203,hE204⟩:=VF (VA b0 ha) hx194'
      have dv:=hE204 _ _ hx194'
      refine Ix dr<|Lx 0 (hs.pers _ _ hF203) dv ?_
      obtain ⟨dw,dx,dy⟩:=bS dq
      refine Cl' DT hs (EA N dh F6 hs.pers (hG.mono (((hq.t h7).trans hz).trans ha)) dn _ dx) ?_
      rintro _ F9 j2 dz bg rfl
      refine Vs 1<|St1 #[(vi h1.2),(vi dw),(vi 0)] dz (fun j3 e0=>?_)
      refine Nt<|Rg [0,1,2]<|Vs 1 ?_
      obtain ⟨e1,e2,e3⟩:=bS dy
      obtain ⟨e4,e6,e7,e8,e9⟩:=FC (P:=Tryz.prog) (T:=AU) (lo:=(some (.const (vi 1)))) (hi:=none) (mx:=none) (t:=55) (E:=9) (by_:=16) (c:=h9) (a:=(some ⟨dt,du,none⟩)) (l:=h1.1) (r:=e1) (il:=1) (ih:=(h1.1.length:Int)) (im:=0) (by kernel_rfl) (by kernel_rfl) be (VA b0 (ha.t bg)) (fun h=>by first | rfl | cases h) e2
      refine V 43 55 (e9 (x:=(.tmp 42)) rfl rfl rfl trivial)<|Vs 1<|Vt ?_
      obtain rfl:=Aa e3
      exact .inl ⟨rfl,F9,e4,e6,e0,bg,fI,e7,e8⟩
     ·refine Sc ?_
      obtain rfl:=Aa dm
      exact .inl ⟨rfl,F6,hf,h9,hs,(Vy _),fI,be,(VA b0 ha)⟩
    ·rintro f ea ⟨F8,hk,hb,hl,bh,⟨_,rfl⟩,bi,b2⟩
     refine As<|Ab<|Rg [0,1]<|Vs 2<|Nt<|URL.step<|Sq (Rg [0] ?_)
     refine Vs 1<|Nss<|C1 (rfl:true=true)<|Sc<|Ab<|Sq<|Bk<|Sq (Rg (rG 5) ?_)
     refine Vs 1<|V 22 0 (T1 (v1:=(pt h2 2)) (by rfl) (CR (t:=200) (x:=(.tmp 17)) (y:=(.tmp 19)) (b:=h2) (nn:=3) (c:=3) (E:=194) (s:=1) (by_:=8) (j:=2) rfl rfl (by kernel_rfl) (by decide)))<|Ld hl.at0<|Vs 2<|Nss (Rg (rG 12) ?_)
     obtain ⟨eb,ec,ed⟩:=bS dj
     refine VD (fun f w=>∃ (hc:Mem),HS w0 F0 w hc [(sb h2 #[(pt h0 0),(pt h0 1),(pt h0 2)] 194),(sb h0 #[(vi h1.2),(vi h3.2),(vi 0)] 32),(sb h4 #[(vi 0),(vi 0),(vi 0)] 32),(sb h5 (Ah x0) 23)]/\Vx F8 hc/\FI f [] [(1,(sv x1)),(2,(pt h5 0)),(4,(pt h4 0)),(6,(sL hk h3.1 hb)),(7,(pt h0 0)),(9,(pt h0 2)),(17,(.slice (some ⟨h2,0,none⟩) 3 3)),(18,(vi 3)),(19,(vi 2)),(35,(.bool eb))]) ?_ ?_
     ·refine Ld hl.at3 ?_
      refine Ld hl.at1 ?_
      obtain ⟨j4,ee,ef⟩:=bS ec
      refine Cl' Et hl (Fc N ea F8 hl.pers (({Report:=x0.Report,Serial:=x0.Serial,Zone:=x0.Zone}:Ac)) (({Report:=h1.2,Serial:=h3.2,Zone:=0}:Ad)) _ ee) ?_
      rintro _ bj j5 b3 bk ⟨j6,j7,rfl,j8,eg⟩
      refine Vs 1 ?_
      obtain ⟨j9,eh,ei⟩:=bS ef
      obtain ⟨ej,hx251'⟩:=Al eh
      obtain ⟨ja,jb,jc,jd,je,rfl,hF260,hE261⟩:=VF eg hx251'
      have ek:=hE261 _ _ hx251'
      refine Ix ej<|Vs 1<|Lx 0 (b3.pers _ _ hF260) ek<|Vs 1<|Sp ei (fun hm el=>?_) (fun hm en=>?_)
      ·refine Vgs hm 3 ?_
       refine Pk1 hm ?_
       obtain rfl:=Aa el
       exact Vt ⟨rfl,bj,b3,bk,fI⟩
      ·refine Ss hm 3 ?_
       refine Pk0 hm ?_
       obtain rfl:=Aa en
       exact Vt ⟨rfl,bj,b3,bk,fI⟩
     ·rintro f eo ⟨hc,ht,hn,⟨_,rfl⟩⟩
      refine Ab ?_
      obtain ⟨h6,ep,er⟩:=bS ed
      refine VE (fun f w=>∃ (ho:Mem) (b4:VX) (b5:Nat),HS w0 F0 w ho [(sb h2 #[(pt h0 0),(pt h0 1),(pt h0 2)] 194),(sb h0 #[(vi h1.2),(vi h3.2),(vi h6.2)] 32),(sb h4 #[(vi 0),(vi 0),(vi 0)] 32),(sb h5 (Ah x0) 23)]/\Vx hc ho/\FI f [] [(1,(sv x1)),(2,(pt h5 0)),(4,(pt h4 0)),(6,(sL b4 h6.1 b5)),(7,(pt h0 0)),(17,(.slice (some ⟨h2,0,none⟩) 3 3)),(18,(vi 3)),(19,(vi 2))]/\LC h6.1.length b5/\SlA AU ho b4 h6.1) ?_ ?_
      ·refine Cd ep (fun et eu=>?_) (fun et ev=>?_)
       ·refine Sq (Rg (rG 7) ?_)
        refine Vs 2 ?_
        obtain ⟨ew,ex,ey⟩:=bS eu
        obtain ⟨ez,hx286'⟩:=Al ex
        obtain ⟨g0,g1,jf,jg,jh,rfl,hF295,hE296⟩:=VF (VA b2 hn) hx286'
        have g2:=hE296 _ _ hx286'
        refine Ix ez<|Lx 0 (ht.pers _ _ hF295) g2 ?_
        obtain ⟨g3,g4,g5⟩:=bS ey
        refine Cl' DT ht (EA N eo hc ht.pers (hG.mono (((((hq.t h7).trans hz).trans ha).trans bh).trans hn)) ew _ g4) ?_
        rintro _ g6 ji g7 bl rfl
        refine Vs 1<|St1 #[(vi h1.2),(vi h3.2),(vi g3)] g7 (fun jj g8=>?_)
        refine Nt<|Rg [0,1,2]<|Vs 1 ?_
        obtain ⟨g9,ga,gh⟩:=bS g5
        obtain ⟨gi,gk,gl,gm,gn⟩:=FC (P:=Tryz.prog) (T:=AU) (lo:=(some (.const (vi 1)))) (hi:=none) (mx:=none) (t:=55) (E:=9) (by_:=16) (c:=hb) (a:=(some ⟨g0,g1,none⟩)) (l:=h3.1) (r:=g9) (il:=1) (ih:=(h3.1.length:Int)) (im:=0) (by kernel_rfl) (by kernel_rfl) bi (VA b2 (hn.t bl)) (fun h=>by first | rfl | cases h) ga
        refine V 43 55 (gn (x:=(.tmp 42)) rfl rfl rfl trivial)<|Vs 1<|Vt ?_
        obtain rfl:=Aa gh
        exact .inl ⟨rfl,g6,gi,gk,g8,bl,fI,gl,gm⟩
       ·refine Sc ?_
        obtain rfl:=Aa ev
        exact .inl ⟨rfl,hc,hk,hb,ht,(Vy _),fI,bi,(VA b2 hn)⟩
      ·rintro f go ⟨ho,b4,b5,hu,gp,⟨_,rfl⟩,jk,jl⟩
       refine As<|Ab<|Rg [0,1]<|Vs 2<|Nt<|URL.step<|Sq (Rg [0] ?_)
       refine Vs 1<|Nss<|C0 (rfl:false=false)<|Ex<|Ar<|Ar<|AD rfl<|Ab<|Sq<|Sq (Rg (rG 8) ?_)
       refine Ld hu.at3<|Ld hu.at1 ?_
       obtain ⟨b6,gr,gs⟩:=bS er
       refine Cl' Dq hu (DN N go ho hu.pers (hG.mono ((((((hq.t h7).trans hz).trans ha).trans bh).trans hn).trans gp)) (({Report:=x0.Report,Serial:=x0.Serial,Zone:=x0.Zone}:Ac)) (({Report:=h1.2,Serial:=h3.2,Zone:=h6.2}:Ad)) _ gr) ?_
       rintro _ b7 jm bm jo rfl
       refine Vs 5<|Nss (Rg (rG 7) ?_)
       refine VD (fun f w=>∃ (hp:Mem),HS w0 F0 w hp [(sb h0 #[(vi h1.2),(vi h3.2),(vi h6.2)] 32),(sb h4 #[(vi 0),(vi 0),(vi 0)] 32)]/\Vx b7 hp/\FI f [] [(4,(pt h4 0)),(7,(pt h0 0)),(57,(.bool ((b6.2 !=0)||(b6.1 !=x1))))]) ?_ ?_
       ·refine Vs 3 ?_
        refine VC (b6.2 !=0) (fun h8=>?_) (fun h8=>?_)
        ·refine Ss h8 3 ?_
         refine Pk1 h8 ?_
         exact Vt ⟨rfl,b7,bm.dr0.dr2,(Vy _),(fJ ⟨rfl,rfl,(congrArg Value.bool (Hy h8 rfl)),trivial⟩)⟩
        ·refine Vgs h8 3 ?_
         refine Pk0 h8 ?_
         exact Vt ⟨rfl,b7,bm.dr0.dr2,(Vy _),(fJ ⟨rfl,rfl,(congrArg Value.bool (DB h8 rfl)),trivial⟩)⟩
       ·rintro f jp ⟨hp,b8,jq,⟨_,rfl⟩⟩
        refine Ab<|Cd gs (fun gu gv=>?_) (fun gu gw=>?_)
        ·refine Sq (Rg [0,1,2] ?_)
         refine Vs 1<|St1 #[(vi 0),(vi 0),(vi 0)] b8 (fun jr bn=>?_)
         refine Vs 1<|Nt<|Rt<|Ae ?_
         obtain rfl:=Aa gv
         exact ⟨rfl,(.tuple #[(.agg #[(vi 0),(vi 0),(vi 0)]),(vi 1)]),AH (l:=[.cell 4 32,.tmp 5]) (by kernel_rfl) (vs:=[(.agg #[(vi 0),(vi 0),(vi 0)]),(vi 1)]) ⟨h4,0,rfl,Aj (t:=32) (g:=true) (s:=3) (by kernel_rfl) bn.at1 rfl (by decide),⟨rfl,trivial⟩⟩,(.tuple #[(.agg #[(vi 0),(vi 0),(vi 0)]),(vi 1)]),hp,rfl,bn.clear,rfl⟩
        ·refine Sc ?_
         refine Ab<|Sq (Rg [0,1,2] ?_)
         refine Ld b8.at0<|St1 #[(vi h1.2),(vi h3.2),(vi h6.2)] b8 (fun js bo=>?_)
         refine Vs 1<|Nt<|Rt ?_
         obtain rfl:=Aa gw
         exact ⟨rfl,(.tuple #[(.agg #[(vi h1.2),(vi h3.2),(vi h6.2)]),(vi 0)]),AH (l:=[.cell 4 32,.tmp 5]) (by kernel_rfl) (vs:=[(.agg #[(vi h1.2),(vi h3.2),(vi h6.2)]),(vi 0)]) ⟨h4,0,rfl,Aj (t:=32) (g:=true) (s:=3) (by kernel_rfl) bo.at1 rfl (by decide),⟨rfl,trivial⟩⟩,(.tuple #[(.agg #[(vi h1.2),(vi h3.2),(vi h6.2)]),(vi 0)]),hp,rfl,bo.clear,rfl⟩





def BX (N:Nat) (x0:(List Int)) (x1:(List Int)):Int->Option (Br Bool Int):=fun h0=>
 (bif (decide (h0 < (x0.length:Int))) then (((idx x0 h0).bind fun h1=>((idx x1 h0).bind fun h2=>some (h1 !=h2))).bind fun h3=>(bif h3 then some (.ret false) else some (.next (W64 (h0 + 1))))) else some (.done h0))
def Bi (N:Nat) (x0:(List Int)) (x1:(List Int)):Option Bool:=
 (bif ((x0.length:Int)!=(x1.length:Int)) then some false else ((AV (BX N x0 x1) N 0).bind fun o=>o.k (fun r=>some r) (fun h0=>some true)))
theorem Eb:Af Tryz.prog 118:=fun _ _=>by kernel_rfl
theorem Ew (N:Nat) (w0:World) (F0:Mem) (hF:VY w0 F0) (x0:(List Int)) (h1:VX) (h2:Nat) (bc:LC x0.length h2) (hd:SlA AG F0 h1 x0) (x1:(List Int)) (h3:VX) (h4:Nat) (bd:LC x1.length h4) (he:SlA AG F0 h3 x1) (r:Bool) (h:Bi N x0 x1=some r):
  Calls Tryz.prog 118 ([(sL h1 x0 h2),(sL h3 x1 h4)]:List Value).toArray w0 (AF w0 F0 fun F' v=>v=(.bool r)):=by
 have h7:=Vz hF
 refine Go 26 Tryz.func118<|Sq (Rg [0] ?_)
 refine Vs 1<|Nss<|Sq (Rg (rG 5) ?_)
 refine Vs 5<|Nt<|Cd h (fun hf hg=>?_) (fun hf hh=>?_)
 ·refine Sq (Rg [0] ?_)
  refine Vs 1<|Nt<|Rt<|Ae ?_
  obtain rfl:=Aa hg
  exact Re [(.bool false)] h7 rfl
 ·refine Sc ?_
  refine Ab<|Sq<|Sq (Rg [0,1,2] ?_)
  refine Vs 3<|Nt ?_
  obtain ⟨h8,hk,h9⟩:=bS hh
  refine VE (fun f w=>∃ (ha:Int) (F2:Mem),h8=.done ha/\HS w0 F0 w F2 []/\Vx F0 F2/\FI f [] []) ?_ ?_
  ·refine Bk ?_
   refine Vw (by kernel_rfl) (fun m f w=>∃ (h0:Int) (F1:Mem),AV (BX N x0 x1) m h0=some h8/\HS w0 F0 w F1 []/\Vx F0 F1/\FI f [] [(0,(sL h1 x0 h2)),(1,(sL h3 x1 h4)),(12,(vi (x0.length:Int))),(13,(vi h0))]) N ⟨0,F0,hk,h7,(Vy _),fI⟩ ?_
   rintro be f bf ⟨h0,F1,hl,hb,h5,⟨_,rfl⟩⟩
   obtain ⟨hm,bg,rfl,hn,h6⟩:=AO hl
   refine Sq (Rg [0] ?_)
   refine Vs 1<|Nss<|Cd hn (fun ho hp=>?_) (fun ho hr=>?_)
   ·refine Sc ?_
    refine Ab<|Sq<|Bk<|Sq (Rg [0,1] ?_)
    refine Vs 2<|Nss ?_
    obtain ⟨hs,ht,hu⟩:=bS hp
    refine RD 9 9 [] [] hb (fun f w=>∃ (F3:Mem),HS w0 F0 w F3 []/\Vx F1 F3/\FI f [] [(0,(sL h1 x0 h2)),(1,(sL h3 x1 h4)),(12,(vi (x0.length:Int))),(13,(vi h0)),(24,(.bool hs))]) (fun bh hv=>?_) ?_
    ·refine Dv [0,1] ?_
     obtain ⟨bi,hw,hx⟩:=bS ht
     obtain ⟨hy,hx65'⟩:=Al hw
     obtain ⟨bj,bk,bl,bm,bn,rfl,hF74,hE75⟩:=VF (VA hd h5) hx65'
     have hz:=hE75 _ _ hx65'
     refine Di 2 hy<|Dx 3 0 (fun _ hq=>hq.1.1 _ _ hF74) hz<|Dv [4,5] ?_
     obtain ⟨bo,b0,b1⟩:=bS hx
     obtain ⟨b2,hx79'⟩:=Al b0
     obtain ⟨bp,bq,br,bs,bt,rfl,hF88,hE89⟩:=VF (VA he h5) hx79'
     have b3:=hE89 _ _ hx79'
     refine Di 6 b2<|Dx 7 0 (fun _ hq=>hq.1.1 _ _ hF88) b3<|Dv [8] ?_
     obtain rfl:=Aa b1
     exact VK (by kernel_rfl) ⟨F1,hv,(Vy _),fI⟩
    ·rintro f bu ⟨F3,hc,b4,⟨_,rfl⟩⟩
     refine Ab<|Cd hu (fun b5 b6=>?_) (fun b5 b7=>?_)
     ·refine Sq (Rg [0] ?_)
      refine Vs 1<|Nt<|Rt<|AA<|Ae<|Ae<|AA ?_
      have hret:=B3 b6 h6
      subst hret
      refine .inr<|Ae ?_
      obtain rfl:=Aa h9
      exact Re [(.bool false)] hc rfl
     ·refine Sc ?_
      refine As<|Ab<|Rg [0,1]<|Vs 2<|Vt ?_
      have b8:=AM b7 h6
      exact ⟨hm,Nat.lt_succ_self _,(W64 (h0 + 1)),F3,b8,hc,(h5.t b4),fI⟩
   ·refine Ex ?_
    refine Ar<|Ar<|AD rfl ?_
    have b9:=AP hr h6
    exact .inl ⟨rfl,h0,F1,b9,hb,h5,fI⟩
  ·rintro f bv ⟨ha,F2,rfl,ba,bw,⟨_,rfl⟩⟩
   have bb:=BC h9
   refine Ab<|Sq (Rg [0] ?_)
   refine Vs 1<|Nt<|Rt ?_
   obtain rfl:=Aa bb
   exact Re [(.bool true)] ba rfl
def CN (N:Nat) (x0:(List VW)) (x1:VW):Option Bool:=
 ((Ca N x0 x1).bind fun h0=>some (decide (h0>=0)))
theorem Er:Af Tryz.prog 122:=fun _ _=>by kernel_rfl
theorem EE (N:Nat) (w0:World) (F0:Mem) (hF:VY w0 F0) (x0:(List VW)) (h0:VX) (h1:Nat) (h3:LC x0.length h1) (h4:SlA AU F0 h0 x0) (x1:VW) (r:Bool) (h:CN N x0 x1=some r):
  Calls Tryz.prog 122 ([(sL h0 x0 h1),(sv x1)]:List Value).toArray w0 (AF w0 F0 fun F' v=>v=(.bool r)):=by
 have h2:=Vz hF
 refine Go 9 Tryz.func122<|Sq (Rg [0] ?_)
 refine Vs 1<|Nss (Rg (rG 5) ?_)
 refine Vs 2 ?_
 obtain ⟨h5,h6,h7⟩:=bS h
 refine Cl' CQ h2 (C4 N w0 F0 h2.pers x0 h0 h1 h3 h4 x1 _ h6) ?_
 rintro _ F1 h9 h8 ha rfl
 refine Vs 2<|Nt<|Rt ?_
 obtain rfl:=Aa h7
 exact Re [(.bool (decide (h5>=0)))] h8 rfl
def AL (N:Nat) (x0:List Fix):(Int×Int×List Fix)->Option (Br (List Fix) (Int×Int×List Fix)):=fun s4=>
 (bif (decide (s4.1 < s4.2.1)) then (((idx s4.2.2 s4.2.1).bind fun h0=>((idx s4.2.2 s4.1).bind fun h1=>((idx s4.2.2 s4.1).bind fun h3=>((idx (s4.2.2.set (s4.1:Int).toNat h0) s4.2.1).bind fun h4=>some ((s4.2.2.set (s4.1:Int).toNat h0).set (s4.2.1:Int).toNat h1))))).bind fun h2=>some (.next ((W64 (s4.1 + 1)),(W64 (s4.2.1 - 1)),h2))) else some (.done (s4.1,s4.2.1,s4.2.2)))
def AW (N:Nat) (x0:List Fix):Option (List Fix):=
 ((AV (AL N x0) N (0,(W64 ((x0.length:Int) - 1)),x0)).bind fun o=>o.k (fun r=>some r) (fun h0=>some h0.2.2))
theorem Ef:Af Tryz.prog 126:=fun _ _=>by kernel_rfl
theorem Ev (N:Nat) {wb w0:World} {Fb F0:Mem} {Lf:Own} (x0:List Fix) (a0:VX) (n0:Nat) (e0:Option Nat×Obj) (hs:An Ct 64 F0 a0 n0 x0 e0) (ht:HS wb Fb w0 F0 (e0::Lf)) (r:List Fix) (h:AW N x0=some r):
  Calls Tryz.prog 126 ([.slice a0 x0.length n0]:List Value).toArray w0 (fun e w'=>∃ F' e',e=.returned (.tuple #[])/\HS wb Fb w' F' (e'::Lf)/\Vx F0 F'/\An Ct 64 F' a0 n0 r e'):=by
 refine MN (n:=28) (c:=MT Tryz.f126) Tryz.func126 (by kernel_rfl) (by kernel_rfl) (by kernel_rfl)<|Sq (Rg (rG 5) ?_)
 refine Vs 1<|Vs 1<|Vs 1<|Vs 1<|Vs 1<|Nt ?_
 obtain ⟨o1,hu,h3⟩:=bS h
 refine VE (fun f w=>∃ (h9:(Int×Int×List Fix)) (F2:Mem) (ha:Option Nat×Obj),o1=.done h9/\HS wb Fb w F2 (ha::Lf)/\Vx F0 F2/\FI f [] []/\An Ct 64 F2 a0 n0 h9.2.2 ha) ?_ ?_
 ·refine Bk ?_
  refine Vw (by kernel_rfl) (fun m f w=>∃ (s4:(Int×Int×List Fix)) (F1:Mem) (h7:Option Nat×Obj),AV (AL N x0) m s4=some o1/\HS wb Fb w F1 (h7::Lf)/\Vx F0 F1/\FI f [] [(0,(sL a0 s4.2.2 n0)),(2,(vi s4.1)),(3,(vi s4.2.1))]/\An Ct 64 F1 a0 n0 s4.2.2 h7) N ⟨(0,(W64 ((x0.length:Int) - 1)),x0),F0,e0,hu,ht,(Vy _),fI,hs⟩ ?_
  rintro cf f w5 ⟨s4,F1,h7,hv,hd,he,⟨_,rfl⟩,hb⟩
  obtain ⟨hw,cg,rfl,hx,hf⟩:=AO hv
  refine Sq<|Sq (Rg [0,1,2] ?_)
  refine Vs 1<|Vs 1<|Vs 1<|Nt<|Cd hx (fun hy hz=>?_) (fun hy b0=>?_)
  ·refine Sc ?_
   refine Ab<|Sq<|Bk ?_
   obtain ⟨hc,b1,b2⟩:=bS hz
   refine RD 15 16 [] [] hd (fun f w=>∃ (F3:Mem) (h8:Option Nat×Obj),HS wb Fb w F3 (h8::Lf)/\Vx F1 F3/\FI f [] [(0,(sL a0 hc n0)),(2,(vi s4.1)),(3,(vi s4.2.1))]/\An Ct 64 F3 a0 n0 hc h8) (fun ch h4=>?_) ?_
   ·refine Dv [0] ?_
    refine Dv [1]<|Dv [2]<|Dv [3]<|Dv [4]<|Dv [5] ?_
    obtain ⟨h0,b3,b4⟩:=bS b1
    obtain ⟨b5,hx39'⟩:=Al b3
    obtain ⟨h2,h5,rfl,rfl,hE46⟩:=VP hb hx39'
    have h6:=hb
    have hg:=hE46 _ _ hx39'
    refine Dj 6 b5<|Dv [8]<|Dv [9] ?_
    obtain ⟨h1,b6,hh⟩:=bS b4
    obtain ⟨b7,hx51'⟩:=Al b6
    obtain ⟨ci,cj,b8,b9,hE58⟩:=VP h6 hx51'
    cases b8
    cases b9
    have hk:=hE58 _ _ hx51'
    refine Dj 10 b7<|VG (i:=7) (j:=11) (by kernel_rfl) ?_ ?_
    ·refine VH (l':=[true,true,true,true,true,true,true,true,true,true,true,false,false,false,false,false]) (zd:=false) (by kernel_rfl) (by kernel_rfl) (dst:=(some 21)) (ty:=64) (g:=none) (by kernel_rfl) rfl (EG (t:=64) (x:=(.tmp 20)) (b:=h2) (o:=((s4.2.1:Int).toNat * 13)) (j:=0) (C:=h5) (kk:=13) (cs:=[(vi h0.Kind),(vi h0.Num),(vi h0.Line.Num),(vi h0.Line.Khz),(vi h0.Line.Mode),(vi h0.Line.Minute),(sv h0.Line.Call),(vi h0.Line.Sent.Report),(vi h0.Line.Sent.Serial),(vi h0.Line.Sent.Zone),(vi h0.Line.Got.Report),(vi h0.Line.Got.Serial),(vi h0.Line.Got.Zone)]) (gg:=true) (s:=13) (v:=(.agg (De h0))) rfl (by kernel_rfl) h4.at0 hg (by decide) (by exact ⟨rfl,trivial⟩) rfl rfl) (A4 h4 (Vy _) (by simp) (fun _=>by simp)) ?_
     refine D1 11<|VH (l':=[true,true,true,true,true,true,true,true,true,true,true,true,false,false,false,false]) (zd:=false) (by kernel_rfl) (by kernel_rfl) (dst:=(some 25)) (ty:=64) (g:=none) (by kernel_rfl) rfl (EG (t:=64) (x:=(.tmp 24)) (b:=h2) (o:=((s4.1:Int).toNat * 13)) (j:=0) (C:=h5) (kk:=13) (cs:=[(vi h1.Kind),(vi h1.Num),(vi h1.Line.Num),(vi h1.Line.Khz),(vi h1.Line.Mode),(vi h1.Line.Minute),(sv h1.Line.Call),(vi h1.Line.Sent.Report),(vi h1.Line.Sent.Serial),(vi h1.Line.Sent.Zone),(vi h1.Line.Got.Report),(vi h1.Line.Got.Serial),(vi h1.Line.Got.Zone)]) (gg:=true) (s:=13) (v:=(.agg (De h1))) rfl (by kernel_rfl) h4.at0 hk (by decide) (by exact ⟨rfl,trivial⟩) rfl rfl) (A4 h4 (Vy _) (by simp) (fun _=>by simp)) ?_
     obtain ⟨cl,ba,bb⟩:=bS hh
     obtain ⟨bc,hx62'⟩:=Al ba
     obtain ⟨cm,cn,bd,be,hE69⟩:=VP h6 hx62'
     cases bd
     cases be
     have co:=hE69 _ _ hx62'
     refine Dj 12 bc<|D1 13<|VQ (l':=[true,true,true,true,true,true,true,true,true,true,true,true,true,true,false,false]) (zd:=false) (by kernel_rfl) (by kernel_rfl) (ty:=0) (g:=none) (by kernel_rfl) rfl (x:=(.tmp 26)) (y:=(.tmp 21)) (t:=64) (v:=(.agg (De h0))) (gg:=true) (b:=h2) (j:=(s4.1:Int).toNat) (C:=h5) (T:=Ct) (E:=64) (u:=h0) rfl rfl (by kernel_rfl) h4 (k:=0) rfl h6 hx62' rfl rfl (Vy _) (fun _=>by simp) (fun _ _=>by simp) (fun hl bf (bg:HS wb Fb bf F1 ((some h2,.cells hl 64 (0,0))::Lf)) hm=>?_)
     obtain ⟨cp,bh,bi⟩:=bS bb
     obtain ⟨bj,hx77'⟩:=Al bh
     obtain ⟨cq,cr,bk,bl,hE84⟩:=VP hm hx77'
     cases bk
     cases bl
     have ct:=hE84 _ _ hx77'
     refine Df 14 27 0 (.pointer (some ⟨h2,((s4.2.1:Int).toNat * 13),none⟩)) (fun _ hq=>CR (t:=60) (x:=(.tmp 16)) (y:=(.tmp 17)) (b:=h2) (E:=64) (s:=13) (by_:=112) (Iy rfl) rfl (by kernel_rfl) bj)<|D1 15<|VQ (l':=[true,true,true,true,true,true,true,true,true,true,true,true,true,true,true,true]) (zd:=true) (by kernel_rfl) (by kernel_rfl) (ty:=0) (g:=none) (by kernel_rfl) rfl (x:=(.tmp 27)) (y:=(.tmp 25)) (t:=64) (v:=(.agg (De h1))) (gg:=true) (b:=h2) (j:=(s4.2.1:Int).toNat) (C:=hl) (T:=Ct) (E:=64) (u:=h1) rfl rfl (by kernel_rfl) bg (k:=0) rfl hm hx77' rfl rfl (Vy _) (fun _=>by simp) (fun e=>by cases e) (fun hn bm (bn:HS wb Fb bm F1 ((some h2,.cells hn 64 (0,0))::Lf)) bo=>?_)
     obtain rfl:=Aa bi
     exact VK (by kernel_rfl) ⟨F1,(some h2,.cells hn 64 (0,0)),bn,(Vy _),(fJ ⟨(Iy (Iy rfl)),rfl,rfl,trivial⟩),bo⟩
    ·refine VH (l':=[true,true,true,true,true,true,true,false,true,true,true,true,false,false,false,false]) (zd:=false) (by kernel_rfl) (by kernel_rfl) (dst:=(some 25)) (ty:=64) (g:=none) (by kernel_rfl) rfl (EG (t:=64) (x:=(.tmp 24)) (b:=h2) (o:=((s4.1:Int).toNat * 13)) (j:=0) (C:=h5) (kk:=13) (cs:=[(vi h1.Kind),(vi h1.Num),(vi h1.Line.Num),(vi h1.Line.Khz),(vi h1.Line.Mode),(vi h1.Line.Minute),(sv h1.Line.Call),(vi h1.Line.Sent.Report),(vi h1.Line.Sent.Serial),(vi h1.Line.Sent.Zone),(vi h1.Line.Got.Report),(vi h1.Line.Got.Serial),(vi h1.Line.Got.Zone)]) (gg:=true) (s:=13) (v:=(.agg (De h1))) rfl (by kernel_rfl) h4.at0 hk (by decide) (by exact ⟨rfl,trivial⟩) rfl rfl) (A4 h4 (Vy _) (by simp) (fun _=>by simp)) ?_
     refine D1 7<|VH (l':=[true,true,true,true,true,true,true,true,true,true,true,true,false,false,false,false]) (zd:=false) (by kernel_rfl) (by kernel_rfl) (dst:=(some 21)) (ty:=64) (g:=none) (by kernel_rfl) rfl (EG (t:=64) (x:=(.tmp 20)) (b:=h2) (o:=((s4.2.1:Int).toNat * 13)) (j:=0) (C:=h5) (kk:=13) (cs:=[(vi h0.Kind),(vi h0.Num),(vi h0.Line.Num),(vi h0.Line.Khz),(vi h0.Line.Mode),(vi h0.Line.Minute),(sv h0.Line.Call),(vi h0.Line.Sent.Report),(vi h0.Line.Sent.Serial),(vi h0.Line.Sent.Zone),(vi h0.Line.Got.Report),(vi h0.Line.Got.Serial),(vi h0.Line.Got.Zone)]) (gg:=true) (s:=13) (v:=(.agg (De h0))) rfl (by kernel_rfl) h4.at0 hg (by decide) (by exact ⟨rfl,trivial⟩) rfl rfl) (A4 h4 (Vy _) (by simp) (fun _=>by simp)) ?_
     obtain ⟨cu,bp,bq⟩:=bS hh
     obtain ⟨br,hx92'⟩:=Al bp
     obtain ⟨cv,cw,bs,bt,hE99⟩:=VP h6 hx92'
     cases bs
     cases bt
     have cx:=hE99 _ _ hx92'
     refine Dj 12 br<|D1 13<|VQ (l':=[true,true,true,true,true,true,true,true,true,true,true,true,true,true,false,false]) (zd:=false) (by kernel_rfl) (by kernel_rfl) (ty:=0) (g:=none) (by kernel_rfl) rfl (x:=(.tmp 26)) (y:=(.tmp 21)) (t:=64) (v:=(.agg (De h0))) (gg:=true) (b:=h2) (j:=(s4.1:Int).toNat) (C:=h5) (T:=Ct) (E:=64) (u:=h0) rfl rfl (by kernel_rfl) h4 (k:=0) rfl h6 hx92' rfl rfl (Vy _) (fun _=>by simp) (fun _ _=>by simp) (fun ho bu (bv:HS wb Fb bu F1 ((some h2,.cells ho 64 (0,0))::Lf)) hp=>?_)
     obtain ⟨cy,bw,bx⟩:=bS bq
     obtain ⟨bz,hx107'⟩:=Al bw
     obtain ⟨cz,d0,c0,c1,hE114⟩:=VP hp hx107'
     cases c0
     cases c1
     have d1:=hE114 _ _ hx107'
     refine Df 14 27 0 (.pointer (some ⟨h2,((s4.2.1:Int).toNat * 13),none⟩)) (fun _ hq=>CR (t:=60) (x:=(.tmp 16)) (y:=(.tmp 17)) (b:=h2) (E:=64) (s:=13) (by_:=112) (Iy rfl) rfl (by kernel_rfl) bz)<|D1 15<|VQ (l':=[true,true,true,true,true,true,true,true,true,true,true,true,true,true,true,true]) (zd:=true) (by kernel_rfl) (by kernel_rfl) (ty:=0) (g:=none) (by kernel_rfl) rfl (x:=(.tmp 27)) (y:=(.tmp 25)) (t:=64) (v:=(.agg (De h1))) (gg:=true) (b:=h2) (j:=(s4.2.1:Int).toNat) (C:=ho) (T:=Ct) (E:=64) (u:=h1) rfl rfl (by kernel_rfl) bv (k:=0) rfl hp hx107' rfl rfl (Vy _) (fun _=>by simp) (fun e=>by cases e) (fun hr c3 (c4:HS wb Fb c3 F1 ((some h2,.cells hr 64 (0,0))::Lf)) c5=>?_)
     obtain rfl:=Aa bx
     exact VK (by kernel_rfl) ⟨F1,(some h2,.cells hr 64 (0,0)),c4,(Vy _),(fJ ⟨(Iy (Iy rfl)),rfl,rfl,trivial⟩),c5⟩
   ·rintro f d2 ⟨F3,h8,c6,c7,⟨_,rfl⟩,c8⟩
    refine As<|Ab<|Rg (rG 6)<|Vs 1<|Vs 1<|Vs 1<|Vs 1<|Vs 1<|Vs 1<|Vt ?_
    have c9:=AM b2 hf
    exact ⟨hw,Nat.lt_succ_self _,((W64 (s4.1 + 1)),(W64 (s4.2.1 - 1)),hc),F3,h8,c9,c6,(he.t c7),fI,c8⟩
  ·refine Ex ?_
   refine Ar<|Ar<|AD rfl ?_
   have ca:=AP b0 hf
   exact .inl ⟨rfl,(s4.1,s4.2.1,s4.2.2),F1,h7,ca,hd,he,fI,hb⟩
 ·rintro f d3 ⟨h9,F2,ha,rfl,cb,cc,⟨_,rfl⟩,cd⟩
  have ce:=BC h3
  have hfin:=Aa ce
  subst hfin
  exact ⟨rfl,.tuple #[],AH (l:=[]) (by kernel_rfl) (vs:=[]) trivial,F2,_,rfl,cb,cc,cd⟩











def AJ (N:Nat) (x0:(List Line)) (x1:Int) (x2:(Line->Int->Option Int)):(Int×Int)->Option (Br (Int×Bool) (Int×Int)):=fun h0=>
 (bif (decide (h0.1 < h0.2)) then ((idx x0 (W64 (Int.fdiv (IntKind.u64.wrap (W64 (h0.1 + h0.2))) (2 ^ min (1:Int).toNat IntKind.u64.bits)))).bind fun h2=>((x2 h2 x1).bind fun h1=>some (.next ((bif (decide (h1 < 0)) then (W64 ((W64 (Int.fdiv (IntKind.u64.wrap (W64 (h0.1 + h0.2))) (2 ^ min (1:Int).toNat IntKind.u64.bits))) + 1)) else h0.1),(bif (decide (h1 < 0)) then h0.2 else (W64 (Int.fdiv (IntKind.u64.wrap (W64 (h0.1 + h0.2))) (2 ^ min (1:Int).toNat IntKind.u64.bits)))))))) else some (.done (h0.1,h0.2)))
def A5 (N:Nat) (x0:(List Line)) (x1:Int) (x2:(Line->Int->Option Int)):Option (Int×Bool):=
 ((AV (AJ N x0 x1 x2) N (0,(x0.length:Int))).bind fun o=>o.k (fun r=>some r) (fun h0=>((bif (decide (h0.1 < (x0.length:Int))) then ((idx x0 h0.1).bind fun h1=>((x2 h1 x1).bind fun h2=>some (h2==0))) else some false).bind fun h3=>some (h0.1,h3))))
theorem Cl:Af Tryz.prog 252:=fun _ _=>by kernel_rfl
theorem Cz (N:Nat) (w0:World) (F0:Mem) (hF:VY w0 F0) (x0:(List Line)) (h9:VX) (h5:Nat) (br:LC x0.length h5) (he:SlA Az F0 h9 x0) (x1:Int) (h4:FuncId) (h2 h3:List Value) (x2:Line->Int->Option Int) (hf:Af Tryz.prog h4) (hg:QN F0 h4 h2 h3 x2) (r:(Int×Bool)) (h:A5 N x0 x1 x2=some r):
  Calls Tryz.prog 252 ([(sL h9 x0 h5),(vi x1),(.func (.func h4) h2.toArray h3.toArray)]:List Value).toArray w0 (AF w0 F0 fun F' v=>v=(.tuple #[(vi r.1),(.bool r.2)])):=by
 have ho:=Vz hF
 refine Go 49 Tryz.func252<|Sq (Rg [0,1] ?_)
 refine Vs 2<|Nss (Rg [0,1,2] ?_)
 refine Vs 3<|Nss (Rg [0,1,2] ?_)
 refine Vs 3<|Nss ?_
 obtain ⟨hh,hp,hq⟩:=bS h
 refine VE (fun f w=>∃ (h6:(Int×Int)) (F2:Mem),hh=.done h6/\HS w0 F0 w F2 []/\Vx F0 F2/\FI f [] [(0,(sL h9 x0 h5)),(1,(vi x1)),(2,(.func (.func h4) h2.toArray h3.toArray)),(8,(vi (x0.length:Int))),(9,(vi h6.1))]) ?_ ?_
 ·refine Bk ?_
  refine Vw (by kernel_rfl) (fun m f w=>∃ (h0:(Int×Int)) (F1:Mem),AV (AJ N x0 x1 x2) m h0=some hh/\HS w0 F0 w F1 []/\Vx F0 F1/\FI f [] [(0,(sL h9 x0 h5)),(1,(vi x1)),(2,(.func (.func h4) h2.toArray h3.toArray)),(8,(vi (x0.length:Int))),(9,(vi h0.1)),(10,(vi h0.2))]) N ⟨(0,(x0.length:Int)),F0,hp,ho,(Vy _),fI⟩ ?_
  rintro bs f hr ⟨h0,F1,hs,ha,hb,⟨_,rfl⟩⟩
  obtain ⟨ht,bt,rfl,hu,hk⟩:=AO hs
  refine Sq<|Sq (Rg [0,1,2] ?_)
  refine Vs 3<|Nt<|Cd hu (fun hv hw=>?_) (fun hv hx=>?_)
  ·refine Sc ?_
   refine Ab<|Bk<|Sq (Rg (rG 7) ?_)
   refine Vs 4<|V 22 222 (S1 (t:=222) (t':=222) (x:=(.tmp 21)) (y:=(.const (.int .u64 1))) (k:=.u64) (q:=.u64) (a:=(IntKind.u64.wrap (W64 (h0.1 + h0.2)))) (b:=1) rfl rfl (by decide))<|Vs 2<|Nss (Rg (rG 8) ?_)
   refine Vs 3 ?_
   obtain ⟨hy,hz,b0⟩:=bS hw
   obtain ⟨b1,hx55'⟩:=Al hz
   obtain ⟨b2,b3,bu,bv,bw,rfl,hF64,hE65⟩:=VF (VA he hb) hx55'
   have b4:=hE65 _ _ hx55'
   refine Ix b1<|Lx 0 (ha.pers _ _ hF64) b4<|Vs 1 ?_
   obtain ⟨h7,b5,b6⟩:=bS b0
   refine Cq hf ha (hg hr F1 hy x1 _ hb ha.pers b5) ?_
   rintro _ F3 bx hl b7 rfl
   refine Vs 1<|Nt<|VE (fun f w=>∃ (F4:Mem),HS w0 F0 w F4 []/\Vx F3 F4/\FI f [] [(0,(.slice (some ⟨b2,b3,none⟩) x0.length h5)),(1,(vi x1)),(2,(.func (.func h4) h2.toArray h3.toArray)),(8,(vi (x0.length:Int))),(9,(vi (bif (decide (h7 < 0)) then (W64 ((W64 (Int.fdiv (IntKind.u64.wrap (W64 (h0.1 + h0.2))) (2 ^ min (1:Int).toNat IntKind.u64.bits))) + 1)) else h0.1))),(10,(vi (bif (decide (h7 < 0)) then h0.2 else (W64 (Int.fdiv (IntKind.u64.wrap (W64 (h0.1 + h0.2))) (2 ^ min (1:Int).toNat IntKind.u64.bits))))))]) ?_ ?_
   ·refine Cp (decide (h7 < 0)) (fun h8=>?_) (fun h8=>?_)
    ·refine Rg [0,1,2] ?_
     refine Vs 3<|Vt ?_
     exact .inl ⟨rfl,F3,hl,(Vy _),(fJ ⟨rfl,rfl,rfl,rfl,(congrArg (Value.int .i64) (QJ h8 rfl)),(congrArg (Value.int .i64) (QJ h8 rfl)),trivial⟩)⟩
    ·refine Rg [0,1] ?_
     refine Vs 2<|Vt ?_
     exact .inl ⟨rfl,F3,hl,(Vy _),(fJ ⟨rfl,rfl,rfl,rfl,(congrArg (Value.int .i64) (Pk h8 rfl)),(congrArg (Value.int .i64) (Pk h8 rfl)),trivial⟩)⟩
   ·rintro f bz ⟨F4,b8,b9,⟨_,rfl⟩⟩
    refine As ?_
    have ba:=AM b6 hk
    exact ⟨ht,Nat.lt_succ_self _,((bif (decide (h7 < 0)) then (W64 ((W64 (Int.fdiv (IntKind.u64.wrap (W64 (h0.1 + h0.2))) (2 ^ min (1:Int).toNat IntKind.u64.bits))) + 1)) else h0.1),(bif (decide (h7 < 0)) then h0.2 else (W64 (Int.fdiv (IntKind.u64.wrap (W64 (h0.1 + h0.2))) (2 ^ min (1:Int).toNat IntKind.u64.bits))))),F4,ba,b8,((hb.t b7).trans b9),fI⟩
  ·refine Ex ?_
   refine Ar<|Ar<|AD rfl ?_
   have bb:=AP hx hk
   exact .inl ⟨rfl,(h0.1,h0.2),F1,bb,ha,hb,fI⟩
 ·rintro f bc ⟨h6,F2,rfl,hc,hm,⟨_,rfl⟩⟩
  have bd:=BC hq
  refine Ab<|Sq (Rg (rG 16) ?_)
  obtain ⟨hn,be,bf⟩:=bS bd
  refine VD (fun f w=>∃ (F5:Mem),HS w0 F0 w F5 []/\Vx F2 F5/\FI f [] [(6,(vi h6.1)),(7,(.bool hn))]) ?_ ?_
  ·refine Vs 5 ?_
   refine Sp be (fun h1 bg=>?_) (fun h1 bh=>?_)
   ·refine Vgs h1 3 ?_
    obtain ⟨hd,bi,bj⟩:=bS bg
    obtain ⟨bk,hx103'⟩:=Al bi
    obtain ⟨c0,c1,c3,c4,c5,rfl,hF112,hE113⟩:=VF (VA he hm) hx103'
    have bl:=hE113 _ _ hx103'
    refine Ixg h1 bk<|Lxg h1 0 (hc.pers _ _ hF112) bl<|Vgs h1 1 ?_
    obtain ⟨c6,bm,bn⟩:=bS bj
    refine RWP.call (dst:=(some 46)) (ty:=3) (g:=(some (4,true))) (by kernel_rfl) (G7 (d:=39) (by kernel_rfl) rfl h1) (f0:=(.tmp 40)) (aos:=#[(.tmp 44),(.tmp 45)]) (ats:=#[34,3]) (fid:=h4) (first:=h2.toArray) (cap:=h3.toArray) (args:=(h2++(([(.agg (BD hd)),(vi x1)]:List Value)++h3))) rfl hf (Ec (l:=[(.agg (BD hd)),(vi x1)]) (fi:=h2) (k:=h3) rfl) hc (hg bc F2 hd x1 _ hm hc.pers bm) ?_
    rintro _ F6 c7 bo bp rfl
    refine Vgs h1 1<|Pk1 h1<|Vs 2 ?_
    obtain rfl:=Aa bn
    exact Vt ⟨rfl,F6,bo,bp,fI⟩
   ·refine Ss h1 8 ?_
    refine Pk0 h1<|Vs 2 ?_
    obtain rfl:=Aa bh
    exact Vt ⟨rfl,F2,hc,(Vy _),fI⟩
  ·rintro f c8 ⟨F5,bq,c9,⟨_,rfl⟩⟩
   refine Ab<|Rt ?_
   obtain rfl:=Aa bf
   exact Re [(vi h6.1),(.bool hn)] bq rfl
def EY (N:Nat) (x0:Int):Option Bool:=
 some (x0 !=x0)
theorem GS:Af Tryz.prog 281:=fun _ _=>by kernel_rfl
theorem Hw (N:Nat) (w0:World) (F0:Mem) (hF:VY w0 F0) (x0:Int) (r:Bool) (h:EY N x0=some r):
  Calls Tryz.prog 281 ([(vi x0)]:List Value).toArray w0 (AF w0 F0 fun F' v=>v=(.bool r)):=by
 have h0:=Vz hF
 refine Go 6 Tryz.func281<|Sq (Rg [0] ?_)
 refine Vs 1<|Nss (Rg (rG 4) ?_)
 refine Vs 4<|Nt<|Rt ?_
 obtain rfl:=Aa h
 exact Re [(.bool (x0 !=x0))] h0 rfl
def Fi (N:Nat) (x0 x1:Int):Option Int:=
 ((EY N x0).bind fun h1=>((EY N x1).bind fun h0=>(bif h1 then (bif h0 then some 0 else some (-1)) else (bif h0 then some 1 else (bif (decide (x0 < x1)) then some (-1) else (bif (decide (x0 > x1)) then some 1 else some 0))))))
theorem Jl:Af Tryz.prog 254:=fun _ _=>by kernel_rfl
theorem Kc (N:Nat) (w0:World) (F0:Mem) (hF:VY w0 F0) (x0 x1 r:Int) (h:Fi N x0 x1=some r):
  Calls Tryz.prog 254 ([(vi x0),(vi x1)]:List Value).toArray w0 (AF w0 F0 fun F' v=>v=(vi r)):=by
 have h1:=Vz hF
 refine Go 20 Tryz.func254<|Sq (Rg [0] ?_)
 refine Vs 1<|Nss (Rg [0,1,2] ?_)
 refine Vs 1 ?_
 obtain ⟨hp,h3,h4⟩:=bS h
 refine Cl' GS h1 (Hw N w0 F0 h1.pers x0 _ h3) ?_
 rintro _ F1 h5 h2 hq rfl
 refine Vs 1<|Nss (Rg [0,1,2] ?_)
 refine Vs 1 ?_
 obtain ⟨hr,h6,h7⟩:=bS h4
 refine Cl' GS h2 (Hw N h5 F1 h2.pers x1 _ h6) ?_
 rintro _ F2 hs h0 ht rfl
 refine Vs 1<|Nss<|Sq (Rg [0] ?_)
 refine Vs 1<|Nt<|Cd h7 (fun h8 h9=>?_) (fun h8 ha=>?_)
 ·refine Sq ?_
  refine Sq (Rg [0] ?_)
  refine Vs 1<|Nt<|Cd h9 (fun hb hc=>?_) (fun hb hd=>?_)
  ·refine Sq (Rg [0] ?_)
   refine Vs 1<|Nt<|Rt<|Ae<|Ae ?_
   obtain rfl:=Aa hc
   exact Re [(vi 0)] h0 rfl
  ·refine Sc ?_
   refine Ab<|Sq (Rg [0] ?_)
   refine Vs 1<|Nt<|Rt<|Ae ?_
   obtain rfl:=Aa hd
   exact Re [(vi (-1))] h0 rfl
 ·refine Sc ?_
  refine Ab<|Sq<|Sq (Rg [0] ?_)
  refine Vs 1<|Nt<|Cd ha (fun he hf=>?_) (fun he hg=>?_)
  ·refine Sq (Rg [0] ?_)
   refine Vs 1<|Nt<|Rt<|Ae ?_
   obtain rfl:=Aa hf
   exact Re [(vi 1)] h0 rfl
  ·refine Sc ?_
   refine Ab<|Sq<|Sq (Rg [0,1,2] ?_)
   refine Vs 3<|Nt<|Cd hg (fun hh hk=>?_) (fun hh hl=>?_)
   ·refine Sq (Rg [0] ?_)
    refine Vs 1<|Nt<|Rt<|Ae ?_
    obtain rfl:=Aa hk
    exact Re [(vi (-1))] h0 rfl
   ·refine Sc ?_
    refine Ab<|Sq<|Sq (Rg [0,1,2] ?_)
    refine Vs 3<|Nt<|Cd hl (fun hm hn=>?_) (fun hm ho=>?_)
    ·refine Sq (Rg [0] ?_)
     refine Vs 1<|Nt<|Rt<|Ae ?_
     obtain rfl:=Aa hn
     exact Re [(vi 1)] h0 rfl
    ·refine Sc ?_
     refine Ab<|Sq (Rg [0] ?_)
     refine Vs 1<|Nt<|Rt ?_
     obtain rfl:=Aa ho
     exact Re [(vi 0)] h0 rfl

end Go.Proofs.YthljkpeimofbbaaGreatDoor
namespace Go.Proofs.YthljkpeimofbbaaGreatDoor
def isL (b:UInt8):Bool:=decide (65<=b.toNat)&&decide (b.toNat<=90)
def isD (b:UInt8):Bool:=decide (48<=b.toNat)&&decide (b.toNat<=57)
def isE (b:UInt8):Bool:=isL b||isD b
theorem Sn {b:UInt8} (h:128<=b.toNat):isL b=false:=by unfold isL;simp;omega
theorem So {b:UInt8} (h:128<=b.toNat):isD b=false:=by unfold isD;simp;omega
theorem Uh {b:UInt8} (h:128<=b.toNat):isE b=false:=by unfold isE;rw [Sn h,So h];rfl
theorem N7 {b:UInt8} (h:isE b=true):b.toNat < 128:=by unfold isE isL isD at h;simp at h;omega
theorem Vj {b:UInt8} (h:isL b=true):isD b=false:=by unfold isL at h;unfold isD;simp at h ⊢;omega
theorem OT (N:Nat) (b:UInt8):BS N (b.toNat:Int)=some (isL b):=by
 unfold BS isL
 congr 2 <;> (rw [decide_eq_decide];omega)
theorem Qw (N:Nat) (b:UInt8):Bm N (b.toNat:Int)=some (isD b):=by
 unfold Bm isD
 congr 2 <;> (rw [decide_eq_decide];omega)
theorem JK (N:Nat) {n:Nat} (h:128<=n):BS N (n:Int)=some false:=by
 unfold BS
 have:decide ((n:Int)<=90)=false:=by rw [decide_eq_false_iff_not];omega
 rw [this,Bool.and_false]
theorem KU (N:Nat) {n:Nat} (h:128<=n):Bm N (n:Int)=some false:=by
 unfold Bm
 have:decide ((n:Int)<=57)=false:=by rw [decide_eq_false_iff_not];omega
 rw [this,Bool.and_false]
theorem Sa (N:Nat) (b:UInt8):DA N (b.toNat:Int)=some (isE b):=by
 unfold DA isE
 rw [OT,Qw]
 cases isL b <;> rfl
theorem N0 (N:Nat) {n:Nat} (h:128<=n):DA N (n:Int)=some false:=by
 unfold DA
 rw [JK N h,KU N h]
 rfl
theorem Mn (N:Nat) (a b c:Int):FQ N a b c=some (decide (b<=a)&&decide (a<=c)):=rfl
structure FV (p:Int->Option Bool) (P:UInt8->Bool):Prop where
 lo:∀ b:UInt8,b.toNat < 128->p (b.toNat:Int)=some (P b)
 hi:∀ n:Nat,128<=n->p (n:Int)=some false
 big:∀ b:UInt8,128<=b.toNat->P b=false
theorem RV (N:Nat):FV (fun y0=>BS N y0) isL:=⟨fun b _=>OT N b,fun _ h=>JK N h,fun _ h=>Sn h⟩
theorem Qr (N:Nat):FV (fun y0=>Bm N y0) isD:=⟨fun b _=>Qw N b,fun _ h=>KU N h,fun _ h=>So h⟩
theorem UI (N:Nat):FV (fun y0=>DA N y0) isE:=⟨fun b _=>Sa N b,fun _ h=>N0 N h,fun _ h=>Uh h⟩
theorem FV.some {p:Int->Option Bool} {P:UInt8->Bool} (h:FV p P) (n:Nat):(p (n:Int)).isSome=true:=by
 rcases Nat.lt_or_ge n 128 with h' | h'
 ·have:=h.lo (UInt8.ofNat n) (by rw [UInt8.toNat_ofNat'];omega)
  have e:(UInt8.ofNat n).toNat=n:=by rw [UInt8.toNat_ofNat'];omega
  rw [e] at this
  rw [this];rfl
 ·rw [h.hi n h'];rfl
theorem FV.all {p:Int->Option Bool} {P:UInt8->Bool} (h:FV p P):JF p=true:=HM.2 fun n _=>h.some n
theorem GJ {p:Int->Option Bool} {P:UInt8->Bool} (hp:FV p P) {N:Nat} (s:VW) (most:Int) (hN:s.length < N):
  Fe N s most p=some (s.all P&&(decide (1<=(s.length:Int))&&decide ((s.length:Int)<=most))):=by
 have key:=ET (body:=Fd N s most p) s.length (fun i (st:Nat)=>st=i/\(s.take i).all P=true)
  (fun o=>(s.all P=true/\o=.done s.length)\/(s.all P=false/\o=.ret false)) (by
   rintro i st hi ⟨rfl,hall⟩
   by_cases h:st < s.length
   ·have hget:s[st]? =some s[st]:=List.getElem?_eq_getElem h
    unfold Fd
    simp only [h,decide_true,cT]
    have htake:s.take (st + 1)=s.take st++[s[st]]:=by rw [List.take_add_one,hget];rfl
    have hfalse:P s[st]=false->s.all P=false:=fun hP=>by
     rw [List.all_eq_false];exact ⟨s[st],List.getElem_mem h,by rw [hP];simp⟩
    rcases Nat.lt_or_ge s[st].toNat 128 with hb | hb
    ·rw [L7 hget hb,hp.lo _ hb]
     simp only [oS]
     cases hP:P s[st] with
     | true=>exact .inl ⟨st + 1,rfl,⟨rfl,by rw [htake,List.all_append,hall];simp [hP]⟩,trivial⟩
     | false=>exact .inr ⟨.ret false,rfl,(fun _ e=>by cases e),.inr ⟨hfalse hP,rfl⟩⟩
    ·have hs:=PB hget hb
     rw [hp.hi _ hs.1]
     simp only [oS]
     exact .inr ⟨.ret false,rfl,(fun _ e=>by cases e),.inr ⟨hfalse (hp.big _ hb),rfl⟩⟩
   ·have:st=s.length:=by omega
    subst this
    unfold Fd
    simp only [Nat.lt_irrefl,decide_false,cF]
    exact .inr ⟨_,rfl,(fun _ e=>by cases e),.inl ⟨by simpa using hall,rfl⟩⟩) s.length N 0 0 (by omega) ⟨rfl,rfl⟩ hN
 obtain ⟨o,ho,hR⟩:=key
 unfold Fe
 rw [ho]
 rcases hR with ⟨h1,rfl⟩ | ⟨h1,rfl⟩
 ·simp only [oS,Br.k,Mn,h1,Bool.true_and]
 ·simp only [oS,Br.k,h1,Bool.false_and]
theorem Nu {p:Int->Option Bool} {P:UInt8->Bool} (hp:FV p P) {b:UInt8} (h:b.toNat < 128):Fg p b.toNat=P b:=by unfold Fg;rw [hp.lo b h];rfl
theorem JQ {p:Int->Option Bool} {P:UInt8->Bool} (hp:FV p P) (s:VW) (ha:∀ b,b∈s->b.toNat < 128):∀ (f i:Nat),s.length<=i + f->i<=s.length->
  (0<=Go.Lib.idxFuncFrom (Fg p) true ⟨s.toArray⟩ f i ↔ (s.drop i).any P=true)
 | 0,i,h1,h2=>by
  have:i=s.length:=by omega
  subst this
  simp [Go.Lib.idxFuncFrom]
 | f + 1,i,h1,h2=>by
  unfold Go.Lib.idxFuncFrom
  have hsz:(⟨s.toArray⟩:ByteArray).size=s.length:=by simp [ByteArray.size]
  rw [hsz]
  by_cases h:i < s.length
  ·rw [if_pos h]
   have hget:s[i]? =some s[i]:=List.getElem?_eq_getElem h
   have hd:Utf8.decode ⟨s.toArray⟩ i=(s[i].toNat,1):=L7 hget (ha _ (List.getElem_mem h))
   rw [hd]
   simp only
   rw [Nu hp (ha _ (List.getElem_mem h)),List.drop_eq_getElem_cons h,List.any_cons]
   cases hP:P s[i] with
   | true=>simp
   | false=>
    simp only [Bool.false_eq_true,if_false,Bool.false_or]
    exact JQ hp s ha f (i + 1) (by omega) (by omega)
  ·have:i=s.length:=by omega
   subst this
   simp
theorem Rm {p:Int->Option Bool} {P:UInt8->Bool} (hp:FV p P) {N:Nat} (s:VW) (ha:∀ b,b∈s->b.toNat < 128):∃ r,Cu N s p=some r/\decide (r>=0)=s.any P:=by
 refine ⟨_,by unfold Cu;rw [if_pos hp.all],?_⟩
 have:=JQ hp s ha s.length 0 (by omega) (by omega)
 have hsz:(⟨s.toArray⟩:ByteArray).size=s.length:=by simp [ByteArray.size]
 unfold Go.Lib.idxFunc
 rw [hsz]
 rw [List.drop_zero] at this
 cases hs:s.any P with
 | true=>rw [hs] at this;exact decide_eq_true (this.2 rfl)
 | false=>
  rw [hs] at this
  exact decide_eq_false fun h=>by have:=this.1 h;cases this
def M3:VW->Nat
 | []=>0
 | b::r=>if isD b then r.length + 1 else M3 r
def Ck (s:VW):Nat:=M3 s.reverse
theorem Pa:Ck []=0:=rfl
theorem Rr (l:VW) (b:UInt8):Ck (l++[b])=if isD b then l.length + 1 else Ck l:=by
 unfold Ck
 rw [List.reverse_append]
 simp [M3]
theorem Of:∀ l:VW,M3 l<=l.length
 | []=>Nat.le_refl _
 | b::r=>by
  unfold M3
  split
  ·exact Nat.le_refl _
  ·exact Nat.le_succ_of_le (Of r)
theorem TJ (s:VW):Ck s<=s.length:=by unfold Ck;have:=Of s.reverse;simpa using this
theorem NB:∀ l:VW,∀ b,b∈l.take (l.length - M3 l)->isD b=false
 | [],b,h=>by simp at h
 | c::r,b,h=>by
  unfold M3 at h
  split at h
  ·simp at h
  ·rename_i hc
   have hc':isD c=false:=by simpa using hc
   have:=Of r
   rw [show (c::r).length - M3 r=(r.length - M3 r) + 1 by simp;omega,List.take_succ_cons] at h
   rcases List.mem_cons.1 h with rfl | h
   ·exact hc'
   ·exact NB r b h
theorem Ru (s:VW):∀ b,b∈s.drop (Ck s)->isD b=false:=by
 intro b hb
 have h:=NB s.reverse b
 have e:s.reverse.take (s.reverse.length - M3 s.reverse)=(s.drop (Ck s)).reverse:=by
  rw [List.reverse_drop,List.length_reverse];rfl
 rw [e] at h
 exact h (by simpa using hb)
theorem I0 (N:Nat) (s:VW) (ha:∀ b,b∈s->b.toNat < 128):∀ (f i:Nat),i<=f->i<=s.length->
  Go.Lib.lastIdxFuncFrom (Fg fun y0=>Bm N y0) true ⟨s.toArray⟩ f i + 1=(Ck (s.take i):Int)
 | 0,i,h1,h2=>by
  have:i=0:=by omega
  subst this
  simp [Go.Lib.lastIdxFuncFrom,Pa]
 | f + 1,0,h1,h2=>by simp [Go.Lib.lastIdxFuncFrom,Pa]
 | f + 1,i + 1,h1,h2=>by
  unfold Go.Lib.lastIdxFuncFrom
  rw [if_pos (Nat.succ_pos i)]
  have h:i < s.length:=by omega
  have htake:s.take (i + 1)=s.take i++[s[i]]:=by rw [List.take_add_one,List.getElem?_eq_getElem h];rfl
  have hb:=ha _ (List.getElem_mem h)
  have hdl:Go.Lib.decodeLastL (s.take (i + 1))=(s[i].toNat,1):=by
   unfold Go.Lib.decodeLastL
   rw [if_neg (fun e=>by have h9:=congrArg List.length e;rw [List.length_take,List.length_nil] at h9;omega)]
   have hlen:(s.take (i + 1)).length - 1=i:=by rw [List.length_take];omega
   have hg:(s.take (i + 1)).getD i 0=s[i]:=by
    rw [List.getD_eq_getElem?_getD,List.getElem?_take,if_pos (by omega),List.getElem?_eq_getElem h];rfl
   rw [hlen,hg,if_pos hb]
  simp only [List.toList_toArray] at *
  rw [hdl]
  simp only
  rw [Nu (Qr N) hb,htake,Rr]
  cases hP:isD s[i] with
  | true=>
   simp only [if_true]
   rw [List.length_take,Nat.min_eq_left (by omega)]
   simp
  | false=>
   simp only [Bool.false_eq_true,if_false]
   rw [show i + 1 - 1=i by omega]
   exact I0 N s ha f i (by omega) (by omega)
theorem Gr (i:Nat) (h:i < 4611686018427387904):W64 ((i:Int) + 1)=((i + 1:Nat):Int):=by
 rw [DO (by omega) (by omega)];omega
def pcs (c:UInt8):VW->List VW
 | []=>[[]]
 | b::s=>if b=c then []::pcs c s else match pcs c s with
  | p::r=>(b::p)::r
  | []=>[[b]]
theorem RY (c:UInt8):∀ s,pcs c s≠[]
 | []=>by simp [pcs]
 | b::s=>by
  unfold pcs
  split
  ·simp
  ·split <;> simp
theorem JH {c:UInt8}:∀ {a:VW},c∉a->pcs c a=[a]
 | [],_=>rfl
 | b::s,h=>by
  have h1:¬ b=c:=fun e=>h (by rw [e];exact List.mem_cons_self)
  have h2:c∉s:=fun hm=>h (List.mem_cons_of_mem _ hm)
  unfold pcs
  rw [if_neg h1,JH h2]
theorem LN {c:UInt8}:∀ {a t:VW},c∉a->pcs c (a++c::t)=a::pcs c t
 | [],t,_=>by simp [pcs]
 | b::s,t,h=>by
  have h1:¬ b=c:=fun e=>h (by rw [e];exact List.mem_cons_self)
  have h2:c∉s:=fun hm=>h (List.mem_cons_of_mem _ hm)
  rw [List.cons_append]
  conv=>lhs;unfold pcs
  rw [if_neg h1,LN h2]
theorem El {c:UInt8}:∀ {s:VW},c∈s->∃ a t,s=a++c::t/\c∉a
 | b::s,h=>by
  by_cases hb:b=c
  ·exact ⟨[],s,by rw [hb];rfl,by simp⟩
  ·rcases List.mem_cons.1 h with e | h
   ·exact absurd e.symm hb
   ·obtain ⟨a,t,h1,h2⟩:=El h
    exact ⟨b::a,t,by rw [h1];rfl,fun hm=>by
     rcases List.mem_cons.1 hm with e | hm
     ·exact hb e.symm
     ·exact h2 hm⟩
theorem HX {c:UInt8}:∀ {s:VW},c∉s->Go.Lib.index s [c]= -1
 | [],_=>rfl
 | b::s,h=>by
  have h1:¬ c=b:=fun e=>h (by rw [e];exact List.mem_cons_self)
  have h2:c∉s:=fun hm=>h (List.mem_cons_of_mem _ hm)
  unfold Go.Lib.index
  rw [if_neg (by simp [List.isPrefixOf];exact h1),HX h2]
  rfl
theorem HW {c:UInt8}:∀ {a t:VW},c∉a->Go.Lib.index (a++c::t) [c]=(a.length:Int)
 | [],t,_=>by
  show Go.Lib.index (c::t) [c]=0
  unfold Go.Lib.index
  rw [if_pos (by simp [List.isPrefixOf])]
 | b::s,t,h=>by
  have h1:¬ c=b:=fun e=>h (by rw [e];exact List.mem_cons_self)
  have h2:c∉s:=fun hm=>h (List.mem_cons_of_mem _ hm)
  rw [List.cons_append]
  unfold Go.Lib.index
  rw [if_neg (by simp [List.isPrefixOf];exact h1),HW h2,if_neg (by simp <;> omega)]
  simp
theorem L5 {c:UInt8}:∀ (n f:Nat) (s:VW),s.length<=n->s.length < f->Go.Lib.splitK [c] 0 (Go.Lib.countFrom [c] f s) s=pcs c s
 | _,0,s,_,h=>by omega
 | n,f + 1,s,h1,h2=>by
  by_cases hc:c∈s
  ·obtain ⟨a,t,rfl,ha⟩:=El hc
   have hi:=HW (t:=t) ha
   unfold Go.Lib.countFrom
   rw [hi,if_neg (by simp <;> omega),Nat.add_comm 1]
   unfold Go.Lib.splitK
   rw [hi,if_neg (by simp <;> omega)]
   have hdrop:(a++c::t).drop (((a.length:Int)).toNat + [c].length)=t:=by
    simp
   have htake:(a++c::t).take (((a.length:Int)).toNat + 0)=a:=by simp
   rw [hdrop,htake,LN ha]
   have hl:t.length < n:=by simp at h1;omega
   obtain ⟨n',rfl⟩:∃ n',n=n' + 1:=⟨n - 1,by omega⟩
   rw [L5 n' f t (by omega) (by simp at h2;omega)]
  ·rw [JH hc]
   unfold Go.Lib.countFrom
   rw [HX hc,if_pos (by simp)]
   rfl
theorem OA (c:UInt8) (s:VW):NL s [c]=pcs c s:=by
 unfold NL
 rw [Go.Lib.splitB_data]
 have:Go.Lib.countB ⟨s.toArray⟩ ⟨[c].toArray⟩=Go.Lib.countFrom [c] (s.length + 1) s:=by
  rfl
 rw [this]
 exact L5 s.length (s.length + 1) s (Nat.le_refl _) (Nat.lt_succ_self _)
theorem Qx {N:Nat} {s:VW} (c:UInt8) (h:s.length < 4294967281):strings_Split N s [c]=some (pcs c s):=by
 unfold strings_Split
 rw [if_pos ⟨h,by simp⟩,OA]
theorem SF {c:UInt8} {s:VW} (h:c∉s):Go.Lib.cut s [c]=(s,[],false):=by
 unfold Go.Lib.cut
 rw [HX h,if_neg (by decide)]
theorem SE {c:UInt8} {a t:VW} (h:c∉a):Go.Lib.cut (a++c::t) [c]=(a,t,true):=by
 unfold Go.Lib.cut
 rw [HW h,if_pos (by omega)]
 simp only [Int.toNat_natCast,List.length_singleton]
 rw [List.drop_append]
 simp
theorem Rj {α ρ τ:Type} {body:Int->Option (Br ρ Int)} {l:List α} (ok:α->Bool) (bad:ρ) (hb:∀ i (h:i < l.length),body (i:Int)=some (bif ok l[i] then .next ((i + 1:Nat):Int) else .ret bad))
  (he:body (l.length:Int)=some (.done (l.length:Int))) {N:Nat} (hN:l.length < N) (fd:Int->Option τ) (fr:ρ->Option τ):((AV body N 0).bind fun o=>o.k fr fd)=bif l.all ok then fd l.length else fr bad:=by
 obtain ⟨o,ho,hR⟩:=ET (body:=body) l.length (fun i s=>s=(i:Int)/\(l.take i).all ok=true) (fun o=>(l.all ok=true/\o=.done (l.length:Int))\/(l.all ok=false/\o=.ret bad)) (by
  rintro i s hi ⟨rfl,hk⟩
  by_cases h:i < l.length
  ·rw [hb i h]
   cases e:ok l[i] with
   | true=>exact .inl ⟨_,rfl,⟨rfl,by rw [List.take_add_one,List.getElem?_eq_getElem h,List.all_append,hk];simp [e]⟩,h⟩
   | false=>exact .inr ⟨_,rfl,(fun _ h=>by cases h),.inr ⟨by rw [List.all_eq_false];exact ⟨l[i],List.getElem_mem h,by rw [e];simp⟩,rfl⟩⟩
  ·have:i=l.length:=by omega
   subst this
   rw [he]
   exact .inr ⟨_,rfl,(fun _ h=>by cases h),.inl ⟨by simpa using hk,rfl⟩⟩) l.length N 0 0 (by omega) ⟨rfl,rfl⟩ hN
 rw [ho]
 rcases hR with ⟨h1,rfl⟩ | ⟨h1,rfl⟩ <;> rw [h1] <;> rfl
section
variable {N : Nat} {s : VW}
theorem EH {i n:Nat} (h:i < n):decide ((i:Int) < (n:Int))=true:=decide_eq_true (by omega)
theorem Fp {n:Nat}:decide ((n:Int) < (n:Int))=false:=decide_eq_false (by omega)
def wiB (n lo hi:Nat):Bool:=decide (lo<=n)&&decide (n<=hi)
def Gq (s:VW):Bool:=s.all isE&&wiB s.length 1 4&&s.any isL
def B4 (s:VW):Bool:=s.all isE&&wiB (Ck s) 1 4&&(s.take (Ck s)).any isL&&wiB (s.length - Ck s) 1 4
def EQ (s:VW):Bool:=(s.all isL&&wiB s.length 1 4)||(s.all isD&&wiB s.length 1 1)
theorem FB (n lo hi:Nat):(decide (((lo:Nat):Int)<=(n:Int))&&decide ((n:Int)<=((hi:Nat):Int)))=wiB n lo hi:=by
 unfold wiB
 congr 1 <;> (rw [decide_eq_decide];omega)
theorem w14 (n:Nat):(decide ((1:Int)<=(n:Int))&&decide ((n:Int)<=(4:Int)))=wiB n 1 4:=FB n 1 4
theorem w11 (n:Nat):(decide ((1:Int)<=(n:Int))&&decide ((n:Int)<=(1:Int)))=wiB n 1 1:=FB n 1 1
theorem PT (hs:s.length < 4611686018427387904) (hN:s.length < N):Ff N s=some (Gq s):=by
 unfold Ff Gq
 rw [GJ (UI N) s 4 hN,oS,w14]
 cases h:(s.all isE&&wiB s.length 1 4) with
 | false=>rfl
 | true=>
  rw [Bool.and_eq_true] at h
  obtain ⟨r,h1,h2⟩:=Rm (N:=N) (RV N) s (fun b hb=>N7 (List.all_eq_true.1 h.1 b hb))
  rw [cT,h1,oS,h2]
  rfl
theorem OS (hs:s.length < 4611686018427387904) (hN:s.length < N):D7 N s=some (EQ s):=by
 unfold D7 EQ
 rw [GJ (RV N) s 4 hN,GJ (Qr N) s 1 hN,w14,w11]
 cases s.all isL&&wiB s.length 1 4 <;> rfl
theorem Pr (s:VW):s.all isL=(s.all isE&& !s.any isD):=by
 induction s with
 | nil=>rfl
 | cons b s ih=>
  simp only [List.all_cons,List.any_cons,ih,isE]
  cases hL:isL b with
  | true=>rw [Vj hL];simp
  | false=>cases isD b <;> cases s.all isE <;> cases s.any isD <;> rfl
theorem Sl (p:Nat->Bool) (tr:Bool) (s:VW):∀ (f i:Nat),i<=s.length->Go.Lib.lastIdxFuncFrom p tr ⟨s.toArray⟩ f i= -1\/(0<=Go.Lib.lastIdxFuncFrom p tr ⟨s.toArray⟩ f i/\Go.Lib.lastIdxFuncFrom p tr ⟨s.toArray⟩ f i < (i:Int))
 | 0,_,_=>.inl rfl
 | f + 1,i,hi=>by
  unfold Go.Lib.lastIdxFuncFrom
  split
  ·rename_i h0
   have hw:=Go.Lib.decodeLastL_width (s.take i) (by rw [List.length_take];omega)
   simp only [List.toList_toArray] at *
   split
   ·exact .inr ⟨by omega,by omega⟩
   ·rcases Sl p tr s f (i - (Go.Lib.decodeLastL (s.take i)).2) (by omega) with h | h
    ·exact .inl h
    ·exact .inr ⟨h.1,by omega⟩
  ·exact .inl rfl
theorem T8 (hs:s.length < 4611686018427387904) (hN:s.length < N):∃ x y,Kf N s=some (x,y,B4 s)/\(B4 s=true->x=s.take (Ck s)/\y=s.drop (Ck s)):=by
 have hr:∃ k:Nat,BN N s (fun y0=>Bm N y0)=some ((k:Int) - 1)/\k<=s.length/\((∀ b,b∈s->b.toNat < 128)->k=Ck s):=by
  have hsz:(⟨s.toArray⟩:ByteArray).size=s.length:=by simp [ByteArray.size]
  have e:BN N s (fun y0=>Bm N y0)=some (Go.Lib.lastIdxFunc (Fg fun y0=>Bm N y0) true ⟨s.toArray⟩):=by
   unfold BN Ch
   rw [if_pos ⟨(Qr N).all,by omega⟩]
   rfl
  rw [e]
  unfold Go.Lib.lastIdxFunc
  rw [hsz]
  have hrange:=Sl (Fg fun y0=>Bm N y0) true s s.length s.length (Nat.le_refl _)
  refine ⟨(Go.Lib.lastIdxFuncFrom (Fg fun y0=>Bm N y0) true ⟨s.toArray⟩ s.length s.length + 1).toNat,?_,?_,fun ha=>?_⟩
  ·exact congrArg some (by rcases hrange with h | ⟨h,_⟩ <;> omega)
  ·rcases hrange with h | ⟨h1,h2⟩
   ·omega
   ·omega
  ·have:=I0 N s ha s.length s.length (Nat.le_refl _) (Nat.le_refl _)
   rw [List.take_length] at this
   omega
 obtain ⟨k,h1,h2,h3⟩:=hr
 have e1:W64 ((k:Int) - 1 + 1)=(k:Int):=by rw [DO (by omega) (by omega)];omega
 have e2:MX s 0 (k:Int)=some (s.take k):=by
  have:=Oz (a:=s) (lo:=0) (hi:=k) (Nat.zero_le _) h2
  simpa using this
 have e3:MX s (k:Int) (s.length:Int)=some (s.drop k):=by
  rw [Oz h2 (Nat.le_refl _),List.take_of_length_le (by simp)]
 have e4:=PT (N:=N) (s:=s.take k) (by rw [List.length_take];omega) (by rw [List.length_take];omega)
 have e5:=GJ (RV N) (s.drop k) 4 (N:=N) (by rw [List.length_drop];omega)
 refine ⟨s.take k,s.drop k,?_,?_⟩
 ·unfold Kf
  rw [h1,oS,e1,e2,oS,e3,oS,oS,e4,oS,e5,w14]
  have hbase:(decide ((k:Int) > 0)&&(Gq (s.take k)&&((s.drop k).all isL&&wiB (s.drop k).length 1 4)))=B4 s:=by
   by_cases ha:s.all isE=true
   ·have hk:k=Ck s:=h3 fun b hb=>N7 (List.all_eq_true.1 ha b hb)
    subst hk
    have hle:=TJ s
    have e6:(s.take (Ck s)).all isE=true:=List.all_eq_true.2 fun b hb=>List.all_eq_true.1 ha b (List.mem_of_mem_take hb)
    have e7:(s.drop (Ck s)).all isL=true:=by
     rw [Pr]
     rw [Bool.and_eq_true]
     refine ⟨List.all_eq_true.2 fun b hb=>List.all_eq_true.1 ha b (List.mem_of_mem_drop hb),?_⟩
     rw [Bool.not_eq_true',List.any_eq_false]
     intro b hb
     rw [Ru s b hb];simp
    unfold Gq B4
    rw [ha,e6,e7,List.length_take,Nat.min_eq_left hle,List.length_drop]
    have e8:(decide ((Ck s:Int) > 0)&&wiB (Ck s) 1 4)=wiB (Ck s) 1 4:=by
     unfold wiB
     cases hd:decide (1<=Ck s) with
     | false=>simp
     | true=>rw [decide_eq_true (by have:=of_decide_eq_true hd;omega)];rfl
    rw [<-e8]
    cases decide ((Ck s:Int) > 0) <;> cases wiB (Ck s) 1 4 <;> cases (s.take (Ck s)).any isL <;> rfl
   ·have ha':s.all isE=false:=by simpa using ha
    unfold Gq B4
    rw [ha']
    have e9:(s.take k).all isE=false\/(s.drop k).all isL=false:=by
     rw [<-List.take_append_drop k s,List.all_append] at ha'
     cases h5:(s.take k).all isE with
     | false=>exact .inl rfl
     | true=>
      right
      rw [h5,Bool.true_and] at ha'
      rw [Pr,ha']
      rfl
    rcases e9 with e9 | e9 <;> rw [e9] <;> simp
  rw [<-hbase]
  cases decide ((k:Int) > 0) <;> cases Gq (s.take k) <;> rfl
 ·intro hb
  have ha:s.all isE=true:=by
   unfold B4 at hb
   simp only [Bool.and_eq_true] at hb
   exact hb.1.1.1
  rw [h3 fun b hb=>N7 (List.all_eq_true.1 ha b hb)]
  exact ⟨rfl,rfl⟩
end
theorem PW {α ρ τ:Type} {body:Int->Option (Br ρ Int)} {l:List α} (f:α->Option ρ) (hb:∀ i (h:i < l.length),body (i:Int)=some ((f l[i]).elim (.next ((i + 1:Nat):Int)) .ret))
  (he:body (l.length:Int)=some (.done (l.length:Int))) {N:Nat} (hN:l.length < N) (fd:Int->Option τ) (fr:ρ->Option τ):((AV body N 0).bind fun o=>o.k fr fd)=(l.findSome? f).elim (fd l.length) fr:=by
 obtain ⟨o,ho,hR⟩:=ET (body:=body) l.length (fun i s=>s=(i:Int)/\l.findSome? f=(l.drop i).findSome? f) (fun o=>(l.findSome? f=none/\o=.done (l.length:Int))\/ ∃ r,l.findSome? f=some r/\o=.ret r) (by
  rintro i s hi ⟨rfl,hk⟩
  by_cases h:i < l.length
  ·rw [hb i h]
   rw [List.drop_eq_getElem_cons h,List.findSome?_cons] at hk
   cases e:f l[i] with
   | some r=>rw [e] at hk;exact .inr ⟨_,rfl,(fun _ h=>by cases h),.inr ⟨r,hk,rfl⟩⟩
   | none=>rw [e] at hk;exact .inl ⟨_,rfl,⟨rfl,hk⟩,h⟩
  ·have:i=l.length:=by omega
   subst this
   rw [he]
   rw [List.drop_length] at hk
   exact .inr ⟨_,rfl,(fun _ h=>by cases h),.inl ⟨hk,rfl⟩⟩) l.length N 0 0 (by omega) ⟨rfl,by rw [List.drop_zero]⟩ hN
 rw [ho]
 rcases hR with ⟨h1,rfl⟩ | ⟨r,h1,rfl⟩ <;> rw [h1] <;> rfl
theorem PO (c:UInt8):∀ s p,p∈pcs c s->p.length<=s.length
 | [],p,h=>by simp [pcs] at h;subst h;simp
 | b::s,p,h=>by
  have ih:=PO c s
  unfold pcs at h
  by_cases hb:b=c
  ·rw [if_pos hb] at h
   rcases List.mem_cons.1 h with rfl | h
   ·simp
   ·exact Nat.le_succ_of_le (ih p h)
  ·rw [if_neg hb] at h
   cases hp:pcs c s with
   | nil=>exact absurd hp (RY c s)
   | cons q r=>
    rw [hp] at h ih
    simp only at h
    rcases List.mem_cons.1 h with rfl | h
    ·exact Nat.succ_le_succ (ih q List.mem_cons_self)
    ·exact Nat.le_succ_of_le (ih p (List.mem_cons_of_mem _ h))
def zp:Bj:={Area:=[],Prefix:=[],Suffix:=[],Stroke:=[]}
abbrev Tri:=VW×VW×VW
def Ni (ws:List VW):Option Tri:=match ws with
 | [w]=>if B4 w then some ([],w,[]) else none
 | [a,b]=>if Gq a&&B4 b&&decide (a.length < b.length) then some (a,b,[]) else if B4 a&&EQ b then some ([],a,b) else none
 | [a,b,c]=>if Gq a&&B4 b&&EQ c then some (a,b,c) else none
 | _=>none
def callB (s:VW):Option Tri:=if s.length<=16 then Ni (pcs 47 s) else none
def Qt (t:Tri):Bj:={Area:=t.1,Prefix:=t.2.1.take (Ck t.2.1),Suffix:=t.2.1.drop (Ck t.2.1),Stroke:=t.2.2}
def Py (s:VW):Bj×Bool:=match callB s with
 | some t=>(Qt t,true)
 | none=>(zp,false)
section
variable {N : Nat}
theorem JL {w:VW} (hs:w.length < 4611686018427387904) (hN:w.length < N):∃ x y,AE N w=some ({Area:=[],Prefix:=x,Suffix:=y,Stroke:=[]},B4 w)/\(B4 w=true->x=w.take (Ck w)/\y=w.drop (Ck w)):=by
 obtain ⟨x,y,h1,h2⟩:=T8 hs hN
 exact ⟨x,y,by unfold AE;rw [h1];rfl,h2⟩
theorem Uq {w:VW} {z0:VW->Option (Bj×Bool)} {p:Bj} {ok:Bool} (h1:z0 w=some (p,ok)):Dz N [w] z0=some (p,ok):=by
 unfold Dz
 have i0:idx [w] 0=some w:=rfl
 simp only [i0,oS,h1]
theorem Up {a b:VW} {z0:VW->Option (Bj×Bool)} {x y u v:VW} {A ok:Bool} (h1:z0 b=some ({Area:=u,Prefix:=x,Suffix:=y,Stroke:=v},ok)) (h3:Ff N a=some A):Dy N [a,b] z0=some ({Area:=a,Prefix:=x,Suffix:=y,Stroke:=v},ok&&A&&decide (a.length < b.length)):=by
 unfold Dy
 have e:decide ((a.length:Int) < (b.length:Int))=decide (a.length < b.length):=by rw [decide_eq_decide];omega
 have i0:idx [a,b] 0=some a:=rfl
 have i1:idx [a,b] 1=some b:=rfl
 rw [i0,i1]
 simp only [oS,h1,h3]
 clear h1 h3
 rw [e]
 generalize decide (a.length < b.length)=D
 cases ok <;> cases A <;> rfl
theorem Uo {a b:VW} {z0:VW->Option (Bj×Bool)} {x y u v:VW} {A ok:Bool} (h1:z0 a=some ({Area:=u,Prefix:=x,Suffix:=y,Stroke:=v},ok)) (h3:D7 N b=some A):Dw N [a,b] z0=some ({Area:=u,Prefix:=x,Suffix:=y,Stroke:=b},ok&&A):=by
 unfold Dw
 have i0:idx [a,b] 0=some a:=rfl
 have i1:idx [a,b] 1=some b:=rfl
 rw [i0,i1]
 simp only [oS,h1,h3]
 clear h1 h3
 cases ok <;> cases A <;> rfl
theorem Un {a b c:VW} {z0:VW->Option (Bj×Bool)} {x y u v:VW} {A B ok:Bool} (h1:z0 b=some ({Area:=u,Prefix:=x,Suffix:=y,Stroke:=v},ok)) (h3:Ff N a=some A) (h4:D7 N c=some B):Ds N [a,b,c] z0=some ({Area:=a,Prefix:=x,Suffix:=y,Stroke:=c},ok&&A&&B):=by
 unfold Ds
 have i0:idx [a,b,c] 0=some a:=rfl
 have i1:idx [a,b,c] 1=some b:=rfl
 have i2:idx [a,b,c] 2=some c:=rfl
 rw [i0,i1,i2]
 simp only [oS,h1,h3,h4]
 clear h1 h3 h4
 cases ok <;> cases A <;> cases B <;> rfl
theorem Tu {w:VW} (hs:w.length<=16) (hN:16 < N):∃ x y,Dz N [w] (fun y0=>AE N y0)=some ({Area:=[],Prefix:=x,Suffix:=y,Stroke:=[]},B4 w)/\(B4 w=true->x=w.take (Ck w)/\y=w.drop (Ck w)):=by
 obtain ⟨x,y,h1,h2⟩:=JL (w:=w) (N:=N) (by omega) (by omega)
 exact ⟨x,y,Uq (z0:=fun y0=>AE N y0) h1,h2⟩
theorem Tt {a b:VW} (ha:a.length<=16) (hb:b.length<=16) (hN:16 < N):∃ x y,Dy N [a,b] (fun y0=>AE N y0)=some ({Area:=a,Prefix:=x,Suffix:=y,Stroke:=[]},B4 b&&Gq a&&decide (a.length < b.length))/\(B4 b=true->x=b.take (Ck b)/\y=b.drop (Ck b)):=by
 obtain ⟨x,y,h1,h2⟩:=JL (w:=b) (N:=N) (by omega) (by omega)
 exact ⟨x,y,Up (z0:=fun y0=>AE N y0) h1 (PT (N:=N) (s:=a) (by omega) (by omega)),h2⟩
theorem Ts {a b:VW} (ha:a.length<=16) (hb:b.length<=16) (hN:16 < N):∃ x y,Dw N [a,b] (fun y0=>AE N y0)=some ({Area:=[],Prefix:=x,Suffix:=y,Stroke:=b},B4 a&&EQ b)/\(B4 a=true->x=a.take (Ck a)/\y=a.drop (Ck a)):=by
 obtain ⟨x,y,h1,h2⟩:=JL (w:=a) (N:=N) (by omega) (by omega)
 exact ⟨x,y,Uo (z0:=fun y0=>AE N y0) h1 (OS (N:=N) (s:=b) (by omega) (by omega)),h2⟩
theorem Tr {a b c:VW} (ha:a.length<=16) (hb:b.length<=16) (hc:c.length<=16) (hN:16 < N):∃ x y,Ds N [a,b,c] (fun y0=>AE N y0)=some ({Area:=a,Prefix:=x,Suffix:=y,Stroke:=c},B4 b&&Gq a&&EQ c)/\(B4 b=true->x=b.take (Ck b)/\y=b.drop (Ck b)):=by
 obtain ⟨x,y,h1,h2⟩:=JL (w:=b) (N:=N) (by omega) (by omega)
 exact ⟨x,y,Un (z0:=fun y0=>AE N y0) h1 (PT (N:=N) (s:=a) (by omega) (by omega)) (OS (N:=N) (s:=c) (by omega) (by omega)),h2⟩
def Pw (ws:List VW) (fm:BH):Option (Bj×Bool):=if fm.words_=(ws.length:Int) then match fm.split_ ws with
 | some (p,true)=>some (p,true)
 | _=>none
 else none
theorem Px {s:VW} {ws:List VW} (hle:∀ w,w∈ws->w.length<=16) (hN:4 < N) (f2 f3 f4 f5:List VW->Option (Bj×Bool))
  (H2:∀ w:VW,w.length<=16->∃ x y,f2 [w]=some ({Area:=[],Prefix:=x,Suffix:=y,Stroke:=[]},B4 w)/\(B4 w=true->x=w.take (Ck w)/\y=w.drop (Ck w)))
  (H3:∀ a b:VW,a.length<=16->b.length<=16->∃ x y,f3 [a,b]=some ({Area:=a,Prefix:=x,Suffix:=y,Stroke:=[]},B4 b&&Gq a&&decide (a.length < b.length))/\(B4 b=true->x=b.take (Ck b)/\y=b.drop (Ck b)))
  (H4:∀ a b:VW,a.length<=16->b.length<=16->∃ x y,f4 [a,b]=some ({Area:=[],Prefix:=x,Suffix:=y,Stroke:=b},B4 a&&EQ b)/\(B4 a=true->x=a.take (Ck a)/\y=a.drop (Ck a)))
  (H5:∀ a b c:VW,a.length<=16->b.length<=16->c.length<=16->∃ x y,f5 [a,b,c]=some ({Area:=a,Prefix:=x,Suffix:=y,Stroke:=c},B4 b&&Gq a&&EQ c)/\(B4 b=true->x=b.take (Ck b)/\y=b.drop (Ck b))):
  ((AV (CY N s ws [({words_:=1,split_:=f2}:BH),{words_:=2,split_:=f3},{words_:=2,split_:=f4},{words_:=3,split_:=f5}]) N 0).bind fun o=>o.k (fun r=>some r) (fun _=>some (zp,false)))=some (match Ni ws with | some t=>(Qt t,true) | none=>(zp,false)):=by
 generalize hF:([_,_,_,_]:List BH)=F
 have htot:∀ fm,fm∈F->fm.words_=(ws.length:Int)->∃ r,fm.split_ ws=some r:=by
  subst hF
  intro fm hfm hw
  simp only [List.mem_cons,List.not_mem_nil,or_false] at hfm
  rcases hfm with rfl | rfl | rfl | rfl <;> simp only at hw ⊢
  ·match ws,hw with
   | [w],_=>obtain ⟨_,_,h,_⟩:=H2 w (hle w (by simp));exact ⟨_,h⟩
  ·match ws,hw with
   | [a,b],_=>obtain ⟨_,_,h,_⟩:=H3 a b (hle a (by simp)) (hle b (by simp));exact ⟨_,h⟩
  ·match ws,hw with
   | [a,b],_=>obtain ⟨_,_,h,_⟩:=H4 a b (hle a (by simp)) (hle b (by simp));exact ⟨_,h⟩
  ·match ws,hw with
   | [a,b,c],_=>obtain ⟨_,_,h,_⟩:=H5 a b c (hle a (by simp)) (hle b (by simp)) (hle c (by simp));exact ⟨_,h⟩
 have hlen:F.length=4:=by subst hF;rfl
 have hb:∀ i (h:i < F.length),CY N s ws F (i:Int)=some ((Pw ws F[i]).elim (.next ((i + 1:Nat):Int)) .ret):=by
  intro i h
  unfold CY
  have hi:idx F (i:Int)=some F[i]:=by unfold idx;rw [if_pos (by omega)];simp [h]
  rw [EH h,cT,hi,oS,Gr i (by omega)]
  have htt:=htot _ (List.getElem_mem h)
  generalize F[i]=fm at htt
  unfold Pw
  by_cases hw:fm.words_=(ws.length:Int)
  ·obtain ⟨⟨p,ok⟩,hr⟩:=htt hw
   rw [if_pos hw,show (fm.words_ !=(ws.length:Int))=false by simp [hw],cF,hr]
   cases ok <;> rfl
  ·rw [if_neg hw,show (fm.words_ !=(ws.length:Int))=true by simp [hw],cT]
   rfl
 have he:CY N s ws F (F.length:Int)=some (.done (F.length:Int)):=by
  unfold CY
  rw [Fp,cF]
 rw [PW (l:=F) (Pw ws) hb he (by omega)]
 subst hF
 match ws,hle with
 | [],_=>rfl
 | [w],hle=>
  obtain ⟨x,y,h1,h2⟩:=H2 w (hle w (by simp))
  unfold Ni
  have e:(([w]:List VW).length:Int)=1:=rfl
  simp only [List.findSome?_cons,List.findSome?_nil,Pw,e,h1]
  cases hB:B4 w with
  | false=>rfl
  | true=>obtain ⟨rfl,rfl⟩:=h2 hB;rfl
 | [a,b],hle=>
  have ha:=hle a (by simp)
  have hb:=hle b (by simp)
  obtain ⟨x,y,h1,h2⟩:=H3 a b ha hb
  obtain ⟨x',y',h3,h4⟩:=H4 a b ha hb
  unfold Ni
  have e:(([a,b]:List VW).length:Int)=2:=rfl
  simp only [List.findSome?_cons,List.findSome?_nil,Pw,e,h1,h3]
  clear h1 h3 H2 H3 H4 H5 htot hlen hb he
  generalize decide (a.length < b.length)=D
  generalize Gq a=A
  generalize EQ b=S
  cases hB:B4 b with
  | false=>
   cases hA:B4 a with
   | false=>cases A <;> cases D <;> rfl
   | true=>
    obtain ⟨rfl,rfl⟩:=h4 hA
    cases A <;> cases D <;> cases S <;> rfl
  | true=>
   obtain ⟨rfl,rfl⟩:=h2 hB
   cases hA:B4 a with
   | false=>cases A <;> cases D <;> rfl
   | true=>
    obtain ⟨rfl,rfl⟩:=h4 hA
    cases A <;> cases D <;> cases S <;> rfl
 | [a,b,c],hle=>
  have ha:=hle a (by simp)
  have hb:=hle b (by simp)
  have hc:=hle c (by simp)
  obtain ⟨x,y,h1,h2⟩:=H5 a b c ha hb hc
  unfold Ni
  have e:(([a,b,c]:List VW).length:Int)=3:=rfl
  simp only [List.findSome?_cons,List.findSome?_nil,Pw,e,h1]
  clear h1 H2 H3 H4 H5 htot hlen hb he
  generalize Gq a=A
  generalize EQ c=S
  cases hB:B4 b with
  | false=>cases A <;> cases S <;> rfl
  | true=>
   obtain ⟨rfl,rfl⟩:=h2 hB
   cases A <;> cases S <;> rfl
 | a::b::c::d::t,_=>
  unfold Ni
  have e:∀ k:Int,k<=3->¬ k=((a::b::c::d::t).length:Int):=by intro k hk;simp only [List.length_cons];omega
  simp only [List.findSome?_cons,List.findSome?_nil,Pw,if_neg (e 1 (by decide)),if_neg (e 2 (by decide)),if_neg (e 3 (by decide))]
  rfl
theorem To (s:VW) (hN:4294967300 < N):IC N s=some (Py s):=by
 unfold IC Py callB
 by_cases hl:s.length<=16
 ·rw [decide_eq_false (by omega),cF,if_pos hl,Qx 47 (by omega),oS]
  have hle:=PO 47 s
  generalize pcs 47 s=ws at hle
  unfold KH
  rw [oS]
  exact Px (fun w h=>Nat.le_trans (hle w h) hl) (by omega) _ _ _ _ (fun w h=>Tu h (by omega)) (fun a b h h'=>Tt h h' (by omega)) (fun a b h h'=>Ts h h' (by omega)) (fun a b c h h' h''=>Tr h h' h'' (by omega))
 ·rw [decide_eq_true (by omega),cT,if_neg hl]
  rfl
end
section
open Go.Lib (decDigits)
def Q9 (a:Nat) (l:VW):Nat:=l.foldl (fun a b=>10 * a + (b.toNat - 48)) a
def K9 (l:VW):Nat:=Q9 0 l
theorem Ny (a:Nat) (b:UInt8) (l:VW):Q9 a (b::l)=Q9 (10 * a + (b.toNat - 48)) l:=by unfold Q9;rw [List.foldl_cons]
theorem Tz {b:UInt8} (h:isD b=true):48<=b.toNat/\b.toNat<=57:=by
 unfold isD at h
 simpa only [Bool.and_eq_true,decide_eq_true_eq] using h
theorem Tl (l:VW):∀ (a k:Nat),l.all isD=true->a < 10 ^ k->Q9 a l < 10 ^ (k + l.length):=by
 induction l with
 | nil=>intro a k _ h;exact h
 | cons b l ih=>
  intro a k hd h
  rw [Ny]
  simp only [List.all_cons,Bool.and_eq_true] at hd
  have hb:=Tz hd.1
  have hp:10 ^ (k + 1)=10 ^ k * 10:=Nat.pow_succ ..
  have:=ih (10 * a + (b.toNat - 48)) (k + 1) hd.2 (by omega)
  rw [List.length_cons,show k + (l.length + 1)=k + 1 + l.length by omega]
  exact this
theorem Tj {l:VW} (h:l.all isD=true):K9 l < 10 ^ l.length:=by
 have:=Tl l 0 0 h (by decide)
 simpa [K9] using this
theorem dig {b:UInt8} (h:isD b=true):Go.Lib.digitVal b=some (b.toNat - 48):=by
 unfold isD at h
 simp only [Bool.and_eq_true,decide_eq_true_eq] at h
 unfold Go.Lib.digitVal
 rw [if_pos h]
theorem JT:∀ (l:VW) (a:Nat),l.all isD=true->Go.Lib.decFrom a l=some (Q9 a l)
 | [],a,_=>rfl
 | b::l,a,h=>by
  simp only [List.all_cons,Bool.and_eq_true] at h
  unfold Go.Lib.decFrom
  rw [dig h.1,Ny,Nat.mul_comm 10 a]
  exact JT l _ h.2
theorem SL {l:VW} (h:l.all isD=true) (hn:1<=l.length):Go.Lib.atoi l=some (K9 l:Int):=by
 match l,h,hn with
 | b::r,h,_=>
  have hb:=h
  simp only [List.all_cons,Bool.and_eq_true] at hb
  have h1:(b==45)=false:=by rw [beq_eq_false_iff_ne];rintro rfl;exact absurd hb.1 (by decide)
  have h2:(b==43)=false:=by rw [beq_eq_false_iff_ne];rintro rfl;exact absurd hb.1 (by decide)
  unfold Go.Lib.atoi
  simp only [h1,h2,Bool.false_eq_true,if_false]
  unfold Go.Lib.decNat
  simp only [List.isEmpty_cons,Bool.false_eq_true,if_false]
  rw [JT _ _ h]
  rfl
def Kn (s:VW):Bool:=s.all isD&&wiB s.length 1 9
def Tk (s:VW):Int:=if Kn s=true then (K9 s:Int) else -1
theorem Tg {k:Nat} (h:k<=9):10 ^ k<=1000000000:=Nat.le_trans (Nat.pow_le_pow_right (by decide) h) (by decide)
theorem LO {s:VW} (h:Kn s=true):K9 s < 1000000000/\1<=s.length/\s.length<=9/\s.all isD=true:=by
 unfold Kn wiB at h
 simp only [Bool.and_eq_true,decide_eq_true_eq] at h
 exact ⟨Nat.lt_of_lt_of_le (Tj h.1) (Tg h.2.2),h.2.1,h.2.2,h.1⟩
section
variable {N : Nat} {s : VW}
theorem Mp (hN:s.length < N):Cf N s=some (Tk s):=by
 unfold Cf Tk
 rw [GJ (Qr N) s 9 hN,oS,show (decide ((1:Int)<=(s.length:Int))&&decide ((s.length:Int)<=(9:Int)))=wiB s.length 1 9 from FB _ 1 9]
 have e:(s.all isD&&wiB s.length 1 9)=Kn s:=rfl
 rw [e]
 cases h:Kn s with
 | false=>rfl
 | true=>
  have hl:=LO h
  rw [Bool.not_true,cF,if_pos rfl]
  unfold Ek
  rw [if_pos (by omega),Go.Lib.atoiAll_short s (by omega),SL hl.2.2.2 hl.2.1]
  rfl
end
def O9 (d:Nat):UInt8:=UInt8.ofNat (48 + d)
theorem O8 {d:Nat} (h:d < 10):(O9 d).toNat=48 + d:=by unfold O9;rw [UInt8.toNat_ofNat'];omega
theorem QF {d:Nat} (h:d < 10):isD (O9 d)=true:=by unfold isD;rw [O8 h];simp;omega
theorem JU {u:Nat} (h:u < 10):decDigits u=[O9 u]:=by rw [decDigits,dif_pos h];rfl
theorem P5 {u:Nat} (h:¬ u < 10):decDigits u=decDigits (u / 10)++[O9 (u % 10)]:=by
 conv=>lhs;rw [decDigits,dif_neg h]
 rfl
theorem Us (u:Nat):1<=(decDigits u).length:=by
 by_cases h:u < 10
 ·rw [JU h];simp
 ·rw [P5 h];simp
theorem Ut (u:Nat):(decDigits u).all isD=true:=by
 induction u using Nat.strongRecOn with
 | _ u ih=>
  by_cases h:u < 10
  ·rw [JU h];simp [QF h]
  ·rw [P5 h,List.all_append,ih (u / 10) (by omega)]
   simp [QF (Nat.mod_lt u (by decide:0 < 10))]
theorem Od:∀ (k u:Nat),u < 10 ^ (k + 1)->(decDigits u).length<=k + 1
 | 0,u,h=>by rw [JU (by simpa using h)];simp
 | k + 1,u,h=>by
  by_cases hu:u < 10
  ·rw [JU hu];simp
  ·rw [P5 hu,List.length_append]
   have:=Od k (u / 10) (by rw [Nat.pow_succ] at h;omega)
   simp;omega
def dP (k u:Nat):VW:=List.replicate (k - (decDigits u).length) 48++decDigits u
theorem P6 (k u:Nat):(dP k u).all isD=true:=by
 unfold dP
 rw [List.all_append,Ut,Bool.and_true,List.all_eq_true]
 intro b hb
 rw [List.eq_of_mem_replicate hb];decide
theorem Oe (k u:Nat):k<=(dP k u).length/\1<=(dP k u).length:=by
 unfold dP
 have:=Us u
 rw [List.length_append,List.length_replicate]
 omega
theorem JV {k j u:Nat} (h:u < 10 ^ (j + 1)):(dP k u).length<=max k (j + 1):=by
 unfold dP
 have:=Od j u h
 rw [List.length_append,List.length_replicate]
 omega
theorem Qo:∀ n,Go.Lib.repeatL [48] n=List.replicate n 48
 | 0=>rfl
 | n + 1=>by unfold Go.Lib.repeatL;rw [Qo n];rfl
section
variable {N : Nat}
theorem Se (u:Nat) (h:u<=1000000000):strconv_Itoa N (u:Int)=some (decDigits u):=by
 unfold strconv_Itoa
 rw [if_pos (by omega),Go.Lib.itoa_nonneg]
theorem Mo (u k:Nat) (h:u<=1000000000) (hk:k<=100):BR N (u:Int) (k:Int)=some (dP k u):=by
 unfold BR
 rw [Se u h,oS]
 have hl:(decDigits u).length<=10:=Od 9 u (by omega)
 rw [DO (by omega) (by omega)]
 have e:max (0:Int) ((k:Int) - ((decDigits u).length:Int))=((k - (decDigits u).length:Nat):Int):=by omega
 rw [e]
 unfold strings_Repeat
 rw [if_pos (by simp;omega),oS,Int.toNat_natCast,Qo]
 rw [Is (by simp;omega)]
 rfl
end
end
section
open Go.Lib (decDigits)
def TP (u:Nat):VW:=decDigits (u / 1440 + 1)++32::(dP 2 (u / 60 % 24)++dP 2 (u % 60))
def G5 (x:Int):VW×Int:=if 0<=x/\x<=20000 then (TP x.toNat,0) else ([],1)
theorem RH (u k:Nat) (h:u < 4611686018427387904):W64 (Int.tdiv (u:Int) (k:Int))=((u / k:Nat):Int):=by
 have:Int.tdiv (u:Int) (k:Int)=((u / k:Nat):Int):=by rw [Int.tdiv_eq_ediv_of_nonneg (by omega)];rfl
 have h2:u / k<=u:=Nat.div_le_self _ _
 rw [this]
 generalize u / k=v at h2
 rw [DO (by omega) (by omega)]
theorem RG (u k:Nat):Int.tmod (u:Int) (k:Int)=((u % k:Nat):Int):=by
 rw [Int.tmod_eq_emod_of_nonneg (by omega)];rfl
theorem TI {u:Nat} (h:u < 100000):(decDigits u).length<=5:=Od 4 u (by omega)
theorem QE {u:Nat} (h:u < 100):(dP 2 u).length=2:=by
 have h1:=Oe 2 u
 have h2:=JV (k:=2) (j:=1) (u:=u) (by omega)
 omega
section
variable {N : Nat}
theorem OD (x:Int):C6 N x=some (G5 x):=by
 unfold C6 G5
 rw [Mn,oS]
 by_cases h:0<=x/\x<=20000
 ·rw [if_pos h,decide_eq_true h.1,decide_eq_true h.2]
  obtain ⟨u,rfl⟩:∃ u:Nat,x=u:=⟨x.toNat,by omega⟩
  have hu:u<=20000:=by omega
  simp only [Bool.and_self,Bool.not_true,cF]
  have e1:=RH u 1440 (by omega)
  have e2:=RH u 60 (by omega)
  simp only [Int.cast_ofNat_Int] at e1 e2
  have e3:=RG (u / 60) 24
  have e4:=RG u 60
  simp only [Int.cast_ofNat_Int] at e3 e4
  rw [e1,e2,e3,e4,Gr (u / 1440) (by omega),Se _ (by omega),oS]
  have h0:=TI (u:=u / 1440 + 1) (by omega)
  have h1:=QE (u:=u / 60 % 24) (by omega)
  have h2:=QE (u:=u % 60) (by omega)
  have p1:=Mo (N:=N) (u / 60 % 24) 2 (by omega) (by omega)
  have p2:=Mo (N:=N) (u % 60) 2 (by omega) (by omega)
  simp only [Int.cast_ofNat_Int] at p1 p2
  rw [Is (by simp;omega),oS,p1,oS,Is (by simp;omega),oS,p2,oS,Is (by simp;omega),oS]
  unfold TP
  simp
 ·rw [if_neg h]
  have:(decide (0<=x)&&decide (x<=20000))=false:=by
   rw [Bool.and_eq_false_iff,decide_eq_false_iff_not,decide_eq_false_iff_not];omega
  rw [this];rfl
def MW (p q:Nat):Nat:=(p - 1) * 1440 + q / 100 * 60 + q % 100
theorem SW {p q:Nat} (h1:1<=p) (hp:p < 1000000000) (hq:q < 1000000000):W64 ((W64 ((W64 ((W64 ((p:Int) - 1)) * 1440)) + (W64 ((W64 (Int.tdiv (q:Int) 100)) * 60)))) + (Int.tmod (q:Int) 100))=(MW p q:Int):=by
 have e1:=RH q 100 (by omega)
 have e2:=RG q 100
 simp only [Int.cast_ofNat_Int] at e1 e2
 rw [e1,e2,DO (n:=(p:Int) - 1) (by omega) (by omega),DO (n:=((p:Int) - 1) * 1440) (by omega) (by omega),DO (n:=((q / 100:Nat):Int) * 60) (by omega) (by omega)]
 rw [DO (n:=((p:Int) - 1) * 1440 + ((q / 100:Nat):Int) * 60) (by omega) (by omega),DO (by omega) (by omega)]
 unfold MW
 omega
def Mk (s a b:VW):Int×Int:=if Kn a&&Kn b&&decide (1<=K9 a)&&decide (G5 (MW (K9 a) (K9 b))=(s,0)) then ((MW (K9 a) (K9 b):Int),0) else (0,13)
def PR (s:VW):Int×Int:=match pcs 32 s with
 | [a,b]=>Mk s a b
 | _=>(0,13)
theorem Ra {s:VW} (h:(32:UInt8)∈s):Kn s=false:=by
 cases hh:Kn s with
 | false=>rfl
 | true=>
  have:=List.all_eq_true.1 (LO hh).2.2.2 _ h
  revert this;decide
theorem R6:Kn []=false:=rfl
theorem R4 (s t:VW) (e:Int):((e !=0)||(t !=s))= !decide ((t,e)=(s,0)):=by
 by_cases h1:e=0
 ·by_cases h2:t=s
  ·subst h1;subst h2;simp
  ·rw [decide_eq_false (fun h=>h2 (by injection h))];simp [h2]
 ·rw [decide_eq_false (fun h=>h1 (by injection h))];simp [h1]
theorem Nw (s a b:VW) (ha:a.length < N) (hb:b.length < N):
  ((Cf N a).bind fun r9=>((Cf N b).bind fun h0=>(bif ((decide (r9 < 1))||((decide (r9 > 20000))||(decide (h0 < 0)))) then some ((0:Int),(13:Int)) else ((C6 N (W64 ((W64 ((W64 ((W64 (r9 - 1)) * 1440)) + (W64 ((W64 (Int.tdiv h0 100)) * 60)))) + (Int.tmod h0 100)))).bind fun h4=>(bif ((h4.2 !=0)||(h4.1 !=s)) then some (0,13) else some ((W64 ((W64 ((W64 ((W64 (r9 - 1)) * 1440)) + (W64 ((W64 (Int.tdiv h0 100)) * 60)))) + (Int.tmod h0 100))),0))))))=some (Mk s a b):=by
 rw [Mp ha,Mp hb,oS,oS]
 unfold Tk Mk
 cases hA:Kn a with
 | false=>
  simp only [Bool.false_eq_true,if_false,Bool.false_and]
  rfl
 | true=>
  cases hB:Kn b with
  | false=>
   simp only [Bool.false_eq_true,if_false,if_true,Bool.and_false,Bool.false_and]
   rw [show decide ((-1:Int) < 0)=true from rfl,Bool.or_true,Bool.or_true];rfl
  | true=>
   simp only [if_true,Bool.and_self,Bool.true_and]
   have hp:=LO hA
   have hq:=LO hB
   generalize K9 a=p at hp ⊢
   generalize K9 b=q at hq ⊢
   by_cases h1:1<=p
   ·rw [decide_eq_false (show ¬ (p:Int) < 1 by omega),decide_eq_true h1,decide_eq_false (show ¬ (q:Int) < 0 by omega),Bool.false_or,Bool.or_false,Bool.true_and,SW h1 hp.1 hq.1]
    by_cases h2:p<=20000
    ·rw [decide_eq_false (show ¬ (p:Int) > 20000 by omega),cF,OD,oS,R4]
     have:((G5 (MW p q:Int)).1,(G5 (MW p q:Int)).2)=G5 (MW p q:Int):=rfl
     rw [this]
     by_cases h3:G5 (MW p q:Int)=(s,0)
     ·rw [decide_eq_true h3,if_pos rfl];rfl
     ·rw [decide_eq_false h3];rfl
    ·rw [decide_eq_true (show (p:Int) > 20000 by omega),cT]
     have h3:¬ G5 (MW p q:Int)=(s,0):=by
      unfold G5 MW
      rw [if_neg (by omega)]
      intro h;injection h with h1 h2;exact absurd h2 (by decide)
     rw [decide_eq_false h3];rfl
   ·rw [decide_eq_true (show (p:Int) < 1 by omega),decide_eq_false h1];rfl
theorem Mj {s a b:VW} (h:Kn b=false):Mk s a b=(0,13):=by unfold Mk;rw [h];simp
theorem OE (s:VW) (hs:s.length < 4294967281) (hN:4294967300 < N):FS N s=some (PR s):=by
 unfold FS
 have hc:strings_Cut N s [32]=some (Go.Lib.cut s [32]):=by unfold strings_Cut;rw [if_pos hs]
 rw [hc,oS]
 unfold PR
 by_cases h:(32:UInt8)∈s
 ·obtain ⟨a,t,rfl,ha⟩:=El h
  simp only [List.length_append,List.length_cons] at hs
  rw [SE ha,LN ha]
  simp only
  rw [Nw _ a t (by omega) (by omega)]
  by_cases ht:(32:UInt8)∈t
  ·obtain ⟨a',t',rfl,ha'⟩:=El ht
   rw [LN ha',Mj (Ra ht)]
   cases hp:pcs 32 t' with
   | nil=>exact absurd hp (RY 32 t')
   | cons x l=>rfl
  ·rw [JH ht]
 ·rw [SF h,JH h]
  simp only
  rw [Nw _ s [] (by omega) (by simp;omega),Mj R6]
end
end
theorem OZ {ρ:Type} {body:Int->Option (Br ρ Int)} {n:Nat} (ok:Nat->Bool) (bad:Nat->ρ)
  (hb:∀ i,i < n->body (i:Int)=some (bif ok i then .next ((i + 1:Nat):Int) else .ret (bad i))) (he:body (n:Int)=some (.done (n:Int))) {N:Nat} (hN:n < N):
  ((∀ i,i < n->ok i=true)/\AV body N 0=some (.done (n:Int)))\/(∃ i,i < n/\ok i=false/\(∀ k,k < i->ok k=true)/\AV body N 0=some (.ret (bad i))):=by
 obtain ⟨o,ho,hR⟩:=ET (body:=body) n (fun i s=>s=(i:Int)/\ ∀ k,k < i->ok k=true) (fun o=>((∀ i,i < n->ok i=true)/\o=.done (n:Int))\/(∃ i,i < n/\ok i=false/\(∀ k,k < i->ok k=true)/\o=.ret (bad i))) (by
  rintro i s hi ⟨rfl,hk⟩
  by_cases h:i < n
  ·rw [hb i h]
   cases e:ok i with
   | true=>
    refine .inl ⟨_,rfl,⟨rfl,fun k hk'=>?_⟩,h⟩
    by_cases hki:k=i
    ·subst hki;exact e
    ·exact hk k (by omega)
   | false=>exact .inr ⟨_,rfl,(fun _ h=>by cases h),.inr ⟨i,h,e,hk,rfl⟩⟩
  ·have:i=n:=by omega
   subst this
   rw [he]
   exact .inr ⟨_,rfl,(fun _ h=>by cases h),.inl ⟨hk,rfl⟩⟩) n N 0 0 (by omega) ⟨rfl,fun k hk=>by omega⟩ hN
 rcases hR with ⟨h1,rfl⟩ | ⟨i,h1,h2,h3,rfl⟩
 ·exact .inl ⟨h1,ho⟩
 ·exact .inr ⟨i,h1,h2,h3,ho⟩
theorem UB (i:Nat) (h:i < 4611686018427387904) (h0:0 < i):W64 ((i:Int) - 1)=((i - 1:Nat):Int):=by
 rw [DO (by omega) (by omega)];omega
section
open Go.Lib (decDigits)
theorem Qu (s:VW):(s !=[])= !decide (s=[]):=by
 cases s <;> rfl
def jn (l:List VW):VW:=Go.Lib.join l [32]
theorem Uf:jn []=[]:=rfl
theorem Ue (x:VW):jn [x]=x:=Go.Lib.join_one x [32]
section
variable {N : Nat}
theorem UN (a b:VW) (hN:4294967300 < N):EZ N [a,b]=some (if a=[] then b else a):=by
 obtain ⟨M,rfl⟩:∃ M,N=M + 3:=⟨N - 3,by omega⟩
 unfold EZ
 by_cases ha:a=[]
 ·rw [if_pos ha]
  by_cases hb:b=[]
  ·subst ha;subst hb;rfl
  ·have e1:CH (M + 3) [a,b] 0=some (.next 1):=by subst ha;rfl
   have e2:CH (M + 3) [a,b] 1=some (.ret b):=by
    show (bif (b !=([]:VW)) then some (.ret b) else some (.next (W64 (1 + 1))))=some (Br.ret b)
    rw [Qu,decide_eq_false hb];rfl
   rw [AV,e1]
   simp only
   rw [AV,e2]
   rfl
 ·rw [if_neg ha]
  have e1:CH (M + 3) [a,b] 0=some (.ret a):=by
   show (bif (a !=([]:VW)) then some (.ret a) else some (.next (W64 (0 + 1))))=some (Br.ret a)
   rw [Qu,decide_eq_false ha];rfl
  rw [AV,e1]
  rfl
theorem La {l:List AQ} {p:AQ->Option Bool} (F:AQ->Bool) (hp:∀ x,x∈l->p x=some (F x)) (hl:l.length < 4000000000) (hN:4294967300 < N):A1 N l p=some (l.any F):=by
 unfold A1 Bv
 rcases OZ (body:=AN N l p) (n:=l.length) (fun i=>!((l[i]?.map F).getD false)) (fun i=>(i:Int)) (by
   intro i hi
   unfold AN
   rw [EH hi,cT,Ba hi,oS,hp _ (List.getElem_mem hi),oS,Gr i (by omega),List.getElem?_eq_getElem hi]
   simp only [Option.map_some,Option.getD_some]
   cases F l[i] <;> rfl) (by
   unfold AN
   rw [Fp,cF]) (N:=N) (by omega) with ⟨g1,g2⟩ | ⟨i,hi,g1,_,g2⟩
 ·rw [g2]
  have:l.any F=false:=by
   rw [List.any_eq_false]
   intro x hx
   obtain ⟨i,hi,rfl⟩:=List.getElem_of_mem hx
   have:=g1 i hi
   rw [List.getElem?_eq_getElem hi] at this
   simpa using this
  rw [this];rfl
 ·rw [g2]
  have:l.any F=true:=by
   rw [List.any_eq_true]
   rw [List.getElem?_eq_getElem hi] at g1
   exact ⟨l[i],List.getElem_mem hi,by simpa using g1⟩
  rw [this]
  show some (decide ((i:Int)>=0))=some true
  rw [decide_eq_true (by omega)]
def PZ (h:Bool) (n m:Int):Bool:=bif h then (decide (1<=n)&&decide (n<=m)) else n==0
def Ej (L:Ac) (E:Ad):Bool:=PZ L.Report E.Report 599&&(PZ L.Serial E.Serial 99999&&PZ L.Zone E.Zone 99)
theorem T6 (P:AQ):B5 N P=some (!PZ P.has_ P.n_ P.most_):=by
 unfold B5 PZ
 rw [Mn,oS]
 obtain ⟨h,n,m,d⟩:=P
 simp only
 cases h with
 | true=>cases (decide (1<=n)&&decide (n<=m)) <;> rfl
 | false=>
  by_cases hn:n=0
  ·subst hn
   rw [show (decide ((1:Int)<=0)&&decide (0<=m))=false by rw [decide_eq_false (by omega)];rfl]
   rfl
  ·have e1:(n !=0)=true:=by simpa using hn
   have e2:(n==0)=false:=by simpa using hn
   rw [e1,e2]
   cases (decide (1<=n)&&decide (n<=m)) <;> rfl
theorem HI (L:Ac) (E:Ad) (hN:4294967300 < N):B1 N L E=some (Ej L E):=by
 unfold B1
 unfold CK
 rw [oS,La (fun P=>!PZ P.has_ P.n_ P.most_) (fun x _=>T6 x) (by simp) hN,oS]
 unfold Ej
 simp
def fs (L:Ac) (E:Ad):List VW:=(if L.Report=true then [dP 1 E.Report.toNat] else [])++((if L.Serial=true then [dP 3 E.Serial.toNat] else [])++(if L.Zone=true then [dP 2 E.Zone.toNat] else []))
def TO (L:Ac) (E:Ad):VW:=if fs L E=[] then [45] else jn (fs L E)
def Mi (L:Ac) (E:Ad):VW×Int:=if Ej L E=true then (TO L E,0) else ([],1)
structure OkE (L:Ac) (E:Ad):Prop where
 r:if L.Report=true then 1<=E.Report/\E.Report<=599 else E.Report=0
 s:if L.Serial=true then 1<=E.Serial/\E.Serial<=99999 else E.Serial=0
 z:if L.Zone=true then 1<=E.Zone/\E.Zone<=99 else E.Zone=0
theorem okE {L:Ac} {E:Ad} (h:Ej L E=true):OkE L E:=by
 unfold Ej PZ at h
 simp only [Bool.and_eq_true] at h
 obtain ⟨h1,h2,h3⟩:=h
 constructor
 ·cases hL:L.Report <;> rw [hL] at h1 <;> simpa using h1
 ·cases hL:L.Serial <;> rw [hL] at h2 <;> simpa using h2
 ·cases hL:L.Zone <;> rw [hL] at h3 <;> simpa using h3
theorem OkE.le {L:Ac} {E:Ad} (h:OkE L E):(0<=E.Report/\E.Report<=599)/\(0<=E.Serial/\E.Serial<=99999)/\0<=E.Zone/\E.Zone<=99:=by
 obtain ⟨h1,h2,h3⟩:=h
 refine ⟨?_,?_,?_⟩
 ·split at h1 <;> omega
 ·split at h2 <;> omega
 ·split at h3 <;> omega
theorem QC {L:Ac} {E:Ad} (h:OkE L E):∀ w,w∈fs L E->w.length<=5/\w.all isD=true/\1<=w.length:=by
 obtain ⟨h1,h2,h3⟩:=h.le
 intro w hw
 unfold fs at hw
 simp only [List.mem_append] at hw
 have l1:=JV (k:=1) (j:=2) (u:=E.Report.toNat) (by omega)
 have l2:=JV (k:=3) (j:=4) (u:=E.Serial.toNat) (by omega)
 have l3:=JV (k:=2) (j:=1) (u:=E.Zone.toNat) (by omega)
 rcases hw with hw | hw | hw
 ·split at hw
  ·simp at hw;subst hw;exact ⟨by omega,P6 _ _,(Oe _ _).2⟩
  ·cases hw
 ·split at hw
  ·simp at hw;subst hw;exact ⟨by omega,P6 _ _,(Oe _ _).2⟩
  ·cases hw
 ·split at hw
  ·simp at hw;subst hw;exact ⟨by omega,P6 _ _,(Oe _ _).2⟩
  ·cases hw
theorem Sv (L:Ac) (E:Ad):(fs L E).length<=3:=by
 unfold fs
 split <;> split <;> split <;> simp
theorem Sm:∀ l:List VW,(∀ w,w∈l->w.length<=5)->(jn l).length<=l.length * 6
 | [],_=>by simp [Uf]
 | [x],h=>by rw [Ue];have:=h x (by simp);simp;omega
 | x::y::r,h=>by
  have ih:=Sm (y::r) (fun w hw=>h w (List.mem_cons_of_mem _ hw))
  have hx:=h x (by simp)
  have:jn (x::y::r)=x++32::jn (y::r):=by
   unfold jn
   rw [Go.Lib.join_cons,Go.Lib.join_cons]
   unfold Go.Lib.joinTail
   simp
  rw [this,List.length_append,List.length_cons,List.length_cons (a:=x)]
  omega
theorem UZ {L:Ac} {E:Ad} (h:OkE L E):(jn (fs L E)).length<=18:=by
 have:=Sm (fs L E) (fun w hw=>(QC h w hw).1)
 have:=Sv L E
 omega
theorem UQ {l:List VW} (h:∀ w,w∈l->1<=w.length):jn l=[] ↔ l=[]:=by
 constructor
 ·intro hj
  match l,h,hj with
  | [],_,_=>rfl
  | x::r,h,hj=>
   exfalso
   unfold jn at hj
   rw [Go.Lib.join_cons] at hj
   have:=h x (by simp)
   rw [List.append_eq_nil_iff] at hj
   rw [hj.1] at this
   exact absurd this (by decide)
 ·rintro rfl;rfl
theorem T3 {n:Int} {k:Nat} (h0:0<=n) (h1:n<=1000000000) (hk:k<=100):BR N n (k:Int)=some (dP k n.toNat):=by
 obtain ⟨u,rfl⟩:∃ u:Nat,n=u:=⟨n.toNat,by omega⟩
 exact Mo u k (by omega) hk
def O6 (L:Ac) (E:Ad) (i:Nat):List VW:=if i=0 then (if L.Report=true then [dP 1 E.Report.toNat] else []) else if i=1 then (if L.Serial=true then [dP 3 E.Serial.toNat] else []) else (if L.Zone=true then [dP 2 E.Zone.toNat] else [])
theorem Ul (L:Ac) (E:Ad):cat 3 (O6 L E)=fs L E:=by
 rw [Ie,Ie,Ie]
 unfold fs
 rw [<-List.append_assoc]
 rfl
theorem Sx (L:Ac) (E:Ad) (i:Nat):(O6 L E i).length<=1:=by
 unfold O6
 split
 ·split <;> simp
 ·split <;> split <;> simp
theorem RL (L:Ac) (E:Ad) (hN:4294967300 < N):BI N L E=some (Mi L E):=by
 unfold BI Mi
 rw [HI L E hN,oS]
 cases hv:Ej L E with
 | false=>rfl
 | true=>
  have ok:=okE hv
  obtain ⟨h1,h2,h3⟩:=ok.le
  rw [Bool.not_true,cF,if_pos rfl]
  unfold CK
  rw [oS]
  generalize hP:([_,_,_]:List AQ)=P
  have hstep:∀ (i:Nat) (s:List VW),i < 3->s.length + 1<=0 + 3 * 1->BW N L E true P (s,(i:Int))=some (.next (s++O6 L E i,((i + 1:Nat):Int))):=by
   intro i s hi hs
   have p1:BR N E.Report 1=some (dP 1 E.Report.toNat):=T3 (k:=1) h1.1 (by omega) (by omega)
   have p2:BR N E.Serial 3=some (dP 3 E.Serial.toNat):=T3 (k:=3) h2.1 (by omega) (by omega)
   have p3:BR N E.Zone 2=some (dP 2 E.Zone.toNat):=T3 (k:=2) h3.1 (by omega) (by omega)
   have ha:∀ w:VW,Ci s [w]=some (s++[w]):=fun w=>TL (by simp;omega)
   unfold BW
   subst hP
   simp only
   rw [Gr i (by omega)]
   match i,hi with
   | 0,_=>
    show ((bif L.Report then ((BR N E.Report 1).bind fun h0=>((Ci s [h0]).bind fun h4=>some h4)) else some s).bind fun h5=>some (Br.next (h5,_)))=_
    rw [p1,oS,ha]
    unfold O6
    cases L.Report <;> simp
   | 1,_=>
    show ((bif L.Serial then ((BR N E.Serial 3).bind fun h0=>((Ci s [h0]).bind fun h4=>some h4)) else some s).bind fun h5=>some (Br.next (h5,_)))=_
    rw [p2,oS,ha]
    unfold O6
    cases L.Serial <;> simp
   | 2,_=>
    show ((bif L.Zone then ((BR N E.Zone 2).bind fun h0=>((Ci s [h0]).bind fun h4=>some h4)) else some s).bind fun h5=>some (Br.next (h5,_)))=_
    rw [p3,oS,ha]
    unfold O6
    cases L.Zone <;> simp
  have hend:∀ s:List VW,BW N L E true P (s,((3:Nat):Int))=some (.done (s,((3:Nat):Int))):=by
   intro s
   subst hP
   rfl
  rw [Ri (n:=3) 1 (O6 L E) (fun i _=>Sx L E i) (s0:=[]) hstep hend (by omega),Ul]
  simp only [List.nil_append,oS,Br.k]
  have hj:=UZ ok
  have hl:=Sv L E
  have e1:strings_Join N (fs L E) [32]=some (jn (fs L E)):=by
   unfold strings_Join
   exact if_pos ⟨by omega,by unfold jn at hj;omega⟩
  rw [e1,oS,UN _ _ hN,oS]
  unfold TO
  have:=UQ (fun w hw=>(QC ok w hw).2.2)
  by_cases hf:fs L E=[]
  ·rw [if_pos hf,if_pos (this.2 hf)]
  ·rw [if_neg hf,if_neg (fun h=>hf (this.1 h))]
def HG (h:Bool) (ws:List VW):List VW×Int:=match h,ws with
 | true,w::r=>(r,Tk w)
 | _,_=>(ws,0)
def Km (L:Ac) (ws:List VW):Ad:={Report:=(HG L.Report ws).2,Serial:=(HG L.Serial (HG L.Report ws).1).2,Zone:=(HG L.Zone (HG L.Serial (HG L.Report ws).1).1).2}
def PP (L:Ac) (s:VW):Ad×Int:=if Mi L (Km L (pcs 32 s))=(s,0) then (Km L (pcs 32 s),0) else ({Report:=0,Serial:=0,Zone:=0},1)
theorem Nk (h:Bool) (ws:List VW):∀ w,w∈(HG h ws).1->w∈ws:=by
 intro w hw
 match h,ws,hw with
 | true,x::r,hw=>exact List.mem_cons_of_mem _ hw
 | true,[],hw=>exact hw
 | false,_,hw=>exact hw
theorem L1 (h:Bool) (ws:List VW) (hl:∀ w,w∈ws->w.length < N):(bif (h&&decide ((ws.length:Int) > 0)) then ((idx ws 0).bind fun h0=>((Cf N h0).bind fun h1=>((sub ws 1 (ws.length:Int)).bind fun h2=>some (h2,h1)))) else some (ws,(0:Int)))=some (HG h ws):=by
 match h,ws,hl with
 | false,_,_=>rfl
 | true,[],_=>rfl
 | true,w::r,hl=>
  have e0:idx (w::r) 0=some w:=rfl
  have e1:sub (w::r) 1 ((w::r).length:Int)=some r:=by
   unfold sub
   rw [if_pos ⟨by omega,by simp only [List.length_cons];omega,by omega⟩]
   simp
  rw [decide_eq_true (by simp only [List.length_cons];omega),e0,e1,oS,Mp (hl w (by simp))]
  rfl
theorem RM (L:Ac) (s:VW) (hs:s.length < 4294967281) (hN:4294967300 < N):D8 N L s=some (PP L s):=by
 unfold D8 PP
 rw [Qx 32 hs,oS]
 have hle:=PO 32 s
 generalize pcs 32 s=ws at hle
 have hn:∀ w,w∈ws->w.length < N:=fun w hw=>by have:=hle w hw;omega
 have c0:∀ (E:Ad) (b:Bool),((CK N L E).bind fun h0=>((idx h0 0).bind fun h1=>(bif h1.has_ then some b else some false)))=some (L.Report&&b):=by
  intro E b
  show (bif L.Report then some b else some false)=_
  cases L.Report <;> rfl
 have c1:∀ (E:Ad) (b:Bool),((CK N L E).bind fun h0=>((idx h0 1).bind fun h1=>(bif h1.has_ then some b else some false)))=some (L.Serial&&b):=by
  intro E b
  show (bif L.Serial then some b else some false)=_
  cases L.Serial <;> rfl
 have c2:∀ (E:Ad) (b:Bool),((CK N L E).bind fun h0=>((idx h0 2).bind fun h1=>(bif h1.has_ then some b else some false)))=some (L.Zone&&b):=by
  intro E b
  show (bif L.Zone then some b else some false)=_
  cases L.Zone <;> rfl
 rw [c0,oS,L1 L.Report ws hn,oS,c1,oS]
 have h2:∀ w,w∈(HG L.Report ws).1->w.length < N:=fun w hw=>hn w (Nk _ _ w hw)
 rw [L1 L.Serial _ h2,oS,c2,oS]
 have h3:∀ w,w∈(HG L.Serial (HG L.Report ws).1).1->w.length < N:=fun w hw=>h2 w (Nk _ _ w hw)
 rw [L1 L.Zone _ h3,oS]
 show ((BI N L (Km L ws)).bind _)=_
 rw [RL L _ hN,oS,R4]
 show (bif (!decide (Mi L (Km L ws)=(s,0))) then _ else some (Km L ws,(0:Int)))=_
 by_cases h:Mi L (Km L ws)=(s,0)
 ·rw [decide_eq_true h,if_pos h];rfl
 ·rw [decide_eq_false h,if_neg h];rfl
end
end
def Kg (s:VW):Bool:=(callB s).isSome
section
variable {N : Nat}
theorem S0 (s:VW) (hN:4294967300 < N):FR N s=some (Kg s):=by
 unfold FR Kg
 rw [To s hN,oS]
 unfold Py
 cases callB s <;> rfl
end
def DV (_N:Nat) (s:VW):Option Bool:=some (Kg s)
theorem EM:Af Tryz.prog 79:=J3
theorem Fj (N:Nat) (w0:World) (F0:Mem) (hF:VY w0 F0) (hG:Bu F0) (x0:VW) (r:Bool) (h:DV N x0=some r):
  Calls Tryz.prog 79 ([(.string ⟨(x0).toArray⟩)]:List Value).toArray w0 (AF w0 F0 fun F' v=>v=(.bool r)):=by
 exact KE 9223372036854775808 w0 F0 hF hG x0 r ((S0 x0 (by decide)).trans h)
def GD (_N:Nat) (s:VW):Option (Int×Int):=if s.length < 4294967281 then some (PR s) else none
theorem Kz:Af Tryz.prog 96:=J4
theorem LK (N:Nat) (w0:World) (F0:Mem) (hF:VY w0 F0) (hG:Bu F0) (x0:VW) (r:(Int×Int)) (h:GD N x0=some r):
  Calls Tryz.prog 96 ([(.string ⟨(x0).toArray⟩)]:List Value).toArray w0 (AF w0 F0 fun F' v=>v=(.tuple #[(.int .i64 r.1),(.int .i64 r.2)])):=by
 unfold GD at h
 split at h
 ·rename_i hs
  exact KF 9223372036854775808 w0 F0 hF hG x0 r ((OE x0 hs (by decide)).trans h)
 ·cases h
def Dd (_N:Nat) (L:Ac) (s:VW):Option (Ad×Int):=if s.length < 4294967281 then some (PP L s) else none
theorem Bx:Af Tryz.prog 97:=HB
theorem BL (N:Nat) (w0:World) (F0:Mem) (hF:VY w0 F0) (hG:Bu F0) (x0:Ac) (x1:VW) (r:(Ad×Int)) (h:Dd N x0 x1=some r):
  Calls Tryz.prog 97 ([(.agg #[(.bool x0.Report),(.bool x0.Serial),(.bool x0.Zone)]),(.string ⟨(x1).toArray⟩)]:List Value).toArray w0 (AF w0 F0 fun F' v=>v=(.tuple #[(.agg #[(.int .i64 r.1.Report),(.int .i64 r.1.Serial),(.int .i64 r.1.Zone)]),(.int .i64 r.2)])):=by
 unfold Dd at h
 split at h
 ·rename_i hs
  exact Il 9223372036854775808 w0 F0 hF hG x0 x1 r ((RM x0 x1 hs (by decide)).trans h)
 ·cases h
section
open Go.Lib (decDigits)
def Ol (b:UInt8):Bool:=isL b||isD b||b==47
def FK (s:VW):Bool:=wiB s.length 1 16&&s.all Ol
def DI (o:Ac) (x:Line):Bool:=decide (1<=x.Num/\x.Num<=65535)&&(decide (1<=x.Khz/\x.Khz<=10000000)&&(decide (1<=x.Mode/\x.Mode<=3)&&(decide (0<=x.Minute/\x.Minute<=20000)&&(FK x.Call&&(Ej o x.Sent&&Ej o x.Got)))))
structure OkL (o:Ac) (x:Line):Prop where
 n:1<=x.Num/\x.Num<=65535
 k:1<=x.Khz/\x.Khz<=10000000
 m:1<=x.Mode/\x.Mode<=3
 t:0<=x.Minute/\x.Minute<=20000
 c:FK x.Call=true
 s:Ej o x.Sent=true
 g:Ej o x.Got=true
theorem Nj {o:Ac} {x:Line}:DI o x=true ↔ OkL o x:=by
 unfold DI
 simp only [Bool.and_eq_true,decide_eq_true_eq]
 exact ⟨fun ⟨a,b,c,d,e,f,g⟩=>⟨a,b,c,d,e,f,g⟩,fun h=>⟨h.n,h.k,h.m,h.t,h.c,h.s,h.g⟩⟩
def Vi (m:Int):VW:=if m=1 then [77] else if m=2 then [86] else [68]
def fsw (o:Ac) (E:Ad):List VW:=if fs o E=[] then [[45]] else fs o E
def tW (u:Nat):List VW:=[decDigits (u / 1440 + 1),dP 2 (u / 60 % 24)++dP 2 (u % 60)]
def QSO:VW:=[81,83,79]
def US (x:Line):List VW:=[QSO,decDigits x.Num.toNat,decDigits x.Khz.toNat,Vi x.Mode]++tW x.Minute.toNat++[x.Call,[62]]
def UO (o:Ac) (x:Line):List VW:=US x++(fsw o x.Sent++[60]::fsw o x.Got)
def UP (o:Ac) (x:Line):VW:=jn (UO o x)
theorem Mz {s:VW} (h:FK s=true):(32:UInt8)∉s/\s≠[60]/\s≠[62]/\1<=s.length/\s.length<=16:=by
 unfold FK wiB at h
 simp only [Bool.and_eq_true,decide_eq_true_eq] at h
 obtain ⟨⟨h1,h2⟩,h3⟩:=h
 rw [List.all_eq_true] at h3
 refine ⟨fun hm=>?_,?_,?_,h1,h2⟩
 ·have:=h3 _ hm;revert this;decide
 ·rintro rfl;have:=h3 60 (by simp);revert this;decide
 ·rintro rfl;have:=h3 62 (by simp);revert this;decide
end

section
open Go.Lib (decDigits)
def UA:VW:=[67,65,76,76]
def Vc:VW:=[67,65,84,69,71,79,82,89]
def U6:VW:=[80,79,87,69,82]
def U9:VW:=[67,76,65,73,77,69,68]
def U7:VW:=[74,85,77,80,83]
def U8:VW:=[69,78,68]
def Rl:List Int->Bool
 | []=>true
 | [_]=>true
 | a::b::r=>decide (a < b)&&Rl (b::r)
def Rh (l:List Int):Bool:=l.all (fun n=>decide (1<=n/\n<=20000))&&(Rl l&&decide (l.length<=16))
def hdW (l:Log) (k:Nat):List VW:=match k with
 | 0=>[UA,l.Call]
 | 1=>[Vc,decDigits l.Category.toNat]
 | 2=>[U6,decDigits l.Power.toNat]
 | 3=>[U9,decDigits l.Claimed.toNat]
 | _=>U7::l.Jumps.map fun n=>decDigits n.toNat
def hdT (l:Log) (k:Nat):VW:=jn (hdW l k)
def hdV (l:Log) (k:Nat):Bool:=match k with
 | 0=>Kg l.Call
 | 1=>decide (1<=l.Category/\l.Category<=9)
 | 2=>decide (1<=l.Power/\l.Power<=9999)
 | 3=>decide (0<=l.Claimed/\l.Claimed<=1000000)
 | _=>Rh l.Jumps
end
end Go.Proofs.YthljkpeimofbbaaGreatDoor
