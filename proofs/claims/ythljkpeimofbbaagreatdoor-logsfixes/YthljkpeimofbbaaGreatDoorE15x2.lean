/- Lemmas, printed by a program and by hand; no statement is proved here. -/
import Derived.Test.YthljkpeimofbbaaGreatDoorE15x1
set_option linter.unusedVariables false
set_option linter.unusedSimpArgs false
set_option linter.unusedSectionVars false
set_option maxHeartbeats 4000000
set_option maxRecDepth 100000
namespace Go.Proofs.YthljkpeimofbbaaGreatDoor
open Go.Lib (decDigits)
def ups(g:Fr)(d:List Deferred):List (Nat×Value)->Fr
 | []=>⟨g.v,d⟩
 | (i,v)::l=>upd (ups g d l) i v
def FI(f:Fr)(d:List Deferred)(l:List (Nat×Value)):Prop:=∃ g,f=ups g d l
theorem TG{f:Fr}{i:Nat}{v:Value}(h:f i=v):upd f i v=f:=by
 subst h;cases f with
 | mk fv fd=>
  simp only[upd,Fr.mk.injEq,and_true];funext j;cases hb:Nat.beq j i with
  | false=>rfl
  | true=>rw[xK hb];rfl
def Eqs(f:Fr):List (Nat×Value)->Prop
 | []=>True
 | (i,v)::l=>f i=v/\Eqs f l
theorem NH{f:Fr}{d:List Deferred}(hd:f.d=d):∀{l:List (Nat×Value)},Eqs f l->f=ups f d l
 | [],_=>by subst hd;rfl
 | (i,v)::l,h=>by
  show f=upd (ups f d l) i v;rw[<-NH hd h.2];exact(TG h.1).symm
theorem Ux{f:Fr}:∀{l:List (Nat×Value)},l.map (fun p=>f p.1)=l.map (·.2)->Eqs f l
 | [],_=>trivial
 | (i,v)::l,h=>by
  simp only[yY,List.cons.injEq]at h;exact⟨h.1,Ux h.2⟩
theorem kq{α:Type}{a:α}(b:α){c:α}(h:b=c)(k:a=b:=by kernel_rfl):a=c:=k.trans h
theorem fI{f:Fr}{d:List Deferred}{l:List (Nat×Value)}(h:l.map (fun p=>f p.1)=l.map (·.2):=by kernel_rfl)(hd:f.d=d:=by kernel_rfl):FI f d l:=⟨f,NH hd (Ux h)⟩
theorem fJ{f:Fr}{d:List Deferred}{l:List (Nat×Value)}(h:Eqs f l)(hd:f.d=d:=by kernel_rfl):FI f d l:=⟨f,NH hd h⟩
def pkC:Op->Operand | .pick c _ _=>c | _=>.tmp 0
def pkA:Op->Operand | .pick _ a _=>a | _=>.tmp 0
def pkB:Op->Operand | .pick _ _ b=>b | _=>.tmp 0
def Tp:Op->Bool | .pick _ _ _=>true | _=>false
theorem JW{op:Op}(h:Tp op=true):op=.pick (pkC op) (pkA op) (pkB op):=by cases op <;> simp_all [Tp,pkC,pkA,pkB]
def ldX:Op->Operand | .load _ x=>x | _=>.tmp 0
def ldT:Op->TypeId | .load t _=>t | _=>0
def Q5:Op->Bool | .load _ _=>true | _=>false
theorem GA{op:Op}(h:Q5 op=true):op=.load (ldT op) (ldX op):=by cases op <;> simp_all [Q5,ldX,ldT]
def pO:Value->Nat | .pointer (some ⟨_,o,_⟩)=>o | _=>0
def sB:Value->Nat | .slice (some ⟨b,_,_⟩) _ _=>b | _=>0
def sO:Value->Nat | .slice (some ⟨_,o,_⟩) _ _=>o | _=>0
def sC:Value->Nat | .slice _ _ c=>c | _=>0
def iK:Value->IntKind | .int k _=>k | _=>.i64
def ixX:Op->Operand | .indexAddr _ x _=>x | _=>.tmp 0
def ixY:Op->Operand | .indexAddr _ _ y=>y | _=>.tmp 0
def ixT:Op->TypeId | .indexAddr t _ _=>t | _=>0
def Q6:Op->Bool | .indexAddr _ _ _=>true | _=>false
theorem GB{op:Op}(h:Q6 op=true):op=.indexAddr (ixT op) (ixX op) (ixY op):=by cases op <;> simp_all [Q6,ixT,ixX,ixY]
def stX:Op->Operand | .store _ x _=>x | _=>.tmp 0
def stY:Op->Operand | .store _ _ y=>y | _=>.tmp 0
def stT:Op->TypeId | .store t _ _=>t | _=>0
def IW:Op->Bool | .store _ _ _=>true | _=>false
theorem D9{op:Op}(h:IW op=true):op=.store (stT op) (stX op) (stY op):=by cases op <;> simp_all [IW,stT,stX,stY]
def VJ(t:TypeId):Op->Bool | .alloc t'=>Nat.beq t t' | _=>false
theorem Pu{t:TypeId}{op:Op}(h:VJ t op=true):op=.alloc t:=by
 cases op <;> simp only[VJ,xR]at h;rw[xK h]
def bxX:Op->Operand | .box _ x=>x | _=>.tmp 0
def VI(t:TypeId):Op->Bool | .box t' _=>Nat.beq t t' | _=>false
theorem Pt{t:TypeId}{op:Op}(h:VI t op=true):op=.box t (bxX op):=by
 cases op <;> simp only[VI,xR]at h;rw[xK h];rfl
def bsV(P:Program)(f:Fr):Op->Option (TypeId×List Value) | .buildSlice t len parts=>LX P t len (parts.toList.map fun p=>(p.1,fev f p.2)) | _=>none
def bsL:Op->Nat | .buildSlice _ len _=>len | _=>0
def clV(f:Fr):Op->Option (FuncId×List Value)
 | .call c=>(match c.callee with
  | .value f0=>(match fev f f0 with
   | .func (.func g) fi ca=>some (g,fi.toList++c.args.toList.map (fev f)++ca.toList)
   | _=>none)
  | _=>none)
 | _=>none
theorem LL{P:Program}{w:World}{f:Fr}{op:Op}{ty:TypeId}{g:FuncId}{args:List Value}(h:clV f op=some (g,args))(hok:Ag P g):(Am (fev f) op ty).run P w=.ok (.enter g args.toArray) w:=by
 unfold clV at h;split at h
 ·rename_i c;obtain⟨callee,aos,ats⟩:=c;simp only at h;split at h
  ·split at h
   ·rename_i hf;simp only[xI,Prod.mk.injEq]at h;obtain⟨rfl,rfl⟩:=h;exact Ek hf hok rfl
   ·cases h
  ·cases h
 ·cases h
section
variable {P:Program} {ro:Option Nat} {n:Nat} {R:Array Oper} {Q:Exit -> Fr -> World -> Prop} {i:Nat} {rest:List Nat} {f:Fr} {w w' w0:World} {F0 F:Mem} {L:List (Option Nat × Obj)}
theorem RWP.valU{v:Value}(ho:ung R i=true)(hy:(Am (fev f) (Aj R i) (Gl R i)).run P w=.ok (.value v) w')(k:RWP P ro n R Q rest (A1 f (A8 R i) v) w'):RWP P ro n R Q (i::rest) f w:=XF (Bb ho) rfl hy k
theorem Pk1{t:Bool}(ht:t=true)(k:RWP P ro n R Q rest (A1 f (A8 R i) (fev f (pkA (Aj R i)))) w)(hc:fev f (pkC (Aj R i))=.bool t:=by kernel_rfl)(ho:(ung R i&&Tp (Aj R i))=true:=by kernel_rfl):RWP P ro n R Q (i::rest) f w:=by
 simp only[xA]at ho;refine RWP.valU ho.1 ?_ k;have:=JW ho.2;rw[this]at hc ⊢;exact L4 hc ht rfl
theorem Pk0{t:Bool}(ht:t=false)(k:RWP P ro n R Q rest (A1 f (A8 R i) (fev f (pkB (Aj R i)))) w)(hc:fev f (pkC (Aj R i))=.bool t:=by kernel_rfl)(ho:(ung R i&&Tp (Aj R i))=true:=by kernel_rfl):RWP P ro n R Q (i::rest) f w:=by
 simp only[xA]at ho;refine RWP.valU ho.1 ?_ k;have:=JW ho.2;rw[this]at hc ⊢;exact L5 hc ht rfl
def ldV(P:Program)(t:TypeId)(C:Array Value)(o:Nat):Value:=match Ef P t with | some (g,s)=>mkV g (Ap C o s) | none=>undef
def ldK(P:Program)(t:TypeId)(C:Array Value)(o:Nat):Bool:=match Ef P t with | some (g,s)=>Nat.beq (Ap C o s).length s&&(g||s==1) | none=>false
theorem RP{ρ:Operand->Value}{t ty:TypeId}{x:Operand}{b o:Nat}{C:Array Value}{E:TypeId}{fz:Nat×Nat}(hx:ρ x=.pointer (some ⟨b,o,none⟩))(hp:w.heap[b]? =some (.cells C E fz))(hk:ldK P t C o=true):
  (Am ρ (.load t x) ty).run P w=.ok (.value (ldV P t C o)) w:=by
 unfold ldK at hk;unfold ldV;split at hk
 ·rename_i g s ht;simp only[xA]at hk;exact BM hx ht hp (xK hk.1) hk.2 rfl
 ·cases hk
theorem Ld{b:Nat}{C:Array Value}{E:TypeId}{fz:Nat×Nat}(hp:w.heap[b]? =some (.cells C E fz))(k:RWP P ro n R Q rest (A1 f (A8 R i) (ldV P (ldT (Aj R i)) C (pO (fev f (ldX (Aj R i)))))) w)
  (hx:fev f (ldX (Aj R i))=.pointer (some ⟨b,pO (fev f (ldX (Aj R i))),none⟩):=by kernel_rfl) (ho:(ung R i&&(Q5 (Aj R i)&&ldK P (ldT (Aj R i)) C (pO (fev f (ldX (Aj R i))))))=true:=by kernel_rfl):RWP P ro n R Q (i::rest) f w:=by
 simp only[xA]at ho;refine RWP.valU ho.1 ?_ k;have:=GA ho.2.1;rw[this];exact RP hx hp ho.2.2
def lxV(P:Program)(t:TypeId)(cs:List Value)(j:Nat):Value:=match Ef P t with | some (g,s)=>mkV g ((cs.drop j).take s) | none=>undef
def lxK(P:Program)(t:TypeId)(cs:List Value)(j kk:Nat):Bool:=match Ef P t with | some (g,s)=>decide (j + s<=kk)&&(Nat.beq ((cs.drop j).take s).length s&&(g||s==1)) | none=>false
theorem RN{ρ:Operand->Value}{t ty:TypeId}{x:Operand}{j b o kk:Nat}{C:Array Value}{E:TypeId}{fz:Nat×Nat}{cs:List Value}(hx:ρ x=.pointer (some ⟨b,o + j,none⟩))(hp:w.heap[b]? =some (.cells C E fz))(hc:Ap C o kk=cs)(hk:lxK P t cs j kk=true):
  (Am ρ (.load t x) ty).run P w=.ok (.value (lxV P t cs j)) w:=by
 unfold lxK at hk;unfold lxV;split at hk
 ·rename_i g s ht;simp only[xA]at hk;exact Fq hx ht hp hc hk.1 ⟨xK hk.2.1,trivial⟩ hk.2.2 rfl
 ·cases hk
theorem Lx(j:Nat){b o kk:Nat}{C:Array Value}{E:TypeId}{fz:Nat×Nat}{cs:List Value}(hp:w.heap[b]? =some (.cells C E fz))(hc:Ap C o kk=cs)(k:RWP P ro n R Q rest (A1 f (A8 R i) (lxV P (ldT (Aj R i)) cs j)) w)
  (hx:fev f (ldX (Aj R i))=.pointer (some ⟨b,o + j,none⟩):=by kernel_rfl) (ho:(ung R i&&(Q5 (Aj R i)&&lxK P (ldT (Aj R i)) cs j kk))=true:=by kernel_rfl):RWP P ro n R Q (i::rest) f w:=by
 simp only[xA]at ho;refine RWP.valU ho.1 ?_ k;have:=GA ho.2.1;rw[this];exact RN hx hp hc ho.2.2
def elS(P:Program)(t:TypeId):Nat:=match A2 P t with | some (_,s,_)=>s | none=>0
theorem Ix{m:Nat}{y:Int}(hi:0<=y/\y < (m:Int))(k:RWP P ro n R Q rest (A1 f (A8 R i) (.pointer (some ⟨sB (fev f (ixX (Aj R i))),sO (fev f (ixX (Aj R i))) + y.toNat * elS P (ixT (Aj R i)),none⟩))) w)
  (hx:fev f (ixX (Aj R i))=.slice (some ⟨sB (fev f (ixX (Aj R i))),sO (fev f (ixX (Aj R i))),none⟩) m (sC (fev f (ixX (Aj R i)))):=by kernel_rfl) (hy:fev f (ixY (Aj R i))=.int (iK (fev f (ixY (Aj R i)))) y:=by kernel_rfl)
  (ho:(ung R i&&(Q6 (Aj R i)&&slQ P (ixT (Aj R i))))=true:=by kernel_rfl):RWP P ro n R Q (i::rest) f w:=by
 simp only[xA]at ho;obtain⟨I,J,G⟩:=ho;refine RWP.valU I ?_ k;unfold slQ at G;split at G
 ·rename_i q hq;obtain⟨E,s,by_⟩:=q;have es:elS P (ixT (Aj R i))=s:=by simp[elS,hq]
  rw[es];have e:=GB J;have:=BN (P:=P) (w:=w) (ty:=Gl R i) hx hy hq hi;rw[<-e]at this;exact this
 ·cases G
theorem Ix0{m:Nat}{y:Int}(hi:0<=y/\y < (m:Int))(k:RWP P ro n R Q rest (A1 f (A8 R i) (.pointer (some ⟨sB (fev f (ixX (Aj R i))),y.toNat * elS P (ixT (Aj R i)),none⟩))) w)
  (hx:fev f (ixX (Aj R i))=.slice (some ⟨sB (fev f (ixX (Aj R i))),0,none⟩) m (sC (fev f (ixX (Aj R i)))):=by kernel_rfl) (hy:fev f (ixY (Aj R i))=.int (iK (fev f (ixY (Aj R i)))) y:=by kernel_rfl)
  (ho:(ung R i&&(Q6 (Aj R i)&&slQ P (ixT (Aj R i))))=true:=by kernel_rfl):RWP P ro n R Q (i::rest) f w:=by
 simp only[xA]at ho;obtain⟨I,J,G⟩:=ho;refine RWP.valU I ?_ k;unfold slQ at G;split at G
 ·rename_i q hq;obtain⟨E,s,by_⟩:=q;have es:elS P (ixT (Aj R i))=s:=by simp[elS,hq]
  rw[es];have e:=GB J;have:=Da (P:=P) (w:=w) (ty:=Gl R i) hx hy hq hi;rw[<-e]at this;exact this
 ·cases G
theorem TT{ρ:Operand->Value}{t ty:TypeId}{x y:Operand}{m:Nat}{q:Int}(hi:0<=q/\q < (m:Int))(hx:ρ x=.slice (some ⟨sB (ρ x),sO (ρ x),none⟩) m (sC (ρ x)))(hy:ρ y=.int (iK (ρ y)) q)(G:slQ P t=true):
  (Am ρ (.indexAddr t x y) ty).run P w=.ok (.value (.pointer (some ⟨sB (ρ x),sO (ρ x) + q.toNat * elS P t,none⟩))) w:=by
 unfold slQ at G;split at G
 ·rename_i a hq;obtain⟨E,s,by_⟩:=a;have es:elS P t=s:=by simp[elS,hq]
  rw[es];exact BN hx hy hq hi
 ·cases G
theorem Sr{t ty:TypeId}{x y:Operand}{m:Nat}{q:Int}(hi:0<=q/\q < (m:Int))(hx:fev f x=.slice (some ⟨sB (fev f x),0,none⟩) m (sC (fev f x)))(hy:fev f y=.int (iK (fev f y)) q)(G:slQ P t=true):
  (Am (fev f) (.indexAddr t x y) ty).run P w=.ok (.value (.pointer (some ⟨sB (fev f x),q.toNat * elS P t,none⟩))) w:=by
 unfold slQ at G;split at G
 ·rename_i a hq;obtain⟨E,s,by_⟩:=a;have es:elS P t=s:=by simp[elS,hq]
  rw[es];exact Da hx hy hq hi
 ·cases G
theorem RWP.valG{gb' gc:Bool}(hg:gc=gb'){v:Value}(hy:(Am (fev f) (Aj R i) (Gl R i)).run P w=.ok (.value v) w')(k:RWP P ro n R Q rest (A1 f (A8 R i) v) w')
  (G:NI R (gj R [i]) gb' i=true) (hj:FV R (gj R [i])=some (gq R [i])) (hf:f (gq R [i])=.bool gc):RWP P ro n R Q (i::rest) f w:=by
 rcases NY G with e | e
 ·exact XF e rfl hy k
 ·exact XF e (Hp hj hf hg) hy k
theorem Pg1{gb' gc:Bool}(hg:gc=gb'){t:Bool}(ht:t=true)(k:RWP P ro n R Q rest (A1 f (A8 R i) (fev f (pkA (Aj R i)))) w)(hc:fev f (pkC (Aj R i))=.bool t:=by kernel_rfl)(ho:Tp (Aj R i)=true:=by kernel_rfl)
  (G:NI R (gj R [i]) gb' i=true:=by kernel_rfl) (hj:FV R (gj R [i])=some (gq R [i]):=by kernel_rfl) (hf:f (gq R [i])=.bool gc:=by kernel_rfl):RWP P ro n R Q (i::rest) f w:=by
 refine RWP.valG hg ?_ k G hj hf;have:=JW ho;rw[this]at hc ⊢;exact L4 hc ht rfl
theorem Pg0{gb' gc:Bool}(hg:gc=gb'){t:Bool}(ht:t=false)(k:RWP P ro n R Q rest (A1 f (A8 R i) (fev f (pkB (Aj R i)))) w)(hc:fev f (pkC (Aj R i))=.bool t:=by kernel_rfl)(ho:Tp (Aj R i)=true:=by kernel_rfl)
  (G:NI R (gj R [i]) gb' i=true:=by kernel_rfl) (hj:FV R (gj R [i])=some (gq R [i]):=by kernel_rfl) (hf:f (gq R [i])=.bool gc:=by kernel_rfl):RWP P ro n R Q (i::rest) f w:=by
 refine RWP.valG hg ?_ k G hj hf;have:=JW ho;rw[this]at hc ⊢;exact L5 hc ht rfl
theorem Lg{gb' gc:Bool}(hg:gc=gb'){b:Nat}{C:Array Value}{E:TypeId}{fz:Nat×Nat}(hp:w.heap[b]? =some (.cells C E fz))(k:RWP P ro n R Q rest (A1 f (A8 R i) (ldV P (ldT (Aj R i)) C (pO (fev f (ldX (Aj R i)))))) w)
  (hx:fev f (ldX (Aj R i))=.pointer (some ⟨b,pO (fev f (ldX (Aj R i))),none⟩):=by kernel_rfl) (ho:(Q5 (Aj R i)&&ldK P (ldT (Aj R i)) C (pO (fev f (ldX (Aj R i)))))=true:=by kernel_rfl)
  (G:NI R (gj R [i]) gb' i=true:=by kernel_rfl) (hj:FV R (gj R [i])=some (gq R [i]):=by kernel_rfl) (hf:f (gq R [i])=.bool gc:=by kernel_rfl):RWP P ro n R Q (i::rest) f w:=by
 simp only[xA]at ho;refine RWP.valG hg ?_ k G hj hf;have:=GA ho.1;rw[this];exact RP hx hp ho.2
theorem Lxg{gb' gc:Bool}(hg:gc=gb')(j:Nat){b o kk:Nat}{C:Array Value}{E:TypeId}{fz:Nat×Nat}{cs:List Value}(hp:w.heap[b]? =some (.cells C E fz))(hcs:Ap C o kk=cs)(k:RWP P ro n R Q rest (A1 f (A8 R i) (lxV P (ldT (Aj R i)) cs j)) w)
  (hx:fev f (ldX (Aj R i))=.pointer (some ⟨b,o + j,none⟩):=by kernel_rfl) (ho:(Q5 (Aj R i)&&lxK P (ldT (Aj R i)) cs j kk)=true:=by kernel_rfl)
  (G:NI R (gj R [i]) gb' i=true:=by kernel_rfl) (hj:FV R (gj R [i])=some (gq R [i]):=by kernel_rfl) (hf:f (gq R [i])=.bool gc:=by kernel_rfl):RWP P ro n R Q (i::rest) f w:=by
 simp only[xA]at ho;refine RWP.valG hg ?_ k G hj hf;have:=GA ho.1;rw[this];exact RN hx hp hcs ho.2
theorem Ixg{gb' gc:Bool}(hg:gc=gb'){m:Nat}{y:Int}(hi:0<=y/\y < (m:Int))(k:RWP P ro n R Q rest (A1 f (A8 R i) (.pointer (some ⟨sB (fev f (ixX (Aj R i))),sO (fev f (ixX (Aj R i))) + y.toNat * elS P (ixT (Aj R i)),none⟩))) w)
  (hx:fev f (ixX (Aj R i))=.slice (some ⟨sB (fev f (ixX (Aj R i))),sO (fev f (ixX (Aj R i))),none⟩) m (sC (fev f (ixX (Aj R i)))):=by kernel_rfl) (hy:fev f (ixY (Aj R i))=.int (iK (fev f (ixY (Aj R i)))) y:=by kernel_rfl)
  (ho:(Q6 (Aj R i)&&slQ P (ixT (Aj R i)))=true:=by kernel_rfl)
  (G:NI R (gj R [i]) gb' i=true:=by kernel_rfl) (hj:FV R (gj R [i])=some (gq R [i]):=by kernel_rfl) (hf:f (gq R [i])=.bool gc:=by kernel_rfl):RWP P ro n R Q (i::rest) f w:=by
 simp only[xA]at ho;refine RWP.valG hg ?_ k G hj hf;have e:=GB ho.1;have:=TT (P:=P) (w:=w) (ty:=Gl R i) hi hx hy ho.2;rw[<-e]at this;exact this
theorem Xy{gb' gc:Bool}(hg:gc=gb'){m:Nat}{y:Int}(hi:0<=y/\y < (m:Int))(k:RWP P ro n R Q rest (A1 f (A8 R i) (.pointer (some ⟨sB (fev f (ixX (Aj R i))),y.toNat * elS P (ixT (Aj R i)),none⟩))) w)
  (hx:fev f (ixX (Aj R i))=.slice (some ⟨sB (fev f (ixX (Aj R i))),0,none⟩) m (sC (fev f (ixX (Aj R i)))):=by kernel_rfl) (hy:fev f (ixY (Aj R i))=.int (iK (fev f (ixY (Aj R i)))) y:=by kernel_rfl)
  (ho:(Q6 (Aj R i)&&slQ P (ixT (Aj R i)))=true:=by kernel_rfl)
  (G:NI R (gj R [i]) gb' i=true:=by kernel_rfl) (hj:FV R (gj R [i])=some (gq R [i]):=by kernel_rfl) (hf:f (gq R [i])=.bool gc:=by kernel_rfl):RWP P ro n R Q (i::rest) f w:=by
 simp only[xA]at ho;refine RWP.valG hg ?_ k G hj hf;have e:=GB ho.1;have:=Sr (P:=P) (w:=w) (ty:=Gl R i) hi hx hy ho.2;rw[<-e]at this;exact this
theorem Al'(t:TypeId)(C:Array Value)(hs:HS w0 F0 w F L)(k:∀ b w',HS w0 F0 w' F ((some b,.cells C t (0,0))::L)->RWP P ro n R Q rest (A1 f (A8 R i) (.pointer (some ⟨b,0,none⟩))) w')
  (hC:(Bq P t).map Value.cells=some C:=by kernel_rfl) (ho:(ung R i&&VJ t (Aj R i))=true:=by kernel_rfl):RWP P ro n R Q (i::rest) f w:=by
 simp only[xA]at ho;cases hz:Bq P t with
 | none=>rw[hz]at hC;cases hC
 | some z=>
  rw[hz]at hC;simp only[wM,xI]at hC;have e:=Pu ho.2;have:=Bb ho.1;rw[e]at this;exact RWP.alloc this rfl hz hC hs k
theorem Bx'(t:TypeId)(C:Array Value)(hs:HS w0 F0 w F L)(k:∀ b w',HS w0 F0 w' F ((some b,.cells C t (0,0))::L)->RWP P ro n R Q rest (A1 f (A8 R i) (.pointer (some ⟨b,0,none⟩))) w')
  (hC:(fev f (bxX (Aj R i))).cells=C:=by kernel_rfl) (ho:(ung R i&&VI t (Aj R i))=true:=by kernel_rfl):RWP P ro n R Q (i::rest) f w:=by
 simp only[xA]at ho;have e:=Pt ho.2;have:=Bb ho.1;rw[e]at this;exact RWP.box this rfl rfl hC hs k
theorem Bs(E:TypeId)(cs:List Value)(hs:HS w0 F0 w F L)(k:∀ b w',HS w0 F0 w' F ((some b,.cells cs.toArray E (0,0))::L)->RWP P ro n R Q rest (A1 f (A8 R i) (.slice (some ⟨b,0,none⟩) (bsL (Aj R i)) (bsL (Aj R i)))) w')
  (hb:bsV P f (Aj R i)=some (E,cs):=by kernel_rfl) (ho:ung R i=true:=by kernel_rfl):RWP P ro n R Q (i::rest) f w:=by
 have:=Bb ho;cases e:Aj R i with
 | buildSlice t len parts=>
  rw[e]at hb this k;exact RWP.buildSlice this rfl rfl hb hs k
 | _=>rw[e]at hb;simp[bsV]at hb
def DA(P:Program)(t:TypeId)(v:Value)(o:Nat)(C:Array Value):Bool:=match Ef P t with | some (_,s)=>Nat.beq v.cells.size s&&(decide (o + s<=C.size)&&v.cells.toList.all (·.oneCell')) | none=>false
theorem Ic{ρ:Operand->Value}{t ty:TypeId}{x y:Operand}{b o:Nat}{C C':Array Value}{E:TypeId}(hx:ρ x=.pointer (some ⟨b,o,none⟩))(hp:w.heap[b]? =some (.cells C E (0,0)))(hk:DA P t (ρ y) o C=true)(hC:BE C o (ρ y).cells.toList=C'):
  (Am ρ (.store t x y) ty).run P w=.ok .skip (Ct w b (.cells C' E (0,0))):=by
 unfold DA at hk;split at hk
 ·rename_i g s ht;simp only[xA]at hk;exact KC hx rfl ht hp (xK hk.1) hk.2.1 hk.2.2 hC
 ·cases hk
theorem KX{b:Nat}{C C':Array Value}{E:TypeId}(hp:w.heap[b]? =some (.cells C E (0,0)))(k:RWP P ro n R Q rest f (Ct w b (.cells C' E (0,0))))
  (hx:fev f (stX (Aj R i))=.pointer (some ⟨b,pO (fev f (stX (Aj R i))),none⟩)) (hC:BE C (pO (fev f (stX (Aj R i)))) (fev f (stY (Aj R i))).cells.toList=C')
  (ho:(ung R i&&(IW (Aj R i)&&(DA P (stT (Aj R i)) (fev f (stY (Aj R i))) (pO (fev f (stX (Aj R i)))) C&&(match A8 R i with | none=>true | some _=>false))))=true):RWP P ro n R Q (i::rest) f w:=by
 simp only[xA]at ho;obtain⟨I,J,M,G⟩:=ho;have e:=D9 J;have:=Bb I;cases hd:A8 R i with
 | some d=>rw[hd]at G;cases G
 | none=>
  rw[hd]at this;refine RWP.unit this rfl ?_ k;rw[e];exact Ic hx hp M hC
theorem Cl'{fid:FuncId}{args:List Value}{post:Mem->Value->Prop}(hok:Ag P fid)(hs:HS w0 F0 w F L)(hc:Calls P fid args.toArray w (AD w F post))
  (k:∀ v F1 w1,HS w0 F0 w1 F1 L->XI F F1->post F1 v->RWP P ro n R Q rest (A1 f (A8 R i) v) w1) (ha:clV f (Aj R i)=some (fid,args):=by kernel_rfl) (ho:ung R i=true:=by kernel_rfl):RWP P ro n R Q (i::rest) f w:=by
 refine XG (Bb ho) rfl (LL ha hok) hc ?_;rintro e w' ⟨r,F',rfl,G,I⟩;exact k r F' w' (hs.call G) G.le I
theorem Cg{fid:FuncId}{args:List Value}{post:Mem->Value->Prop}{b c:Bool}(hg:c=b)(hok:Ag P fid)(hs:HS w0 F0 w F L)(hc:Calls P fid args.toArray w (AD w F post))
  (k:∀ v F1 w1,HS w0 F0 w1 F1 L->XI F F1->post F1 v->RWP P ro n R Q rest (A1 f (A8 R i) v) w1) (ha:clV f (Aj R i)=some (fid,args):=by kernel_rfl)
  (ho:NI R (gj R [i]) b i=true:=by kernel_rfl) (hj:FV R (gj R [i])=some (gq R [i]):=by kernel_rfl) (hf:f (gq R [i])=.bool c:=by kernel_rfl):RWP P ro n R Q (i::rest) f w:=by
 have hE:∀ e w',AD w F post e w'->match e with
   | .returned v=>RWP P ro n R Q rest (A1 f (A8 R i) v) w'
   | .panicked chain=>Q (.panic chain) f w'
   | .outgrown=>False:=by
  rintro e w' ⟨r,F',rfl,G,I⟩;exact k r F' w' (hs.call G) G.le I
 rcases NY ho with e | e
 ·exact XG e rfl (LL ha hok) hc hE
 ·exact XG e (Hp hj hf hg) (LL ha hok) hc hE
theorem CB{fid:FuncId}{args:List Value}{wb:World}{Fb:Mem}{post:Mem->Value->Own->Prop}(hok:Ag P fid)(hc:Calls P fid args.toArray w (Fh wb Fb F post))
  (k:∀ v F1 w1 L',HS wb Fb w1 F1 L'->XI F F1->post F1 v L'->RWP P ro n R Q rest (A1 f (A8 R i) v) w1) (ha:clV f (Aj R i)=some (fid,args):=by kernel_rfl) (ho:ung R i=true:=by kernel_rfl):RWP P ro n R Q (i::rest) f w:=by
 refine XG (Bb ho) rfl (LL ha hok) hc ?_;rintro e w' ⟨F',r,L',rfl,G,I,J⟩;exact k r F' w' L' G I J
def clQ(f:Fr):Op->Option (FuncId×List Value)
 | .call c=>(match c.callee with
  | .value f0=>(match fev f f0 with
   | .func (.func g) fi ca=>some (g,fi.toList++(c.args.toList.map (fev f)++ca.toList))
   | _=>none)
  | _=>none)
 | _=>none
theorem WJ(f:Fr)(op:Op):clQ f op=clV f op:=by
 unfold clQ clV;split <;> try rfl
 split <;> try rfl
 split <;> try rfl
 simp[xY]
theorem Cq{fid:FuncId}{args:List Value}{post:Mem->Value->Prop}(hok:Ag P fid)(hs:HS w0 F0 w F L)(hc:Calls P fid args.toArray w (AD w F post))
  (k:∀ v F1 w1,HS w0 F0 w1 F1 L->XI F F1->post F1 v->RWP P ro n R Q rest (A1 f (A8 R i) v) w1) (ha:clQ f (Aj R i)=some (fid,args):=by kernel_rfl) (ho:ung R i=true:=by kernel_rfl):RWP P ro n R Q (i::rest) f w:=Cl' hok hs hc k (WJ f _ ▸ ha) ho
theorem Go(m:Nat){fid:FuncId}{fn:Func}{args:List Value}{S:Ending->World->Prop}(hf:P.funcs[fid]? =some fn)(h:CWP P none m (OJ fn) (WT P fn.results S) (f0 args) w)
  (hk:(Nat.beq fn.ntmps m&&(decide (args.length<=m)&&isS fn.body))=true:=by kernel_rfl):Calls P fid args.toArray w S:=by
 simp only[xA]at hk;have G:=Jk (d:=.skip) hk.2.2;exact OA hf G (xK hk.1) hk.2.1 h
theorem Sd{α:Type}{t:Bool}{x y r:α}(h:(bif t then x else y)=r){PQ:List PanicEntry->List Deferred->World->Prop}{Post:Fr->World->Prop}{z:Nat}{Sw:Bool->World->Prop}{fuel:Nat}{l:List Bool}
  (ht:t=true->x=r->DWP P n R PQ Post z Sw fuel l f w) (hf:t=false->y=r->DWP P n R PQ Post z Sw fuel l f w):DWP P n R PQ Post z Sw fuel l f w:=
 DWP.split t (fun e=>ht e (Qn h e)) (fun e=>hf e (Qo h e))
variable {c:Code} {Q':Exit -> Fr -> World -> Prop}
theorem Cd{α:Type}{t:Bool}{x y r:α}(h:(bif t then x else y)=r)(ht:t=true->x=r->CWP P ro n (UE c) Q f w)(hf:t=false->y=r->CWP P ro n (UG c) Q f w)(hc:fev f (Sf c)=.bool t:=by kernel_rfl)(hk:kin c=4:=by kernel_rfl):CWP P ro n c Q f w:=
 CWP.cond hk hc (fun e=>ht e (Qn h e)) (fun e=>hf e (Qo h e))
theorem Cp(t:Bool)(ht:t=true->CWP P ro n (UE c) Q f w)(hf:t=false->CWP P ro n (UG c) Q f w)(hc:fev f (Sf c)=.bool t:=by kernel_rfl)(hk:kin c=4:=by kernel_rfl):CWP P ro n c Q f w:=CWP.cond hk hc ht hf
theorem C1{t:Bool}(e:t=true)(h:CWP P ro n (UE c) Q f w)(hc:fev f (Sf c)=.bool t:=by kernel_rfl)(hk:kin c=4:=by kernel_rfl):CWP P ro n c Q f w:=CWP.cond1 hk hc e h
theorem C0{t:Bool}(e:t=false)(h:CWP P ro n (UG c) Q f w)(hc:fev f (Sf c)=.bool t:=by kernel_rfl)(hk:kin c=4:=by kernel_rfl):CWP P ro n c Q f w:=CWP.cond0 hk hc e h
theorem Sp{α:Type}{t:Bool}{x y r:α}(h:(bif t then x else y)=r){l:List Nat}(ht:t=true->x=r->RWP P ro n R Q l f w)(hf:t=false->y=r->RWP P ro n R Q l f w):RWP P ro n R Q l f w:=
 XN t (fun e=>ht e (Qn h e)) (fun e=>hf e (Qo h e))
theorem Rt(h:Q .ret f w)(hk:kin c=8:=by kernel_rfl):CWP P ro n c Q f w:=CWP.ret hk h
theorem Ex(h:Q (.exit (cid c)) f w)(hk:kin c=7:=by kernel_rfl):CWP P ro n c Q f w:=CWP.exit hk h
end
def Tc(f:Fr):List ResultVar->Option (List Value)
 | []=>some []
 | .tmp t::rs=>(match Tc f rs with | some l=>some (f t::l) | none=>none)
 | _=>none
theorem L6{P:Program}{w:World}{f:Fr}:∀{rs:List ResultVar} {vs:List Value},Tc f rs=some vs->UQ P w f rs vs
 | [],_,h=>by cases h;trivial
 | .tmp t::rs,vs,h=>by
  unfold Tc at h;split at h
  ·rename_i l hl;cases h;exact⟨rfl,L6 hl⟩
  ·cases h
 | .cell _ _::rs,vs,h=>by simp[Tc]at h
theorem Re{P:Program}{rs:Array ResultVar}{w w0:World}{F0 F:Mem}{f:Fr}{L:List oO}{post:Mem->Value->Prop}(vs:List Value)(hs:HS w0 F0 w F L)(hp:post F (KA vs))(hr:Tc f rs.toList=some vs:=by kernel_rfl)(hd:f.d=[]:=by kernel_rfl):
  f.d=[]/\ ∃ v,(DN rs f).run P w=.ok v w/\AD w0 F0 post (.returned v) w:=
 ⟨hd,KA vs,AL rfl (L6 hr),KA vs,F,rfl,hs.clear,hp⟩
theorem ReB{P:Program}{rs:Array ResultVar}{w wb:World}{Fb F0 F:Mem}{f:Fr}{L:Own}{post:Mem->Value->Own->Prop}(vs:List Value)(hs:HS wb Fb w F L)(hl:XI F0 F)(hp:post F (KA vs) L)(hr:Tc f rs.toList=some vs:=by kernel_rfl)(hd:f.d=[]:=by kernel_rfl):
  f.d=[]/\ ∃ v,(DN rs f).run P w=.ok v w/\Fh wb Fb F0 post (.returned v) w:=
 ⟨hd,KA vs,AL rfl (L6 hr),F,KA vs,L,rfl,hs,hl,hp⟩
section
variable {w0 w:World} {F0 F:Mem} {L:List (Option Nat × Obj)} {e:Option Nat × Obj}
theorem HS.dr0(h:HS w0 F0 w F (e::L)):HS w0 F0 w F (L):=h.drop 0
theorem HS.at0{b:Nat}{o:Obj}(h:HS w0 F0 w F ((some b,o)::L)):w.heap[b]? =some o:=h.ownAt (k:=0) rfl
theorem HS.fc0{b:Nat}{o:Obj}(h:HS w0 F0 w F ((some b,o)::L)):∃ F1,HS w0 F0 w F1 (L)/\XI F F1/\F1 b=some o:=h.freezeC (k:=0) rfl
theorem HS.fr0{α:Type}{T:Ty α}{E:TypeId}{a:X7}{cap:Nat}{l:List α}(h:HS w0 F0 w F (e::L))(hr:Ak T E F a cap l e):∃ F1,HS w0 F0 w F1 (L)/\XI F F1/\SlA T F1 a l:=h.freezeRow (k:=0) rfl hr
theorem HS.rd0{α:Type}{T:Ty α}{E:TypeId}{a:X7}{cap:Nat}{l:List α}(h:HS w0 F0 w F (e::L))(hr:Ak T E F a cap l e):Rd T F w a l:=Ak.rd h (k:=0) rfl hr
theorem HS.dr1{G:oO}(h:HS w0 F0 w F (G::e::L)):HS w0 F0 w F (G::L):=h.drop 1
theorem HS.pk1{G:oO}(h:HS w0 F0 w F (G::e::L)):HS w0 F0 w F (e::G::L):=h.pick (k:=1) rfl
theorem HS.at1{G:oO}{b:Nat}{o:Obj}(h:HS w0 F0 w F (G::(some b,o)::L)):w.heap[b]? =some o:=h.ownAt (k:=1) rfl
theorem HS.fc1{G:oO}{b:Nat}{o:Obj}(h:HS w0 F0 w F (G::(some b,o)::L)):∃ F1,HS w0 F0 w F1 (G::L)/\XI F F1/\F1 b=some o:=h.freezeC (k:=1) rfl
theorem HS.fr1{G:oO}{α:Type}{T:Ty α}{E:TypeId}{a:X7}{cap:Nat}{l:List α}(h:HS w0 F0 w F (G::e::L))(hr:Ak T E F a cap l e):∃ F1,HS w0 F0 w F1 (G::L)/\XI F F1/\SlA T F1 a l:=h.freezeRow (k:=1) rfl hr
theorem HS.dr2{G I:oO}(h:HS w0 F0 w F (G::I::e::L)):HS w0 F0 w F (G::I::L):=h.drop 2
theorem HS.pk2{G I:oO}(h:HS w0 F0 w F (G::I::e::L)):HS w0 F0 w F (e::G::I::L):=h.pick (k:=2) rfl
theorem HS.at2{G I:oO}{b:Nat}{o:Obj}(h:HS w0 F0 w F (G::I::(some b,o)::L)):w.heap[b]? =some o:=h.ownAt (k:=2) rfl
theorem HS.fr2{G I:oO}{α:Type}{T:Ty α}{E:TypeId}{a:X7}{cap:Nat}{l:List α}(h:HS w0 F0 w F (G::I::e::L))(hr:Ak T E F a cap l e):∃ F1,HS w0 F0 w F1 (G::I::L)/\XI F F1/\SlA T F1 a l:=h.freezeRow (k:=2) rfl hr
theorem HS.dr3{G I J:oO}(h:HS w0 F0 w F (G::I::J::e::L)):HS w0 F0 w F (G::I::J::L):=h.drop 3
theorem HS.pk3{G I J:oO}(h:HS w0 F0 w F (G::I::J::e::L)):HS w0 F0 w F (e::G::I::J::L):=h.pick (k:=3) rfl
theorem HS.at3{G I J:oO}{b:Nat}{o:Obj}(h:HS w0 F0 w F (G::I::J::(some b,o)::L)):w.heap[b]? =some o:=h.ownAt (k:=3) rfl
theorem HS.rd3{G I J:oO}{α:Type}{T:Ty α}{E:TypeId}{a:X7}{cap:Nat}{l:List α}(h:HS w0 F0 w F (G::I::J::e::L))(hr:Ak T E F a cap l e):Rd T F w a l:=Ak.rd h (k:=3) rfl hr
theorem HS.dr4{G I J M:oO}(h:HS w0 F0 w F (G::I::J::M::e::L)):HS w0 F0 w F (G::I::J::M::L):=h.drop 4
theorem HS.pk4{G I J M:oO}(h:HS w0 F0 w F (G::I::J::M::e::L)):HS w0 F0 w F (e::G::I::J::M::L):=h.pick (k:=4) rfl
theorem HS.at4{G I J M:oO}{b:Nat}{o:Obj}(h:HS w0 F0 w F (G::I::J::M::(some b,o)::L)):w.heap[b]? =some o:=h.ownAt (k:=4) rfl
theorem HS.dr5{G I J M O:oO}(h:HS w0 F0 w F (G::I::J::M::O::e::L)):HS w0 F0 w F (G::I::J::M::O::L):=h.drop 5
theorem HS.pk5{G I J M O:oO}(h:HS w0 F0 w F (G::I::J::M::O::e::L)):HS w0 F0 w F (e::G::I::J::M::O::L):=h.pick (k:=5) rfl
theorem HS.at5{G I J M O:oO}{b:Nat}{o:Obj}(h:HS w0 F0 w F (G::I::J::M::O::(some b,o)::L)):w.heap[b]? =some o:=h.ownAt (k:=5) rfl
theorem HS.pk6{G I J M O e5:oO}(h:HS w0 F0 w F (G::I::J::M::O::e5::e::L)):HS w0 F0 w F (e::G::I::J::M::O::e5::L):=h.pick (k:=6) rfl
theorem HS.at6{G I J M O e5:oO}{b:Nat}{o:Obj}(h:HS w0 F0 w F (G::I::J::M::O::e5::(some b,o)::L)):w.heap[b]? =some o:=h.ownAt (k:=6) rfl
theorem HS.pk7{G I J M O e5 U:oO}(h:HS w0 F0 w F (G::I::J::M::O::e5::U::e::L)):HS w0 F0 w F (e::G::I::J::M::O::e5::U::L):=h.pick (k:=7) rfl
theorem HS.at7{G I J M O e5 U:oO}{b:Nat}{o:Obj}(h:HS w0 F0 w F (G::I::J::M::O::e5::U::(some b,o)::L)):w.heap[b]? =some o:=h.ownAt (k:=7) rfl
variable {P:Program} {ro:Option Nat} {n:Nat} {R:Array Oper} {Q:Exit -> Fr -> World -> Prop} {i:Nat} {rest:List Nat} {f:Fr} {α:Type} {T:Ty α} {E:TypeId} {a:X7} {cap:Nat} {l m:List α}
def apX:Op->Operand | .call c=>c.args[0]?.getD (.tmp 0) | _=>.tmp 0
def apY:Op->Operand | .call c=>c.args[1]?.getD (.tmp 0) | _=>.tmp 0
def apK(P:Program)(E:TypeId)(sz:Nat):Op->Bool
 | .call c=>(match c.callee with
  | .builtin .append=>(match c.args.toList,c.argTypes.toList with
   | [_,_],[t,t2]=>(match A2 P t,Bq P E with
    | some (E',s,by_),some z=>Nat.beq E E'&&(Nat.beq s sz&&(decide (by_<=1024)&&(Og P t2&&Nat.beq z.cells.size sz)))
    | _,_=>false)
   | _,_=>false)
  | _=>false)
 | _=>false
theorem FZ{op:Op}{sz:Nat}(h:apK P E sz op=true):∃ t t2 by_ z,op=.call {callee:=.builtin .append,args:=#[apX op,apY op],argTypes:=#[t,t2]}/\A2 P t=some (E,sz,by_)/\decide (by_<=1024)=true/\Og P t2=true/\Bq P E=some z/\z.cells.size=sz:=by
 unfold apK at h;split at h
 ·rename_i c;obtain⟨callee,aos,ats⟩:=c;simp only at h;split at h
  ·split at h
   ·rename_i x y t t2 J M;split at h
    ·rename_i E' s by_ z he hz;simp only[xA]at h;obtain⟨G,I,O,U,e5⟩:=h;have G:=xK G;have I:=xK I;subst G;subst I;have ha:aos=#[x,y]:=by cases aos;simpa using J
     have hb:ats=#[t,t2]:=by cases ats;simpa using M
     subst ha;subst hb;exact⟨t,t2,by_,z,rfl,he,O,U,hz,xK e5⟩
    ·cases h
   ·cases h
  ·cases h
 ·cases h
theorem St0{b:Nat}{C:Array Value}{E:TypeId}(C':Array Value)(hs:HS w0 F0 w F ((some b,.cells C E (0,0))::L))(k:∀ w',HS w0 F0 w' F ((some b,.cells C' E (0,0))::L)->RWP P ro n R Q rest f w')
  (hx:fev f (stX (Aj R i))=.pointer (some ⟨b,pO (fev f (stX (Aj R i))),none⟩):=by kernel_rfl) (hC:BE C (pO (fev f (stX (Aj R i)))) (fev f (stY (Aj R i))).cells.toList=C':=by kernel_rfl)
  (ho:(ung R i&&(IW (Aj R i)&&(DA P (stT (Aj R i)) (fev f (stY (Aj R i))) (pO (fev f (stX (Aj R i)))) C&&(match A8 R i with | none=>true | some _=>false))))=true:=by kernel_rfl):RWP P ro n R Q (i::rest) f w:=
 KX (hs.ownAt (k:=0) rfl) (k _ (hs.put (k:=0) rfl _)) hx hC ho
theorem Ap0{a2:X7}(G:T.One)(hs:HS w0 F0 w F (e::L))(hr:Ak T E F a cap l e)(hm:Rd T F w a2 m){r:List α}(hap:Bm l m=some r)
  (k:∀ a' cap' e' w',HS w0 F0 w' F (e'::L)->Ak T E F a' cap' r e'->RWP P ro n R Q rest (A1 f (A8 R i) (.slice a' r.length cap')) w')
  (hx:fev f (apX (Aj R i))=.slice a l.length cap:=by kernel_rfl) (hy:fev f (apY (Aj R i))=.slice a2 m.length (sC (fev f (apY (Aj R i)))):=by kernel_rfl) (ho:(ung R i&&apK P E T.sz (Aj R i))=true:=by kernel_rfl):RWP P ro n R Q (i::rest) f w:=by
 simp only[xA]at ho;obtain⟨t,t2,by_,z,I,he,hb,hni,hz,hzs⟩:=FZ ho.2;have:=Bb ho.1;rw[I]at this;exact RWP.append this rfl hx hy he hb hni hz hzs G hs (k:=0) rfl hr hm hap k
theorem St1{G:oO}{b:Nat}{C:Array Value}{E:TypeId}(C':Array Value)(hs:HS w0 F0 w F (G::(some b,.cells C E (0,0))::L))(k:∀ w',HS w0 F0 w' F (G::(some b,.cells C' E (0,0))::L)->RWP P ro n R Q rest f w')
  (hx:fev f (stX (Aj R i))=.pointer (some ⟨b,pO (fev f (stX (Aj R i))),none⟩):=by kernel_rfl) (hC:BE C (pO (fev f (stX (Aj R i)))) (fev f (stY (Aj R i))).cells.toList=C':=by kernel_rfl)
  (ho:(ung R i&&(IW (Aj R i)&&(DA P (stT (Aj R i)) (fev f (stY (Aj R i))) (pO (fev f (stX (Aj R i)))) C&&(match A8 R i with | none=>true | some _=>false))))=true:=by kernel_rfl):RWP P ro n R Q (i::rest) f w:=
 KX (hs.ownAt (k:=1) rfl) (k _ (hs.put (k:=1) rfl _)) hx hC ho
theorem Ap1{G:oO}{a2:X7}(I:T.One)(hs:HS w0 F0 w F (G::e::L))(hr:Ak T E F a cap l e)(hm:Rd T F w a2 m){r:List α}(hap:Bm l m=some r)
  (k:∀ a' cap' e' w',HS w0 F0 w' F (G::e'::L)->Ak T E F a' cap' r e'->RWP P ro n R Q rest (A1 f (A8 R i) (.slice a' r.length cap')) w')
  (hx:fev f (apX (Aj R i))=.slice a l.length cap:=by kernel_rfl) (hy:fev f (apY (Aj R i))=.slice a2 m.length (sC (fev f (apY (Aj R i)))):=by kernel_rfl) (ho:(ung R i&&apK P E T.sz (Aj R i))=true:=by kernel_rfl):RWP P ro n R Q (i::rest) f w:=by
 simp only[xA]at ho;obtain⟨t,t2,by_,z,J,he,hb,hni,hz,hzs⟩:=FZ ho.2;have:=Bb ho.1;rw[J]at this;exact RWP.append this rfl hx hy he hb hni hz hzs I hs (k:=1) rfl hr hm hap k
theorem St2{G I:oO}{b:Nat}{C:Array Value}{E:TypeId}(C':Array Value)(hs:HS w0 F0 w F (G::I::(some b,.cells C E (0,0))::L))(k:∀ w',HS w0 F0 w' F (G::I::(some b,.cells C' E (0,0))::L)->RWP P ro n R Q rest f w')
  (hx:fev f (stX (Aj R i))=.pointer (some ⟨b,pO (fev f (stX (Aj R i))),none⟩):=by kernel_rfl) (hC:BE C (pO (fev f (stX (Aj R i)))) (fev f (stY (Aj R i))).cells.toList=C':=by kernel_rfl)
  (ho:(ung R i&&(IW (Aj R i)&&(DA P (stT (Aj R i)) (fev f (stY (Aj R i))) (pO (fev f (stX (Aj R i)))) C&&(match A8 R i with | none=>true | some _=>false))))=true:=by kernel_rfl):RWP P ro n R Q (i::rest) f w:=
 KX (hs.ownAt (k:=2) rfl) (k _ (hs.put (k:=2) rfl _)) hx hC ho
theorem Ap2{I G:oO}{a2:X7}(J:T.One)(hs:HS w0 F0 w F (I::G::e::L))(hr:Ak T E F a cap l e)(hm:Rd T F w a2 m){r:List α}(hap:Bm l m=some r)
  (k:∀ a' cap' e' w',HS w0 F0 w' F (I::G::e'::L)->Ak T E F a' cap' r e'->RWP P ro n R Q rest (A1 f (A8 R i) (.slice a' r.length cap')) w')
  (hx:fev f (apX (Aj R i))=.slice a l.length cap:=by kernel_rfl) (hy:fev f (apY (Aj R i))=.slice a2 m.length (sC (fev f (apY (Aj R i)))):=by kernel_rfl) (ho:(ung R i&&apK P E T.sz (Aj R i))=true:=by kernel_rfl):RWP P ro n R Q (i::rest) f w:=by
 simp only[xA]at ho;obtain⟨t,t2,by_,z,G,he,hb,hni,hz,hzs⟩:=FZ ho.2;have:=Bb ho.1;rw[G]at this;exact RWP.append this rfl hx hy he hb hni hz hzs J hs (k:=2) rfl hr hm hap k
theorem St3{G I J:oO}{b:Nat}{C:Array Value}{E:TypeId}(C':Array Value)(hs:HS w0 F0 w F (G::I::J::(some b,.cells C E (0,0))::L))(k:∀ w',HS w0 F0 w' F (G::I::J::(some b,.cells C' E (0,0))::L)->RWP P ro n R Q rest f w')
  (hx:fev f (stX (Aj R i))=.pointer (some ⟨b,pO (fev f (stX (Aj R i))),none⟩):=by kernel_rfl) (hC:BE C (pO (fev f (stX (Aj R i)))) (fev f (stY (Aj R i))).cells.toList=C':=by kernel_rfl)
  (ho:(ung R i&&(IW (Aj R i)&&(DA P (stT (Aj R i)) (fev f (stY (Aj R i))) (pO (fev f (stX (Aj R i)))) C&&(match A8 R i with | none=>true | some _=>false))))=true:=by kernel_rfl):RWP P ro n R Q (i::rest) f w:=
 KX (hs.ownAt (k:=3) rfl) (k _ (hs.put (k:=3) rfl _)) hx hC ho
theorem St5{G I J M O:oO}{b:Nat}{C:Array Value}{E:TypeId}(C':Array Value)(hs:HS w0 F0 w F (G::I::J::M::O::(some b,.cells C E (0,0))::L))(k:∀ w',HS w0 F0 w' F (G::I::J::M::O::(some b,.cells C' E (0,0))::L)->RWP P ro n R Q rest f w')
  (hx:fev f (stX (Aj R i))=.pointer (some ⟨b,pO (fev f (stX (Aj R i))),none⟩):=by kernel_rfl) (hC:BE C (pO (fev f (stX (Aj R i)))) (fev f (stY (Aj R i))).cells.toList=C':=by kernel_rfl)
  (ho:(ung R i&&(IW (Aj R i)&&(DA P (stT (Aj R i)) (fev f (stY (Aj R i))) (pO (fev f (stX (Aj R i)))) C&&(match A8 R i with | none=>true | some _=>false))))=true:=by kernel_rfl):RWP P ro n R Q (i::rest) f w:=
 KX (hs.ownAt (k:=5) rfl) (k _ (hs.put (k:=5) rfl _)) hx hC ho
theorem Ap5{I G J M O:oO}{a2:X7}(U:T.One)(hs:HS w0 F0 w F (I::G::J::M::O::e::L))(hr:Ak T E F a cap l e)(hm:Rd T F w a2 m){r:List α}(hap:Bm l m=some r)
  (k:∀ a' cap' e' w',HS w0 F0 w' F (I::G::J::M::O::e'::L)->Ak T E F a' cap' r e'->RWP P ro n R Q rest (A1 f (A8 R i) (.slice a' r.length cap')) w')
  (hx:fev f (apX (Aj R i))=.slice a l.length cap:=by kernel_rfl) (hy:fev f (apY (Aj R i))=.slice a2 m.length (sC (fev f (apY (Aj R i)))):=by kernel_rfl) (ho:(ung R i&&apK P E T.sz (Aj R i))=true:=by kernel_rfl):RWP P ro n R Q (i::rest) f w:=by
 simp only[xA]at ho;obtain⟨t,t2,by_,z,G,he,hb,hni,hz,hzs⟩:=FZ ho.2;have:=Bb ho.1;rw[G]at this;exact RWP.append this rfl hx hy he hb hni hz hzs U hs (k:=5) rfl hr hm hap k
theorem St6{G I J M O e5:oO}{b:Nat}{C:Array Value}{E:TypeId}(C':Array Value)(hs:HS w0 F0 w F (G::I::J::M::O::e5::(some b,.cells C E (0,0))::L))(k:∀ w',HS w0 F0 w' F (G::I::J::M::O::e5::(some b,.cells C' E (0,0))::L)->RWP P ro n R Q rest f w')
  (hx:fev f (stX (Aj R i))=.pointer (some ⟨b,pO (fev f (stX (Aj R i))),none⟩):=by kernel_rfl) (hC:BE C (pO (fev f (stX (Aj R i)))) (fev f (stY (Aj R i))).cells.toList=C':=by kernel_rfl)
  (ho:(ung R i&&(IW (Aj R i)&&(DA P (stT (Aj R i)) (fev f (stY (Aj R i))) (pO (fev f (stX (Aj R i)))) C&&(match A8 R i with | none=>true | some _=>false))))=true:=by kernel_rfl):RWP P ro n R Q (i::rest) f w:=
 KX (hs.ownAt (k:=6) rfl) (k _ (hs.put (k:=6) rfl _)) hx hC ho
theorem Ap6{I G J M O e5:oO}{a2:X7}(U:T.One)(hs:HS w0 F0 w F (I::G::J::M::O::e5::e::L))(hr:Ak T E F a cap l e)(hm:Rd T F w a2 m){r:List α}(hap:Bm l m=some r)
  (k:∀ a' cap' e' w',HS w0 F0 w' F (I::G::J::M::O::e5::e'::L)->Ak T E F a' cap' r e'->RWP P ro n R Q rest (A1 f (A8 R i) (.slice a' r.length cap')) w')
  (hx:fev f (apX (Aj R i))=.slice a l.length cap:=by kernel_rfl) (hy:fev f (apY (Aj R i))=.slice a2 m.length (sC (fev f (apY (Aj R i)))):=by kernel_rfl) (ho:(ung R i&&apK P E T.sz (Aj R i))=true:=by kernel_rfl):RWP P ro n R Q (i::rest) f w:=by
 simp only[xA]at ho;obtain⟨t,t2,by_,z,G,he,hb,hni,hz,hzs⟩:=FZ ho.2;have:=Bb ho.1;rw[G]at this;exact RWP.append this rfl hx hy he hb hni hz hzs U hs (k:=6) rfl hr hm hap k
theorem St7{G I J M O e5 U:oO}{b:Nat}{C:Array Value}{E:TypeId}(C':Array Value)(hs:HS w0 F0 w F (G::I::J::M::O::e5::U::(some b,.cells C E (0,0))::L))(k:∀ w',HS w0 F0 w' F (G::I::J::M::O::e5::U::(some b,.cells C' E (0,0))::L)->RWP P ro n R Q rest f w')
  (hx:fev f (stX (Aj R i))=.pointer (some ⟨b,pO (fev f (stX (Aj R i))),none⟩):=by kernel_rfl) (hC:BE C (pO (fev f (stX (Aj R i)))) (fev f (stY (Aj R i))).cells.toList=C':=by kernel_rfl)
  (ho:(ung R i&&(IW (Aj R i)&&(DA P (stT (Aj R i)) (fev f (stY (Aj R i))) (pO (fev f (stX (Aj R i)))) C&&(match A8 R i with | none=>true | some _=>false))))=true:=by kernel_rfl):RWP P ro n R Q (i::rest) f w:=
 KX (hs.ownAt (k:=7) rfl) (k _ (hs.put (k:=7) rfl _)) hx hC ho
end
section
variable {P:Program} {n:Nat} {R:Array Oper} {Q:Exit -> Fr -> World -> Prop} {PQ:List PanicEntry -> List Deferred -> World -> Prop} {Post:Fr -> World -> Prop} {z fuel:Nat} {Sw:Bool -> World -> Prop} {i:Nat} {f:Fr} {w w' w0:World} {F0 F Fs:Mem} {l:List Bool} {L Lc Lz:List (Option Nat × Obj)} {e:Option Nat × Obj}
def rdy(R:Array Oper)(z i:Nat)(l:List Bool):Bool:=Region.free .any R l.toArray i&&((Region.ready .any R l.toArray).contains i&&I2 R z i)
def dvf(P:Program)(R:Array Oper):List Nat->Fr->Fr
 | [],f=>f
 | i::is,f=>dvf P R is (A1 f (A8 R i) ((pv P (fev f) (Aj R i)).getD undef))
def dvl:List Nat->List Bool->List Bool
 | [],l=>l
 | i::is,l=>dvl is (l.set i true)
def UB(P:Program)(R:Array Oper)(z:Nat):List Nat->List Bool->Fr->Bool
 | [],_,_=>true
 | i::is,l,f=>ung R i&&(isS (pv P (fev f) (Aj R i))&&(rdy R z i l&&UB P R z is (l.set i true) (A1 f (A8 R i) ((pv P (fev f) (Aj R i)).getD undef))))
theorem UU:∀(is:List Nat) {l:List Bool} {f:Fr} {fuel:Nat},DWP P n R PQ Post z Sw fuel (dvl is l) (dvf P R is f) w->UB P R z is l f=true->DWP P n R PQ Post z Sw (fuel + is.length) l f w
 | [],_,_,_,k,_=>k
 | i::is,l,f,fuel,k,h=>by
  simp only[UB,rdy,xA]at h;obtain⟨G,I,⟨J,M,O⟩,U⟩:=h;exact DWP.take (Bb G) J M O rfl rfl (fun _ _=>PZ (Jk I)) rfl (UU is k U)
theorem Dv(is:List Nat){fu:Nat}(k:DWP P n R PQ Post z Sw (fu - is.length) (dvl is l) (dvf P R is f) w)(h:UB P R z is l f=true:=by kernel_rfl)(hfu:Nat.beq fu ((fu - is.length) + is.length)=true:=by kernel_rfl):DWP P n R PQ Post z Sw fu l f w:=by
 have:=xK hfu;rw[this];exact UU is k h
theorem Dvl(is:List Nat)(l':List Bool){fu:Nat}(k:DWP P n R PQ Post z Sw (fu - is.length) l' (dvf P R is f) w)(h:UB P R z is l f=true:=by kernel_rfl)(hl:dvl is l=l':=by kernel_rfl)(hfu:Nat.beq fu ((fu - is.length) + is.length)=true:=by kernel_rfl):DWP P n R PQ Post z Sw fu l f w:=by
 subst hl;exact Dv is k h hfu
theorem DWP.tk{v:Value}(i:Nat){fu:Nat}(hy:∀ w',Sw (l.toArray.getD z true) w'->(Am (fev f) (Aj R i) (Gl R i)).run P w'=.ok (.value v) w')(k:DWP P n R PQ Post z Sw (fu - 1) (l.set i true) (A1 f (A8 R i) v) w)(ho:ung R i=true)(hr:rdy R z i l=true)
  (hfu:Nat.beq fu ((fu - 1) + 1)=true):DWP P n R PQ Post z Sw fu l f w:=by
 simp only[rdy,xA]at hr;have:=xK hfu;rw[this];exact DWP.take (Bb ho) hr.1 hr.2.1 hr.2.2 rfl rfl hy rfl k
theorem Dl(i:Nat){fu b:Nat}{C:Array Value}{E:TypeId}{fz:Nat×Nat}(hp:∀ w',Sw (l.toArray.getD z true) w'->w'.heap[b]? =some (.cells C E fz))(k:DWP P n R PQ Post z Sw (fu - 1) (l.set i true) (A1 f (A8 R i) (ldV P (ldT (Aj R i)) C (pO (fev f (ldX (Aj R i)))))) w)
  (hx:fev f (ldX (Aj R i))=.pointer (some ⟨b,pO (fev f (ldX (Aj R i))),none⟩):=by kernel_rfl) (ho:(ung R i&&(Q5 (Aj R i)&&ldK P (ldT (Aj R i)) C (pO (fev f (ldX (Aj R i))))))=true:=by kernel_rfl) (hr:rdy R z i l=true:=by kernel_rfl)
  (hfu:Nat.beq fu ((fu - 1) + 1)=true:=by kernel_rfl):DWP P n R PQ Post z Sw fu l f w:=by
 simp only[xA]at ho;refine DWP.tk i (fun w' hw=>?_) k ho.1 hr hfu;have:=GA ho.2.1;rw[this];exact RP hx (hp w' hw) ho.2.2
theorem Dx(i j:Nat){fu b o kk:Nat}{C:Array Value}{E:TypeId}{fz:Nat×Nat}{cs:List Value}(hp:∀ w',Sw (l.toArray.getD z true) w'->w'.heap[b]? =some (.cells C E fz))(hc:Ap C o kk=cs)(k:DWP P n R PQ Post z Sw (fu - 1) (l.set i true) (A1 f (A8 R i) (lxV P (ldT (Aj R i)) cs j)) w)
  (hx:fev f (ldX (Aj R i))=.pointer (some ⟨b,o + j,none⟩):=by kernel_rfl) (ho:(ung R i&&(Q5 (Aj R i)&&lxK P (ldT (Aj R i)) cs j kk))=true:=by kernel_rfl) (hr:rdy R z i l=true:=by kernel_rfl)
  (hfu:Nat.beq fu ((fu - 1) + 1)=true:=by kernel_rfl):DWP P n R PQ Post z Sw fu l f w:=by
 simp only[xA]at ho;refine DWP.tk i (fun w' hw=>?_) k ho.1 hr hfu;have:=GA ho.2.1;rw[this];exact RN hx (hp w' hw) hc ho.2.2
theorem Di(i:Nat){fu m:Nat}{q:Int}(hi:0<=q/\q < (m:Int))(k:DWP P n R PQ Post z Sw (fu - 1) (l.set i true) (A1 f (A8 R i) (.pointer (some ⟨sB (fev f (ixX (Aj R i))),sO (fev f (ixX (Aj R i))) + q.toNat * elS P (ixT (Aj R i)),none⟩))) w)
  (hx:fev f (ixX (Aj R i))=.slice (some ⟨sB (fev f (ixX (Aj R i))),sO (fev f (ixX (Aj R i))),none⟩) m (sC (fev f (ixX (Aj R i)))):=by kernel_rfl) (hy:fev f (ixY (Aj R i))=.int (iK (fev f (ixY (Aj R i)))) q:=by kernel_rfl)
  (ho:(ung R i&&(Q6 (Aj R i)&&slQ P (ixT (Aj R i))))=true:=by kernel_rfl) (hr:rdy R z i l=true:=by kernel_rfl) (hfu:Nat.beq fu ((fu - 1) + 1)=true:=by kernel_rfl):DWP P n R PQ Post z Sw fu l f w:=by
 simp only[xA]at ho;refine DWP.tk i (fun w' hw=>?_) k ho.1 hr hfu;have e:=GB ho.2.1;have:=TT (P:=P) (w:=w') (ty:=Gl R i) hi hx hy ho.2.2;rw[<-e]at this;exact this
theorem Dj(i:Nat){fu m:Nat}{q:Int}(hi:0<=q/\q < (m:Int))(k:DWP P n R PQ Post z Sw (fu - 1) (l.set i true) (A1 f (A8 R i) (.pointer (some ⟨sB (fev f (ixX (Aj R i))),q.toNat * elS P (ixT (Aj R i)),none⟩))) w)
  (hx:fev f (ixX (Aj R i))=.slice (some ⟨sB (fev f (ixX (Aj R i))),0,none⟩) m (sC (fev f (ixX (Aj R i)))):=by kernel_rfl) (hy:fev f (ixY (Aj R i))=.int (iK (fev f (ixY (Aj R i)))) q:=by kernel_rfl)
  (ho:(ung R i&&(Q6 (Aj R i)&&slQ P (ixT (Aj R i))))=true:=by kernel_rfl) (hr:rdy R z i l=true:=by kernel_rfl) (hfu:Nat.beq fu ((fu - 1) + 1)=true:=by kernel_rfl):DWP P n R PQ Post z Sw fu l f w:=by
 simp only[xA]at ho;refine DWP.tk i (fun w' hw=>?_) k ho.1 hr hfu;have e:=GB ho.2.1;have:=Sr (P:=P) (w:=w') (ty:=Gl R i) hi hx hy ho.2.2;rw[<-e]at this;exact this
theorem D1(i:Nat){fu:Nat}(h:Ax P n R PQ Post z Sw (fu - 1) l i f w)(hr:Region.ready .any R l.toArray=[i]:=by kernel_rfl)(hfu:Nat.beq fu ((fu - 1) + 1)=true:=by kernel_rfl):DWP P n R PQ Post z Sw fu l f w:=by
 have:=xK hfu;rw[this];exact DWP.one hr h
theorem zdT{zd:Bool}{A:Prop}(h:zd=true):zd=false->A:=fun e=>by rw[h]at e;cases e
theorem DCl{fid:FuncId}{args:List Value}{post:Mem->Value->Prop}(hok:Ag P fid)(hs:HS w0 F0 w F L)(hc:Calls P fid args.toArray w (AD w F post))
  (k:∀ v F1 w1,HS w0 F0 w1 F1 L->XI F F1->post F1 v->DWP P n R PQ Post z (DZ Fs Lc Lz) fuel (l.set i true) (A1 f (A8 R i) v) w1) (ha:clV f (Aj R i)=some (fid,args):=by kernel_rfl) (ho:ung R i=true:=by kernel_rfl)
  (hz:((l.set i true).toArray.getD z true==l.toArray.getD z true)=true:=by kernel_rfl):Ax P n R PQ Post z (DZ Fs Lc Lz) fuel l i f w:=by
 cases e:Aj R i with
 | call c=>
  obtain⟨callee,aos,ats⟩:=c;have ho':=Bb ho;rw[e]at ha ho';unfold clV at ha;simp only at ha;split at ha
  ·split at ha
   ·rename_i hf;simp only[xI,Prod.mk.injEq]at ha;obtain⟨rfl,rfl⟩:=ha;exact XU rfl (by simpa using hz) rfl ho' rfl hf hok rfl hs hc k
   ·cases ha
  ·cases ha
 | _=>rw[e]at ha;simp[clV]at ha
theorem DBs(E:TypeId)(cs:List Value)(hs:HS w0 F0 w F L)(hle:XI Fs F)(k:∀ b w',HS w0 F0 w' F ((some b,.cells cs.toArray E (0,0))::L)->DWP P n R PQ Post z (DZ Fs Lc Lz) fuel (l.set i true) (A1 f (A8 R i) (.slice (some ⟨b,0,none⟩) (bsL (Aj R i)) (bsL (Aj R i)))) w')
  (hb:bsV P f (Aj R i)=some (E,cs):=by kernel_rfl) (ho:ung R i=true:=by kernel_rfl) (hL:∀ p,p∈Lc->p∈L:=by simp) (hLz:(l.set i true).toArray.getD z true=false->∀ p,p∈Lz->p∈L:=by first | (intro _;simp;done) | exact zdT (by kernel_rfl)):Ax P n R PQ Post z (DZ Fs Lc Lz) fuel l i f w:=by
 have:=Bb ho;cases e:Aj R i with
 | buildSlice t len parts=>
  rw[e]at hb this k;exact Ax.buildSlice rfl rfl this rfl rfl hb hs hle hL hLz k
 | _=>rw[e]at hb;simp[bsV]at hb
theorem DAl(t:TypeId)(C:Array Value)(hs:HS w0 F0 w F L)(hle:XI Fs F)(k:∀ b w',HS w0 F0 w' F ((some b,.cells C t (0,0))::L)->DWP P n R PQ Post z (DZ Fs Lc Lz) fuel (l.set i true) (A1 f (A8 R i) (.pointer (some ⟨b,0,none⟩))) w')
  (hC:(Bq P t).map Value.cells=some C:=by kernel_rfl) (ho:(ung R i&&VJ t (Aj R i))=true:=by kernel_rfl) (hL:∀ p,p∈Lc->p∈L:=by simp) (hLz:(l.set i true).toArray.getD z true=false->∀ p,p∈Lz->p∈L:=by first | (intro _;simp;done) | exact zdT (by kernel_rfl)):Ax P n R PQ Post z (DZ Fs Lc Lz) fuel l i f w:=by
 simp only[xA]at ho;cases hz:Bq P t with
 | none=>rw[hz]at hC;cases hC
 | some z=>
  rw[hz]at hC;simp only[wM,xI]at hC;have e:=Pu ho.2;have:=Bb ho.1;rw[e]at this;exact Ax.alloc rfl rfl this rfl hz hC hs hle hL hLz k
theorem DBx(t:TypeId)(C:Array Value)(hs:HS w0 F0 w F L)(hle:XI Fs F)(k:∀ b w',HS w0 F0 w' F ((some b,.cells C t (0,0))::L)->DWP P n R PQ Post z (DZ Fs Lc Lz) fuel (l.set i true) (A1 f (A8 R i) (.pointer (some ⟨b,0,none⟩))) w')
  (hC:(fev f (bxX (Aj R i))).cells=C:=by kernel_rfl) (ho:(ung R i&&VI t (Aj R i))=true:=by kernel_rfl) (hL:∀ p,p∈Lc->p∈L:=by simp) (hLz:(l.set i true).toArray.getD z true=false->∀ p,p∈Lz->p∈L:=by first | (intro _;simp;done) | exact zdT (by kernel_rfl)):Ax P n R PQ Post z (DZ Fs Lc Lz) fuel l i f w:=by
 simp only[xA]at ho;have e:=Pt ho.2;have:=Bb ho.1;rw[e]at this;exact Ax.box rfl rfl this rfl rfl hC hs hle hL hLz k
theorem DCB{fid:FuncId}{args:List Value}{wb:World}{Fb:Mem}{post:Mem->Value->Own->Prop}(hok:Ag P fid)(hc:Calls P fid args.toArray w (Fh wb Fb F post))
  (k:∀ v F1 w1 L',HS wb Fb w1 F1 L'->XI F F1->post F1 v L'->DZ Fs Lc Lz ((l.set i true).toArray.getD z true) w1/\DWP P n R PQ Post z (DZ Fs Lc Lz) fuel (l.set i true) (A1 f (A8 R i) v) w1) (ha:clV f (Aj R i)=some (fid,args):=by kernel_rfl) (ho:ung R i=true:=by kernel_rfl):Ax P n R PQ Post z (DZ Fs Lc Lz) fuel l i f w:=by
 cases e:Aj R i with
 | call c=>
  obtain⟨callee,aos,ats⟩:=c;have ho':=Bb ho;rw[e]at ha ho';unfold clV at ha;simp only at ha;split at ha
  ·split at ha
   ·rename_i hf;simp only[xI,Prod.mk.injEq]at ha;obtain⟨rfl,rfl⟩:=ha;exact Ax.callB rfl rfl ho' rfl hf hok rfl hc k
   ·cases ha
  ·cases ha
 | _=>rw[e]at ha;simp[clV]at ha
def fls:Nat->List Bool
 | 0=>[]
 | n + 1=>false::fls n
variable {c:Code}
def Vu(R:Array Oper):Bool:=R.all fun o=>!Nz o.op
def Wd(P:Program)(n m:Nat)(c:Code):Bool:=Nat.beq (kin c) 2&&(okR n (Mg c)&&(Region.noSelect (Mg c)&&(Vu (Mg c)&&Nat.beq (Mg c).size m)))
theorem Wz:∀ n,Array.replicate n false=(fls n).toArray:=fun n=>by
 have:List.replicate n false=fls n:=by induction n with
  | zero=>rfl
  | succ n ih=>rw[List.replicate_succ,ih];rfl
 rw[<-this];simp
theorem Vo{R:Array Oper}(hd:Vu R=true)(ro:Option Nat){Q:Exit->Act->World->Prop}{i:Nat}{K K':Act->World->Prop}(hK:∀ a w,K a w->K' a w){a:Act}{w:World}(h:wpOpIn (FW none) 0 P R Q i K a w):wpOpIn (FW ro) 0 P R Q i K' a w:=by
 have h:=wpOpIn_mono hK h;unfold wpOpIn at h ⊢;cases ho:R[i]? with
 | none=>simp only[ho]at h ⊢;exact h
 | some o=>
  simp only[ho]at h ⊢;split
  ·rename_i hw;simp only[hw,if_true]at h;have hi:i < R.size:=by
    rcases xM i R.size with h' | h'
    ·exact h'
    ·simp[wH h']at ho
   have hnd:Nz o.op=false:=by
    unfold Vu at hd;rw[Array.all_eq_true]at hd;have:=hd i hi;have e:R[i]=o:=by simpa [Array.getElem?_eq_getElem hi]using ho
    rw[e]at this;simpa using this
   unfold Oper.wpIn at h ⊢;refine⟨fun _ _=>trivial,?_⟩;have e:∀ r,Oper.semAt r a.eval o=execOp a.eval o:=fun r=>I5 hnd r a.eval o rfl;have G:=h.2;rw[e]at G ⊢;exact G
  ·rename_i hw;simp only[hw,if_false]at h;exact⟨fun _ _=>trivial,h.2⟩
theorem UM{R:Array Oper}(hd:Vu R=true)(ro:Option Nat){Q:Exit->Act->World->Prop}:∀(fuel:Nat)(l:Array Bool)(a:Act)(w:World),wpAnyIn (FW none) 0 P .any R Q fuel l a w->wpAnyIn (FW ro) 0 P .any R Q fuel l a w
 | 0,_,_,_,h=>h
 | fuel + 1,_,_,_,h=>⟨h.1,fun i hi=>Vo hd ro (fun a w=>UM hd ro fuel _ a w) (h.2 i hi)⟩
variable {ro:Option Nat}
theorem RDP(z m:Nat)(Lc Lz:List oO)(hs:HS w0 F0 w F L)(PQ:List PanicEntry->List Deferred->World->Prop)(Post:Fr->World->Prop)
  (h:∀ w',HS w0 F0 w' F L->DWP P n (Mg c) PQ Post z (DZ F Lc Lz) m (fls m) f w') (k:∀ f w,Post f w->Q .normal f w) (kp:∀ c f w,PQ c f.d w->Q (.panic c) f w) (hm:P.follows .mixedOrders=true:=by kernel_rfl) (ho:Wd P n m c=true:=by kernel_rfl) (hc:∀ p,p∈Lc->p∈L:=by simp) (hz:∀ p,p∈Lz->p∈L:=by simp):CWP P ro n c Q f w:=by
 simp only[Wd,xA]at ho;obtain⟨hk,hok,hns,hnd,hfu⟩:=ho
 replace hk:=xK hk
 replace hfu:=xK hfu
 subst hfu;cases c <;> simp[kin]at hk;rename_i id ops d;cases d <;> simp[kin]at hk;intro a ha;have hs':HS w0 F0 {w with drawn:=w.drawn + 1} F L:=hs.heap rfl;refine wpIn_mono (wpIn_region_any hm (UM hnd ro _ _ _ _ (NE (z:=z) (S:=DZ F Lc Lz) _ _ _ _ ?_))) (Q:=lq n (nq PQ Post)) ?_
 ·simp only[Mg]at *
  rw[Wz];exact h _ hs' hok hns (A0 hs' (XJ F) hc fun _=>hz) a ha
 ·rintro e a w ⟨f,hf,hP⟩;cases e with
  | normal=>exact⟨f,hf,k _ _ hP⟩
  | panic c=>exact⟨f,hf,kp _ _ _ hP⟩
  | _=>exact hP.elim
theorem RD(z m:Nat)(Lc Lz:List oO)(hs:HS w0 F0 w F L)(Post:Fr->World->Prop)
  (h:∀ w',HS w0 F0 w' F L->DWP P n (Mg c) (fun _ _ _=>False) Post z (DZ F Lc Lz) m (fls m) f w') (k:∀ f w,Post f w->Q .normal f w) (hm:P.follows .mixedOrders=true:=by kernel_rfl) (ho:Wd P n m c=true:=by kernel_rfl) (hc:∀ p,p∈Lc->p∈L:=by simp) (hz:∀ p,p∈Lz->p∈L:=by simp):CWP P ro n c Q f w:=
 RDP z m Lc Lz hs (fun _ _ _=>False) Post h k (fun _ _ _ h=>h.elim) hm ho hc hz
variable {α:Type} {T:Ty α} {E:TypeId} {a:X7} {cap:Nat} {ls m:List α}
theorem HB{b:Nat}{C:Array Value}{E:TypeId}(C':Array Value)(hs:HS w0 F0 w F ((some b,.cells C E (0,0))::L))(hle:XI Fs F)(k:∀ w',HS w0 F0 w' F ((some b,.cells C' E (0,0))::L)->DWP P n R PQ Post z (DZ Fs Lc Lz) fuel (l.set i true) f w')
  (hx:fev f (stX (Aj R i))=.pointer (some ⟨b,pO (fev f (stX (Aj R i))),none⟩):=by kernel_rfl) (hC:BE C (pO (fev f (stX (Aj R i)))) (fev f (stY (Aj R i))).cells.toList=C':=by kernel_rfl)
  (ho:(ung R i&&(IW (Aj R i)&&(DA P (stT (Aj R i)) (fev f (stY (Aj R i))) (pO (fev f (stX (Aj R i)))) C&&(match A8 R i with | none=>true | some _=>false))))=true:=by kernel_rfl)
  (hL:∀ p,p∈Lc->p∈(some b,.cells C' E (0,0))::L:=by simp) (hLz:(l.set i true).toArray.getD z true=false->∀ p,p∈Lz->p∈(some b,.cells C' E (0,0))::L:=by first | (intro _;simp;done) | exact zdT (by kernel_rfl)):Ax P n R PQ Post z (DZ Fs Lc Lz) fuel l i f w:=by
 simp only[xA]at ho;obtain⟨I,J,M,G⟩:=ho;have e:=D9 J;have:=Bb I;cases hd:A8 R i with
 | some d=>rw[hd]at G;cases G
 | none=>
  rw[hd]at this;have hp:=hs.put (k:=0) rfl (.cells C' E (0,0));refine XT rfl rfl this rfl ?_ (A0 hp hle hL hLz) (k _ hp);have hr:=Ic (P:=P) (ty:=Gl R i) (w:=w) hx (hs.ownAt (k:=0) rfl) M hC;rw[<-e]at hr;exact hr
theorem XC{a2:X7}(G:T.One)(hs:HS w0 F0 w F (e::L))(hr:Ak T E F a cap ls e)(hm:Rd T F w a2 m){r:List α}(hap:Bm ls m=some r)(hle:XI Fs F)
  (k:∀ a' cap' e' w',HS w0 F0 w' F (e'::L)->Ak T E F a' cap' r e'->DWP P n R PQ Post z (DZ Fs Lc Lz) fuel (l.set i true) (A1 f (A8 R i) (.slice a' r.length cap')) w')
  (hx:fev f (apX (Aj R i))=.slice a ls.length cap:=by kernel_rfl) (hy:fev f (apY (Aj R i))=.slice a2 m.length (sC (fev f (apY (Aj R i)))):=by kernel_rfl) (ho:(ung R i&&apK P E T.sz (Aj R i))=true:=by kernel_rfl)
  (hL:∀ e' p,p∈Lc->p∈e'::L:=by (intro _;simp)) (hLz:(l.set i true).toArray.getD z true=false->∀ e' p,p∈Lz->p∈e'::L:=by first | (intro _ _;simp;done) | exact zdT (by kernel_rfl)):Ax P n R PQ Post z (DZ Fs Lc Lz) fuel l i f w:=by
 simp only[xA]at ho;obtain⟨t,t2,by_,zz,I,he,hb,hni,hz,hzs⟩:=FZ ho.2;have:=Bb ho.1;rw[I]at this;exact Ax.append rfl rfl this rfl hx hy he hb hni hz hzs G hs (k:=0) rfl hr hm hap hle hL hLz k
theorem MA{G:oO}{b:Nat}{C:Array Value}{E:TypeId}(C':Array Value)(hs:HS w0 F0 w F (G::(some b,.cells C E (0,0))::L))(hle:XI Fs F)(k:∀ w',HS w0 F0 w' F (G::(some b,.cells C' E (0,0))::L)->DWP P n R PQ Post z (DZ Fs Lc Lz) fuel (l.set i true) f w')
  (hx:fev f (stX (Aj R i))=.pointer (some ⟨b,pO (fev f (stX (Aj R i))),none⟩):=by kernel_rfl) (hC:BE C (pO (fev f (stX (Aj R i)))) (fev f (stY (Aj R i))).cells.toList=C':=by kernel_rfl)
  (ho:(ung R i&&(IW (Aj R i)&&(DA P (stT (Aj R i)) (fev f (stY (Aj R i))) (pO (fev f (stX (Aj R i)))) C&&(match A8 R i with | none=>true | some _=>false))))=true:=by kernel_rfl)
  (hL:∀ p,p∈Lc->p∈G::(some b,.cells C' E (0,0))::L:=by simp) (hLz:(l.set i true).toArray.getD z true=false->∀ p,p∈Lz->p∈G::(some b,.cells C' E (0,0))::L:=by first | (intro _;simp;done) | exact zdT (by kernel_rfl)):Ax P n R PQ Post z (DZ Fs Lc Lz) fuel l i f w:=by
 simp only[xA]at ho;obtain⟨J,M,O,I⟩:=ho;have e:=D9 M;have:=Bb J;cases hd:A8 R i with
 | some d=>rw[hd]at I;cases I
 | none=>
  rw[hd]at this;have hp:=hs.put (k:=1) rfl (.cells C' E (0,0));refine XT rfl rfl this rfl ?_ (A0 hp hle hL hLz) (k _ hp);have hr:=Ic (P:=P) (ty:=Gl R i) (w:=w) hx (hs.ownAt (k:=1) rfl) O hC;rw[<-e]at hr;exact hr
theorem Sk{G:oO}{a2:X7}(I:T.One)(hs:HS w0 F0 w F (G::e::L))(hr:Ak T E F a cap ls e)(hm:Rd T F w a2 m){r:List α}(hap:Bm ls m=some r)(hle:XI Fs F)
  (k:∀ a' cap' e' w',HS w0 F0 w' F (G::e'::L)->Ak T E F a' cap' r e'->DWP P n R PQ Post z (DZ Fs Lc Lz) fuel (l.set i true) (A1 f (A8 R i) (.slice a' r.length cap')) w')
  (hx:fev f (apX (Aj R i))=.slice a ls.length cap:=by kernel_rfl) (hy:fev f (apY (Aj R i))=.slice a2 m.length (sC (fev f (apY (Aj R i)))):=by kernel_rfl) (ho:(ung R i&&apK P E T.sz (Aj R i))=true:=by kernel_rfl)
  (hL:∀ e' p,p∈Lc->p∈G::e'::L:=by (intro _;simp)) (hLz:(l.set i true).toArray.getD z true=false->∀ e' p,p∈Lz->p∈G::e'::L:=by first | (intro _ _;simp;done) | exact zdT (by kernel_rfl)):Ax P n R PQ Post z (DZ Fs Lc Lz) fuel l i f w:=by
 simp only[xA]at ho;obtain⟨t,t2,by_,zz,J,he,hb,hni,hz,hzs⟩:=FZ ho.2;have:=Bb ho.1;rw[J]at this;exact Ax.append rfl rfl this rfl hx hy he hb hni hz hzs I hs (k:=1) rfl hr hm hap hle hL hLz k
theorem Pc{G I:oO}{b:Nat}{C:Array Value}{E:TypeId}(C':Array Value)(hs:HS w0 F0 w F (G::I::(some b,.cells C E (0,0))::L))(hle:XI Fs F)(k:∀ w',HS w0 F0 w' F (G::I::(some b,.cells C' E (0,0))::L)->DWP P n R PQ Post z (DZ Fs Lc Lz) fuel (l.set i true) f w')
  (hx:fev f (stX (Aj R i))=.pointer (some ⟨b,pO (fev f (stX (Aj R i))),none⟩):=by kernel_rfl) (hC:BE C (pO (fev f (stX (Aj R i)))) (fev f (stY (Aj R i))).cells.toList=C':=by kernel_rfl)
  (ho:(ung R i&&(IW (Aj R i)&&(DA P (stT (Aj R i)) (fev f (stY (Aj R i))) (pO (fev f (stX (Aj R i)))) C&&(match A8 R i with | none=>true | some _=>false))))=true:=by kernel_rfl)
  (hL:∀ p,p∈Lc->p∈G::I::(some b,.cells C' E (0,0))::L:=by simp) (hLz:(l.set i true).toArray.getD z true=false->∀ p,p∈Lz->p∈G::I::(some b,.cells C' E (0,0))::L:=by first | (intro _;simp;done) | exact zdT (by kernel_rfl)):Ax P n R PQ Post z (DZ Fs Lc Lz) fuel l i f w:=by
 simp only[xA]at ho;obtain⟨M,O,U,J⟩:=ho;have e:=D9 O;have:=Bb M;cases hd:A8 R i with
 | some d=>rw[hd]at J;cases J
 | none=>
  rw[hd]at this;have hp:=hs.put (k:=2) rfl (.cells C' E (0,0));refine XT rfl rfl this rfl ?_ (A0 hp hle hL hLz) (k _ hp);have hr:=Ic (P:=P) (ty:=Gl R i) (w:=w) hx (hs.ownAt (k:=2) rfl) U hC;rw[<-e]at hr;exact hr
theorem VW{G I J:oO}{b:Nat}{C:Array Value}{E:TypeId}(C':Array Value)(hs:HS w0 F0 w F (G::I::J::(some b,.cells C E (0,0))::L))(hle:XI Fs F)(k:∀ w',HS w0 F0 w' F (G::I::J::(some b,.cells C' E (0,0))::L)->DWP P n R PQ Post z (DZ Fs Lc Lz) fuel (l.set i true) f w')
  (hx:fev f (stX (Aj R i))=.pointer (some ⟨b,pO (fev f (stX (Aj R i))),none⟩):=by kernel_rfl) (hC:BE C (pO (fev f (stX (Aj R i)))) (fev f (stY (Aj R i))).cells.toList=C':=by kernel_rfl)
  (ho:(ung R i&&(IW (Aj R i)&&(DA P (stT (Aj R i)) (fev f (stY (Aj R i))) (pO (fev f (stX (Aj R i)))) C&&(match A8 R i with | none=>true | some _=>false))))=true:=by kernel_rfl)
  (hL:∀ p,p∈Lc->p∈G::I::J::(some b,.cells C' E (0,0))::L:=by simp) (hLz:(l.set i true).toArray.getD z true=false->∀ p,p∈Lz->p∈G::I::J::(some b,.cells C' E (0,0))::L:=by first | (intro _;simp;done) | exact zdT (by kernel_rfl)):Ax P n R PQ Post z (DZ Fs Lc Lz) fuel l i f w:=by
 simp only[xA]at ho;obtain⟨O,U,Y,M⟩:=ho;have e:=D9 U;have:=Bb O;cases hd:A8 R i with
 | some d=>rw[hd]at M;cases M
 | none=>
  rw[hd]at this;have hp:=hs.put (k:=3) rfl (.cells C' E (0,0));refine XT rfl rfl this rfl ?_ (A0 hp hle hL hLz) (k _ hp);have hr:=Ic (P:=P) (ty:=Gl R i) (w:=w) hx (hs.ownAt (k:=3) rfl) Y hC;rw[<-e]at hr;exact hr
theorem XB{I G J:oO}{a2:X7}(M:T.One)(hs:HS w0 F0 w F (I::G::J::e::L))(hr:Ak T E F a cap ls e)(hm:Rd T F w a2 m){r:List α}(hap:Bm ls m=some r)(hle:XI Fs F)
  (k:∀ a' cap' e' w',HS w0 F0 w' F (I::G::J::e'::L)->Ak T E F a' cap' r e'->DWP P n R PQ Post z (DZ Fs Lc Lz) fuel (l.set i true) (A1 f (A8 R i) (.slice a' r.length cap')) w')
  (hx:fev f (apX (Aj R i))=.slice a ls.length cap:=by kernel_rfl) (hy:fev f (apY (Aj R i))=.slice a2 m.length (sC (fev f (apY (Aj R i)))):=by kernel_rfl) (ho:(ung R i&&apK P E T.sz (Aj R i))=true:=by kernel_rfl)
  (hL:∀ e' p,p∈Lc->p∈I::G::J::e'::L:=by (intro _;simp)) (hLz:(l.set i true).toArray.getD z true=false->∀ e' p,p∈Lz->p∈I::G::J::e'::L:=by first | (intro _ _;simp;done) | exact zdT (by kernel_rfl)):Ax P n R PQ Post z (DZ Fs Lc Lz) fuel l i f w:=by
 simp only[xA]at ho;obtain⟨t,t2,by_,zz,G,he,hb,hni,hz,hzs⟩:=FZ ho.2;have:=Bb ho.1;rw[G]at this;exact Ax.append rfl rfl this rfl hx hy he hb hni hz hzs M hs (k:=3) rfl hr hm hap hle hL hLz k
theorem Xi{G I J M:oO}{b:Nat}{C:Array Value}{E:TypeId}(C':Array Value)(hs:HS w0 F0 w F (G::I::J::M::(some b,.cells C E (0,0))::L))(hle:XI Fs F)(k:∀ w',HS w0 F0 w' F (G::I::J::M::(some b,.cells C' E (0,0))::L)->DWP P n R PQ Post z (DZ Fs Lc Lz) fuel (l.set i true) f w')
  (hx:fev f (stX (Aj R i))=.pointer (some ⟨b,pO (fev f (stX (Aj R i))),none⟩):=by kernel_rfl) (hC:BE C (pO (fev f (stX (Aj R i)))) (fev f (stY (Aj R i))).cells.toList=C':=by kernel_rfl)
  (ho:(ung R i&&(IW (Aj R i)&&(DA P (stT (Aj R i)) (fev f (stY (Aj R i))) (pO (fev f (stX (Aj R i)))) C&&(match A8 R i with | none=>true | some _=>false))))=true:=by kernel_rfl)
  (hL:∀ p,p∈Lc->p∈G::I::J::M::(some b,.cells C' E (0,0))::L:=by simp) (hLz:(l.set i true).toArray.getD z true=false->∀ p,p∈Lz->p∈G::I::J::M::(some b,.cells C' E (0,0))::L:=by first | (intro _;simp;done) | exact zdT (by kernel_rfl)):Ax P n R PQ Post z (DZ Fs Lc Lz) fuel l i f w:=by
 simp only[xA]at ho;obtain⟨U,Y,Z,O⟩:=ho;have e:=D9 Y;have:=Bb U;cases hd:A8 R i with
 | some d=>rw[hd]at O;cases O
 | none=>
  rw[hd]at this;have hp:=hs.put (k:=4) rfl (.cells C' E (0,0));refine XT rfl rfl this rfl ?_ (A0 hp hle hL hLz) (k _ hp);have hr:=Ic (P:=P) (ty:=Gl R i) (w:=w) hx (hs.ownAt (k:=4) rfl) Z hC;rw[<-e]at hr;exact hr
theorem TD{G I J M O:oO}{b:Nat}{C:Array Value}{E:TypeId}(C':Array Value)(hs:HS w0 F0 w F (G::I::J::M::O::(some b,.cells C E (0,0))::L))(hle:XI Fs F)(k:∀ w',HS w0 F0 w' F (G::I::J::M::O::(some b,.cells C' E (0,0))::L)->DWP P n R PQ Post z (DZ Fs Lc Lz) fuel (l.set i true) f w')
  (hx:fev f (stX (Aj R i))=.pointer (some ⟨b,pO (fev f (stX (Aj R i))),none⟩):=by kernel_rfl) (hC:BE C (pO (fev f (stX (Aj R i)))) (fev f (stY (Aj R i))).cells.toList=C':=by kernel_rfl)
  (ho:(ung R i&&(IW (Aj R i)&&(DA P (stT (Aj R i)) (fev f (stY (Aj R i))) (pO (fev f (stX (Aj R i)))) C&&(match A8 R i with | none=>true | some _=>false))))=true:=by kernel_rfl)
  (hL:∀ p,p∈Lc->p∈G::I::J::M::O::(some b,.cells C' E (0,0))::L:=by simp) (hLz:(l.set i true).toArray.getD z true=false->∀ p,p∈Lz->p∈G::I::J::M::O::(some b,.cells C' E (0,0))::L:=by first | (intro _;simp;done) | exact zdT (by kernel_rfl)):Ax P n R PQ Post z (DZ Fs Lc Lz) fuel l i f w:=by
 simp only[xA]at ho;obtain⟨Y,Z,h3,U⟩:=ho;have e:=D9 Z;have:=Bb Y;cases hd:A8 R i with
 | some d=>rw[hd]at U;cases U
 | none=>
  rw[hd]at this;have hp:=hs.put (k:=5) rfl (.cells C' E (0,0));refine XT rfl rfl this rfl ?_ (A0 hp hle hL hLz) (k _ hp);have hr:=Ic (P:=P) (ty:=Gl R i) (w:=w) hx (hs.ownAt (k:=5) rfl) h3 hC;rw[<-e]at hr;exact hr
theorem VV{G I J M O e5:oO}{b:Nat}{C:Array Value}{E:TypeId}(C':Array Value)(hs:HS w0 F0 w F (G::I::J::M::O::e5::(some b,.cells C E (0,0))::L))(hle:XI Fs F)(k:∀ w',HS w0 F0 w' F (G::I::J::M::O::e5::(some b,.cells C' E (0,0))::L)->DWP P n R PQ Post z (DZ Fs Lc Lz) fuel (l.set i true) f w')
  (hx:fev f (stX (Aj R i))=.pointer (some ⟨b,pO (fev f (stX (Aj R i))),none⟩):=by kernel_rfl) (hC:BE C (pO (fev f (stX (Aj R i)))) (fev f (stY (Aj R i))).cells.toList=C':=by kernel_rfl)
  (ho:(ung R i&&(IW (Aj R i)&&(DA P (stT (Aj R i)) (fev f (stY (Aj R i))) (pO (fev f (stX (Aj R i)))) C&&(match A8 R i with | none=>true | some _=>false))))=true:=by kernel_rfl)
  (hL:∀ p,p∈Lc->p∈G::I::J::M::O::e5::(some b,.cells C' E (0,0))::L:=by simp) (hLz:(l.set i true).toArray.getD z true=false->∀ p,p∈Lz->p∈G::I::J::M::O::e5::(some b,.cells C' E (0,0))::L:=by first | (intro _;simp;done) | exact zdT (by kernel_rfl)):Ax P n R PQ Post z (DZ Fs Lc Lz) fuel l i f w:=by
 simp only[xA]at ho;obtain⟨Y,Z,h3,U⟩:=ho;have e:=D9 Z;have:=Bb Y;cases hd:A8 R i with
 | some d=>rw[hd]at U;cases U
 | none=>
  rw[hd]at this;have hp:=hs.put (k:=6) rfl (.cells C' E (0,0));refine XT rfl rfl this rfl ?_ (A0 hp hle hL hLz) (k _ hp);have hr:=Ic (P:=P) (ty:=Gl R i) (w:=w) hx (hs.ownAt (k:=6) rfl) h3 hC;rw[<-e]at hr;exact hr
theorem XA{G I J M O e5 U:oO}{b:Nat}{C:Array Value}{E:TypeId}(C':Array Value)(hs:HS w0 F0 w F (G::I::J::M::O::e5::U::(some b,.cells C E (0,0))::L))(hle:XI Fs F)(k:∀ w',HS w0 F0 w' F (G::I::J::M::O::e5::U::(some b,.cells C' E (0,0))::L)->DWP P n R PQ Post z (DZ Fs Lc Lz) fuel (l.set i true) f w')
  (hx:fev f (stX (Aj R i))=.pointer (some ⟨b,pO (fev f (stX (Aj R i))),none⟩):=by kernel_rfl) (hC:BE C (pO (fev f (stX (Aj R i)))) (fev f (stY (Aj R i))).cells.toList=C':=by kernel_rfl)
  (ho:(ung R i&&(IW (Aj R i)&&(DA P (stT (Aj R i)) (fev f (stY (Aj R i))) (pO (fev f (stX (Aj R i)))) C&&(match A8 R i with | none=>true | some _=>false))))=true:=by kernel_rfl)
  (hL:∀ p,p∈Lc->p∈G::I::J::M::O::e5::U::(some b,.cells C' E (0,0))::L:=by simp) (hLz:(l.set i true).toArray.getD z true=false->∀ p,p∈Lz->p∈G::I::J::M::O::e5::U::(some b,.cells C' E (0,0))::L:=by first | (intro _;simp;done) | exact zdT (by kernel_rfl)):Ax P n R PQ Post z (DZ Fs Lc Lz) fuel l i f w:=by
 simp only[xA]at ho;obtain⟨Z,h2,h3,Y⟩:=ho;have e:=D9 h2;have:=Bb Z;cases hd:A8 R i with
 | some d=>rw[hd]at Y;cases Y
 | none=>
  rw[hd]at this;have hp:=hs.put (k:=7) rfl (.cells C' E (0,0));refine XT rfl rfl this rfl ?_ (A0 hp hle hL hLz) (k _ hp);have hr:=Ic (P:=P) (ty:=Gl R i) (w:=w) hx (hs.ownAt (k:=7) rfl) h3 hC;rw[<-e]at hr;exact hr
end
theorem YP.mono{P:Program}{l:Nat}{args:List Value}{w:World}{S S':Ending->World->Prop}(h:YP P l args w S)(hi:∀ e w',S e w'->S' e w'):YP P l args w S':=
 let ⟨fn,t,a,b,G,I⟩:=h;⟨fn,t,a,b,G,I.mono hi⟩
section
variable {P:Program} {w:World} {ρ:Operand -> Value} {ty:TypeId}
def UH(P:Program)(t:TypeId)(parts:List (Nat×Value)):Option (List Value):=
 match P.underlying t,Bq P t with
 | some (.array _ e),some z=>match P.info? e with
  | some i=>match Instr.fill (fun k=>some (k * i.size,i.size)) z.cells parts with
   | some cs=>some cs.toList
   | none=>none
  | none=>none
 | _,_=>none
theorem KD{t:TypeId}{parts:Array (Nat×Operand)}{vs:List (Nat×Value)}{cs:List Value}(hv:parts.toList.map (fun p=>(p.1,ρ p.2))=vs)(hb:UH P t vs=some cs):
  (Am ρ (.build t parts) ty).run P w=.ok (.value (.agg cs.toArray)) w:=by
 subst hv;unfold UH at hb;split at hb
 ·rename_i n e z hu hz;split at hb
  ·rename_i i hi;split at hb
   ·rename_i cs' hfill;simp only[xI]at hb;subst hb;have G:Am ρ (.build t parts) ty=(do pure (Next.value (<-Instr.build t (parts.map fun(i,x)=>(i,ρ x))))):=rfl;have hzv:(zeroValue t).run P w=.ok z w:=by
     unfold Bq at hz;split at hz
     ·rename_i i hi;simp[zeroValue,typeInfo,hi,hz]
     ·cases hz
    rw[G];simp only[Instr.build,xE,hzv,xC,run_underlying hu,Dp hi];have hl:(parts.map fun(i,x)=>(i,ρ x)).toList=parts.toList.map (fun p=>(p.1,ρ p.2)):=by simp
    rw[hl,hfill];simp
   ·cases hb
  ·cases hb
 ·cases hb
theorem Sv{t E:TypeId}{len:Nat}{x y:Operand}{k:IntKind}{i:Int}{cs:List Value}{v:Value}(hx:ρ x=.agg cs.toArray)(hy:ρ y=.int k i)(hu:P.underlying t=some (.array len E))(ht:Ef P E=some (false,1))(hlen:cs.length=len)(hv:idx cs i=some v):
  (Am ρ (.index t x y) ty).run P w=.ok (.value v) w:=by
 obtain⟨⟨h0,h1⟩,G⟩:=Af hv;have hc:Ap cs.toArray (i.toNat * 1) 1=[v]:=by
  rw[Nat.mul_one];exact Jz.2 (by simpa using G)
 have hp:=HD (P:=P) (t:=E) (C:=cs.toArray) (o:=i.toNat * 1) ht (by rw[hc];rfl) (.inr rfl) w;rw[hc]at hp;simp only[Am,execOp,hx,hy,Instr.index,asIntOf,xE,xH,xC,run_underlying hu,C7 ht];rw[if_pos (show 0<=i/\i < (len:Int)by omega)];simp only[xE,C7 ht,xC];rw[hp];rfl
theorem Q8{α:Type}{f:α->Value}{l:List α}{i:Int}{x:α}(h:idx l i=some x):idx (l.map f) i=some (f x):=by
 obtain⟨⟨G,h1⟩,I⟩:=Af h;unfold idx;rw[if_pos G,zV,I];rfl
def toB(l:List Int):X6:=l.map fun n=>UInt8.ofNat n.toNat
theorem Oi:∀(ns:List Int)(A:Array UInt8),ns.foldl (fun r n=>ByteArray.push r (UInt8.ofNat n.toNat)) ⟨A⟩=⟨A++(toB ns).toArray⟩
 | [],A=>by simp[toB]
 | n::ns,A=>by
  rw[List.foldl_cons];have:ByteArray.push ⟨A⟩ (UInt8.ofNat n.toNat)=⟨A.push (UInt8.ofNat n.toNat)⟩:=rfl;rw[this,Oi ns];simp[toB]
theorem Vc{w0:World}{F0 F:Mem}{L:Own}{s d E:TypeId}{x:Operand}{a:X7}{cap q:Nat}{l:List Int}{e:oO}(hx:ρ x=.slice a l.length cap)(hs:P.underlying s=some (.slice E))(hE:P.underlying E=some (.int .u8))(hd:P.underlying d=some .string)
  (hh:HS w0 F0 w F L) (hq:L[q]? =some e) (hr:Ak tU8 E F a cap l e):(Am ρ (.convert s d x) ty).run P w=.ok (.value (.string ⟨(toB l).toArray⟩)) w:=by
 have J:Am ρ (.convert s d x) ty=(do pure (Next.value (<-convert s d (ρ x)))):=rfl;rw[J,hx,xE,run_convert_bytes_string w s d E a l.length cap hs hE hd];rcases hr.2 with⟨rfl,rfl,rfl,_⟩ | ⟨b,C,rfl,rfl,hc,hsz,hR⟩
 ·rfl
 ·have hb:=hh.ownAt hq;have hl:=run_loadCells_list (P:=P) (w:=w) ⟨b,0,none⟩ (l.map (Value.int .u8)) (fun j v hj=>by
   rw[zV]at hj;cases hlj:l[j]? with
   | none=>rw[hlj]at hj;cases hj
   | some n=>
    rw[hlj]at hj;cases hj;have I:Ap C (j * 1) 1=[.int .u8 n]:=hR j n hlj;rw[Nat.mul_one]at I;have G:=Jz.1 I;rw[Addr.add_lit];simp[World.cell?,hb,G])
  rw[List.length_map]at hl;have G:=run_bytesToString (P:=P) w ⟨b,0,none⟩ l.length cap l (by rw[hl]);rw[G,show ByteArray.empty=⟨#[]⟩from rfl,Oi];simp[Result.andThen]
end
section
variable {P:Program} {n:Nat} {R:Array Oper} {f:Fr} {w:World} {PQ:List PanicEntry -> List Deferred -> World -> Prop} {Post:Fr -> World -> Prop} {z:Nat} {fuel:Nat} {l l':List Bool} {zd:Bool} {i:Nat} {dst:Option Nat} {ty:TypeId} {g:Option (Nat × Bool)}
theorem Ax.callO{w0:World}{F0 F Fs:Mem}{L Lc Lz:List oO}{f0:Operand}{aos:Array Operand}{ats:Array TypeId}{fid:FuncId}{first cap:Array Value}{args:List Value}{post:Mem->Value->Own->Prop}
  (hl:l.set i true=l') (hzd:l'.toArray.getD z true=zd) (I:l.toArray.getD z true=zd)
  (ho:opq R i=some (dst,.call {callee:=.value f0,args:=aos,argTypes:=ats},ty,g)) (hg:gd R f g=true) (hf:fev f f0=.func (.func fid) first cap) (hok:Ag P fid)
  (ha:first.toList++aos.toList.map (fev f)++cap.toList=args) (hs:HS w0 F0 w F L) (hc:Calls P fid args.toArray w (MU w F post))
  (k:∀ v F1 w1 L',HS w0 F0 w1 F1 (L'++L)->XI F F1->post F1 v L'->DWP P n R PQ Post z (DZ Fs Lc Lz) fuel l' (A1 f dst v) w1):Ax P n R PQ Post z (DZ Fs Lc Lz) fuel l i f w:=by
 intro hokR hns hS a haf;obtain⟨o,hR,hd,hop,hty,hgd⟩:=CK ho;unfold GZ wpOpIn;simp only[hR];rw[haf.wanted R o,hgd,hg];simp only[if_true];refine⟨Bp,?_⟩;show o.uponIn (FW none) 0 P a _ _ ((execOp a.eval o).run P w);rw[CE,haf.evalF,hop,hty,Ek hf hok ha];simp only[Oper.uponIn];refine⟨(fun h=>by cases h),(EG hc).mono ?_⟩;rintro e w' ⟨r,F',L',rfl,G,J⟩;simp only;rw[I]at hS;have hS':DZ Fs Lc Lz zd w':=hS.keep G.keep;rw[hl,hd,hzd];exact⟨hS',k r F' w' L' (hs.callO G) G.le J hokR hns (by rw[hzd];exact hS') _ (haf.put (by rw[<-hd];exact Ew hokR hR) r)⟩
theorem Ax.callS{Fs:Mem}{Lc Lz:Own}{f0:Operand}{aos:Array Operand}{ats:Array TypeId}{fid:FuncId}{first cap:Array Value}{args:List Value}{S:Ending->World->Prop}
  (hl:l.set i true=l') (hzd:l'.toArray.getD z true=zd)
  (ho:opq R i=some (dst,.call {callee:=.value f0,args:=aos,argTypes:=ats},ty,g)) (hg:gd R f g=true) (hf:fev f f0=.func (.func fid) first cap) (hok:Ag P fid)
  (ha:first.toList++aos.toList.map (fev f)++cap.toList=args) (hc:Calls P fid args.toArray w S)
  (k:∀ e w',S e w'->∃ v,e=.returned v/\DZ Fs Lc Lz zd w'/\DWP P n R PQ Post z (DZ Fs Lc Lz) fuel l' (A1 f dst v) w'):Ax P n R PQ Post z (DZ Fs Lc Lz) fuel l i f w:=by
 intro hokR hns hS a haf;obtain⟨o,hR,hd,hop,hty,hgd⟩:=CK ho;unfold GZ wpOpIn;simp only[hR];rw[haf.wanted R o,hgd,hg];simp only[if_true];refine⟨Bp,?_⟩;show o.uponIn (FW none) 0 P a _ _ ((execOp a.eval o).run P w);rw[CE,haf.evalF,hop,hty,Ek hf hok ha];simp only[Oper.uponIn];refine⟨(fun h=>by cases h),(EG hc).mono ?_⟩;intro e w' he;obtain⟨v,rfl,hS',hk⟩:=k e w' he;simp only;rw[hl,hd,hzd];exact⟨hS',hk hokR hns (by rw[hzd];exact hS') _ (haf.put (by rw[<-hd];exact Ew hokR hR) v)⟩
theorem Ax.callLentP{w0:World}{F0 F Fs:Mem}{L Lc Lz:List oO}{f0:Operand}{aos:Array Operand}{ats:Array TypeId}{fid:FuncId}{first cap:Array Value}{args:List Value}{q:Nat}{e:oO}{v0:Value}
  (hl:l.set i true=l') (hzd:l'.toArray.getD z true=zd) (I:l.toArray.getD z true=zd)
  (ho:opq R i=some (dst,.call {callee:=.value f0,args:=aos,argTypes:=ats},ty,g)) (hg:gd R f g=true) (hf:fev f f0=.func (.func fid) first cap) (hok:Ag P fid)
  (ha:first.toList++aos.toList.map (fev f)++cap.toList=args) (hs:HS w0 F0 w F L) (hk:L[q]? =some e) (hc:Calls P fid args.toArray w (AD w (Ib F e) fun _ v=>v=v0))
  (k:∀ F1 w1,HS w0 F0 w1 F1 L->XI F F1->DWP P n R PQ Post z (DZ Fs Lc Lz) fuel l' (A1 f dst v0) w1):Ax P n R PQ Post z (DZ Fs Lc Lz) fuel l i f w:=by
 intro hokR hns hS a haf;obtain⟨o,hR,hd,hop,hty,hgd⟩:=CK ho;unfold GZ wpOpIn;simp only[hR];rw[haf.wanted R o,hgd,hg];simp only[if_true];refine⟨Bp,?_⟩;show o.uponIn (FW none) 0 P a _ _ ((execOp a.eval o).run P w);rw[CE,haf.evalF,hop,hty,Ek hf hok ha];simp only[Oper.uponIn];refine⟨(fun h=>by cases h),(EG hc).mono ?_⟩;rintro e' w' ⟨_,F',rfl,G,rfl⟩;simp only;rw[I]at hS;have hS':DZ Fs Lc Lz zd w':=hS.keep G.keep;obtain⟨J,M⟩:=hs.lentCall hk G;rw[hl,hd,hzd];exact⟨hS',k _ w' J M hokR hns (by rw[hzd];exact hS') _ (haf.put (by rw[<-hd];exact Ew hokR hR) _)⟩
end
section
variable {P:Program} {n:Nat} {R:Array Oper} {Q:Exit -> Fr -> World -> Prop} {w w0:World} {F0 F:Mem} {L:Own} {f:Fr} {i:Nat} {rest:List Nat} {dst:Option Nat} {ty:TypeId} {g:Option (Nat × Bool)} {ro:Option Nat}
theorem RWP.callLentP{f0:Operand}{aos:Array Operand}{ats:Array TypeId}{fid:FuncId}{first cap:Array Value}{args:List Value}{q:Nat}{e:oO}{v0:Value}
  (ho:opq R i=some (dst,.call {callee:=.value f0,args:=aos,argTypes:=ats},ty,g)) (hg:gd R f g=true) (hf:fev f f0=.func (.func fid) first cap) (hok:Ag P fid)
  (ha:first.toList++aos.toList.map (fev f)++cap.toList=args) (hs:HS w0 F0 w F L) (hk:L[q]? =some e)
  (hc:Calls P fid args.toArray w (AD w (Ib F e) fun _ v=>v=v0))
  (k:∀ F1 w1,HS w0 F0 w1 F1 L->XI F F1->RWP P ro n R Q rest (A1 f dst v0) w1):RWP P ro n R Q (i::rest) f w:=by
 refine XG ho hg (Ek hf hok ha) hc ?_;rintro e w' ⟨_,F',rfl,G,rfl⟩;obtain⟨I,J⟩:=hs.lentCall hk G;exact k _ w' I J
end
section
variable {P:Program} {w:World} {ρ:Operand -> Value} {ty:TypeId}
theorem Ie{mt k vt:TypeId}{d:TypeDesc}{m x:Operand}{b clk:Nat}{es:Array MapEntry}{kv v:Value}{j:Nat}(hm:ρ m=.map (some b))(hx:ρ x=kv)(hu:P.underlying mt=some (.map k vt))(hk:P.underlying k=some d)(hkey:MapKept.IsKey d kv)
  (hb:w.heap[b]? =some (.map es clk)) (hf:Instr.findNow d kv es.toList 0=some (some (j,v))):(Am ρ (.lookup mt m x true) ty).run P w=.ok (.value (.tuple #[v,.bool true])) w:=by
 have e:Am ρ (.lookup mt m x true) ty=(do pure (Next.value (<-Instr.lookup mt (ρ m) (ρ x) true))):=rfl;rw[e,hm,hx];simp[Instr.lookup,run_underlying hu,MapKept.run_getObj_map hb,MapKept.run_checkKey hk hkey,MapKept.run_findKey hk hf,Result.andThen]
theorem PT{mt k vt:TypeId}{d:TypeDesc}{m x:Operand}{b clk:Nat}{es:Array MapEntry}{kv z:Value}(hm:ρ m=.map (some b))(hx:ρ x=kv)(hu:P.underlying mt=some (.map k vt))(hz:Bq P vt=some z)(hk:P.underlying k=some d)(hkey:MapKept.IsKey d kv)
  (hb:w.heap[b]? =some (.map es clk)) (hf:Instr.findNow d kv es.toList 0=some none):(Am ρ (.lookup mt m x true) ty).run P w=.ok (.value (.tuple #[z,.bool false])) w:=by
 have hzv:(zeroValue vt).run P w=.ok z w:=by
  unfold Bq at hz;split at hz
  ·rename_i i hi;simp[zeroValue,typeInfo,hi,hz]
  ·cases hz
 have e:Am ρ (.lookup mt m x true) ty=(do pure (Next.value (<-Instr.lookup mt (ρ m) (ρ x) true))):=rfl;rw[e,hm,hx];simp[Instr.lookup,run_underlying hu,MapKept.run_getObj_map hb,MapKept.run_checkKey hk hkey,MapKept.run_findKey hk hf,hzv,Result.andThen]
theorem R7{x c:Int}{v:Value}{clk i:Nat}{es:List MapEntry}(h:(x==c)=true):Instr.findNow (.int .i64) (.int .i64 x) (⟨.int .i64 c,v,clk⟩::es) i=some (some (i,v)):=by
 simp[Instr.findNow,Instr.sameNow,h]
theorem JX{x c:Int}{v:Value}{clk i:Nat}{es:List MapEntry}{r:Option (Option (Nat×Value))}(h:(x==c)=false)(k:Instr.findNow (.int .i64) (.int .i64 x) es (i + 1)=r):Instr.findNow (.int .i64) (.int .i64 x) (⟨.int .i64 c,v,clk⟩::es) i=r:=by
 simp only[Instr.findNow,Instr.sameNow,if_true,h];exact k
end
section
variable {P:Program} {w0 w:World} {F0 F:Mem} {L:List (Option Nat × Obj)} {α:Type} {T:Ty α} {E:TypeId} {l m:List α} {b cap:Nat} {C:Array Value}
theorem Sj{t t2 ty:TypeId}{by_ c2:Nat}{a2:X7}(he:A2 P t=some (E,T.sz,by_))(hni:Og P t2=true)
  (I:T.One) (hs:HS w0 F0 w F L) {k:Nat} (hk:L[k]? =some (some b,.cells C E (0,0))) (hr:Ak T E F (some ⟨b,0,none⟩) cap l (some b,.cells C E (0,0))) (hm:Rd T F w a2 m) (hfit:l.length + m.length<=cap) (hlen:l.length + m.length < 4398046511104):
  ∃ C',C'.size=C.size/\(Builtin.append_ #[t,t2] ty #[.slice (some ⟨b,0,none⟩) l.length cap,.slice a2 m.length c2]).run P w=.ok (.slice (some ⟨b,0,none⟩) (l++m).length cap) (Ct w b (.cells C' E (0,0)))/\Ak T E F (some ⟨b,0,none⟩) cap (l++m) (some b,.cells C' E (0,0)):=by
 obtain⟨i,hu,hi,his,hib⟩:=EM he;obtain⟨new,hnew,hload⟩:=hm.load (P:=P) c2;have hnl:=hnew.len;obtain⟨G,hd⟩:∃ G,P.underlying t2=some (.slice G):=by
  unfold Og at hni;split at hni
  ·rename_i G h;exact⟨G,h⟩
  ·cases hni
 unfold Builtin.append_;simp only[yO,yB,yC,xE,run_underlying hu,xC,Dp hi,his];simp only[run_underlying hd,xC,xH,xR,if_false,Builtin.lenOf];simp only[pure_bind];rw[if_pos hfit];simp only[zM,if_true,xE,hload,xC];rcases hr.2 with⟨h,_⟩ | ⟨b',C0,hb',hc',hlc,hC,hx⟩
 ·cases h
 ·cases hb';cases hc';have hC1:l.length * T.sz + new.length<=C.size:=by rw[hC,hnl,<-yI];exact xU _ hfit
  have hst:=CR (P:=P) E new w b (l.length * T.sz) 0 C (hs.ownAt hk) (by simpa using hC1) (hnew.one I);refine⟨BE C (l.length * T.sz) new,Ca _ _ _,?_,?_⟩
  ·simp only[Addr.add_lit,wA];simp only[zZ]at hst;rw[hst];simp
  ·have hrow:C4 T F l (Ap C 0 (l.length * T.sz)):=by
    by_cases hl:l=[]
    ·subst hl;simp[C4,Ap]
    ·exact Iy hl (fun i x hi=>by rw[wA];exact hx i x hi)
   have hlr:=hrow.len;refine⟨by simpa using hlen,.inr ⟨b,_,rfl,rfl,by simpa using hfit,by rw[Ca,hC],fun i x hix=>?_⟩⟩;have:=(C4.append hrow hnew).get i x hix;have hii:i < (l++m).length:=by
    rcases xM i (l++m).length with h' | h'
    ·exact h'
    ·rw[xG h']at hix;cases hix
   have hle:i * T.sz + T.sz<=(Ap C 0 (l.length * T.sz)++new).length:=by
    rw[xJ,hlr,hnl,<-yI,<-yV];exact xU _ (Nat.succ_le_of_lt (by simpa using hii))
   have J:Ap C 0 (l.length * T.sz)=C.toList.take (l.length * T.sz):=by simp[Ap]
   unfold Ap;rw[Ec hC1];rw[J]at this hle;rw[xX (by omega),xT (by simp only[yK];omega)];exact this
theorem NR{t t2:TypeId}{by_ c2:Nat}{a2:X7}(he:A2 P t=some (E,T.sz,by_))(hni:Og P t2=true)
  (G:T.One) (hs:HS w0 F0 w F L) {k:Nat} (hk:L[k]? =some (some b,.cells C E (0,0))) (hr:Ak T E F (some ⟨b,0,none⟩) cap l (some b,.cells C E (0,0))) (hm:Rd T F w a2 m) (hfit:l.length + m.length<=cap) (hlen:l.length + m.length < 4398046511104):
  ∃ C',C'.size=C.size/\Ak T E F (some ⟨b,0,none⟩) cap (l++m) (some b,.cells C' E (0,0))/\ ∀{ρ:Operand->Value} {x y:Operand} {ty:TypeId},ρ x=.slice (some ⟨b,0,none⟩) l.length cap->ρ y=.slice a2 m.length c2->
   (Am ρ (.call {callee:=.builtin .append,args:=#[x,y],argTypes:=#[t,t2]}) ty).run P w=.ok (.value (.slice (some ⟨b,0,none⟩) (l++m).length cap)) (Ct w b (.cells C' E (0,0))):=by
 have key:=fun ty=>Sj (ty:=ty) (c2:=c2) he hni G hs hk hr hm hfit hlen;obtain⟨C',I,J,M⟩:=key 0;refine⟨C',I,M,fun{ρ x y ty} hx hy=>?_⟩;have O:(Builtin.append_ #[t,t2] ty #[.slice (some ⟨b,0,none⟩) l.length cap,.slice a2 m.length c2]).run P w=.ok (.slice (some ⟨b,0,none⟩) (l++m).length cap) (Ct w b (.cells C' E (0,0))):=J;have U:Am ρ (.call {callee:=.builtin .append,args:=#[x,y],argTypes:=#[t,t2]}) ty=(do pure (Next.value (<-Builtin.append_ #[t,t2] ty (Array.map ρ #[x,y])))):=rfl;rw[U,map_toArray];simp only[yY,zD,hx,hy];rw[xE,O];rfl
theorem Qu{o i:Nat}{vs:List Value}(ho:o + vs.length<=C.size)(hi:i * T.sz + T.sz<=o):Ap (BE C o vs) (i * T.sz) T.sz=Ap C (i * T.sz) T.sz:=by
 unfold Ap;rw[Ec ho,xY,xX (by simp;omega),xT (by simp;omega),wV,List.take_take,zN (by omega)]
theorem PW{t:TypeId}{by_ j k c:Nat}{z:Value}(he:A2 P t=some (E,T.sz,by_))(hz:Bq P E=some z)(hzs:z.cells.size=T.sz)(G:z.cells.toList.all (·.oneCell')=true)
  (hb:w.heap[b]? =some (.cells C E (0,0))) (hk:0 < k) (hfit:j * T.sz + k * T.sz<=C.size):
  ∃ vs,vs.length=k * T.sz/\ ∀{ρ:Operand->Value} {x:Operand} {ty:TypeId},ρ x=.slice (some ⟨b,j * T.sz,none⟩) k c->(Am ρ (.call {callee:=.builtin .clear,args:=#[x],argTypes:=#[t]}) ty).run P w=.ok (.value (.tuple #[])) (Ct w b (.cells (BE C (j * T.sz) vs) E (0,0))):=by
 obtain⟨i,hu,hi,his,hib⟩:=EM he;have hzv:(zeroValue E).run P w=.ok z w:=by
  unfold Bq at hz;rw[hi]at hz;simp[zeroValue,typeInfo,hi,hz]
 have hsz:(Builtin.zeroCells z.cells k).toList.length=k * T.sz:=by simp[Builtin.zeroCells,hzs]
 have hone:(Builtin.zeroCells z.cells k).toList.all (·.oneCell')=true:=by
  rw[xQ]at G ⊢;intro v hv;simp only[Builtin.zeroCells,Array.toList_map,List.mem_map]at hv;obtain⟨q,hq,rfl⟩:=hv;have hq':q < k * z.cells.size:=by simpa using hq
  have hpos:0 < z.cells.size:=by
   rcases wD z.cells.size with h | h
   ·rw[h]at hq';simp at hq'
   ·exact h
  have hlt:=Nat.mod_lt q hpos;rw[getElem!_pos z.cells _ hlt];exact G _ (by simp)
 have hst:=CR (P:=P) E (Builtin.zeroCells z.cells k).toList w b (j * T.sz) 0 C hb (by rw[hsz];simpa using hfit) hone;refine⟨(Builtin.zeroCells z.cells k).toList,hsz,fun{ρ x ty} hx=>?_⟩;have e:Am ρ (.call {callee:=.builtin .clear,args:=#[x],argTypes:=#[t]}) ty=(do pure (Next.value (<-Builtin.clear_ #[t] ty (Array.map ρ #[x])))):=rfl;rw[e,map_toArray];simp only[yY,zD,hx];obtain⟨k',rfl⟩:∃ k',k=k' + 1:=⟨k - 1,by omega⟩;simp only[zZ]at hst;simp[Builtin.clear_,run_underlying hu,hzv,hst,Result.andThen]
theorem Tx{cs ws vs:List Value}{o s d:Nat}(hc:Ap C o s=cs)(hl:cs.length=s)(hd:d + vs.length<=s)(hw:cs.take d++vs++cs.drop (d + vs.length)=ws)(ho:o + s<=C.size):BE C (o + d) vs=BE C o ws/\ws.length=s:=by
 have hwl:ws.length=s:=by
  rw[<-hw];simp only[xJ,yG,yK];omega
 refine⟨?_,hwl⟩;apply Array.toList_inj.1;rw[Ec (by omega),Ec (by omega),hwl,<-hw];have G:C.toList.take (o + d)=C.toList.take o++cs.take d:=by
  rw[List.take_add,<-hc];unfold Ap;rw[List.take_take,zN (by omega)]
 have I:C.toList.drop (o + d + vs.length)=cs.drop (d + vs.length)++C.toList.drop (o + s):=by
  have e:C.toList.drop o=cs++C.toList.drop (o + s):=by
   rw[<-hc];unfold Ap;rw[<-zW,wK]
  rw[Nat.add_assoc,<-zW,e,xX (by omega)]
 rw[G,I];simp only[xY]
theorem OQ{f:Fr}{x y:Operand}{t ty:TypeId}{v:Value}{gg:Bool}{j d s:Nat}{a:X7}{q u:α}{cs ws:List Value}(hx:fev f x=.pointer (some ⟨b,j * T.sz + d,none⟩))(hy:fev f y=v)(ht:Ef P t=some (gg,s))
  (hs:HS w0 F0 w F L) {k:Nat} (hk:L[k]? =some (some b,.cells C E (0,0))) (hr:Ak T E F a cap l (some b,.cells C E (0,0))) (hq:l[j]? =some q) (hc:Ap C (j * T.sz) T.sz=cs) (hsz:v.cells.size=s) (hd:decide (d + s<=T.sz)=true) (hw:cs.take d++v.cells.toList++cs.drop (d + v.cells.toList.length)=ws) (hu:T.R F ws u) (G:v.cells.toList.all (·.oneCell')=true):
  ∃ C' w',(Am (fev f) (.store t x y) ty).run P w=.ok .skip w'/\HS w0 F0 w' F (L.set k (some b,.cells C' E (0,0)))/\Ak T E F a cap (l.set j u) (some b,.cells C' E (0,0)):=by
 have hj:j < l.length:=by
  rcases xM j l.length with h' | h'
  ·exact h'
  ·rw[xG h']at hq;cases hq
 have hd':d + s<=T.sz:=by simpa using hd
 have hle:j * T.sz + T.sz<=C.size:=by
  rcases hr.2 with⟨_,_,rfl,_⟩ | ⟨b',C',G,I,h3,J,h5⟩
  ·simp at hq
  ·cases I;rw[J,<-yV];exact xU _ (by omega)
 have hcl:cs.length=T.sz:=by rw[<-hc];simp[Ap];omega
 have hvl:v.cells.toList.length=s:=by simpa using hsz
 obtain⟨e,_⟩:=Tx hc hcl (by omega) hw hle;refine⟨_,_,KC hx hy ht (hs.ownAt hk) hsz (by simp;omega) G rfl,hs.put hk _,?_⟩;rw[e];exact hr.set hq hu
theorem RWP.storeRowP{n:Nat}{R:Array Oper}{Q:Exit->Fr->World->Prop}{f:Fr}{i:Nat}{rest:List Nat}{g:Option (Nat×Bool)}{ro:Option Nat}{x y:Operand}{t ty:TypeId}{v:Value}{gg:Bool}{j d s:Nat}{a:X7}{q u:α}{cs ws:List Value}(ho:opq R i=some (none,.store t x y,ty,g))(hg:gd R f g=true)(hx:fev f x=.pointer (some ⟨b,j * T.sz + d,none⟩))(hy:fev f y=v)(ht:Ef P t=some (gg,s))
  (hs:HS w0 F0 w F L) {k:Nat} (hk:L[k]? =some (some b,.cells C E (0,0))) (hr:Ak T E F a cap l (some b,.cells C E (0,0))) (hq:l[j]? =some q) (hc:Ap C (j * T.sz) T.sz=cs) (hsz:v.cells.size=s) (hd:decide (d + s<=T.sz)=true) (hw:cs.take d++v.cells.toList++cs.drop (d + v.cells.toList.length)=ws) (hu:T.R F ws u) (G:v.cells.toList.all (·.oneCell')=true)
  (kk:∀ C' w',HS w0 F0 w' F (L.set k (some b,.cells C' E (0,0)))->Ak T E F a cap (l.set j u) (some b,.cells C' E (0,0))->RWP P ro n R Q rest f w'):RWP P ro n R Q (i::rest) f w:=by
 obtain⟨C',w',I,J,M⟩:=OQ (ty:=ty) hx hy ht hs hk hr hq hc hsz hd hw hu G;exact RWP.unit ho hg I (kk C' w' J M)
end
theorem fIe{f:Fr}{d:List Deferred}{l l':List (Nat×Value)}(e:l=l')(h:FI f d l):FI f d l':=e ▸ h
theorem Fm{α β:Type}{o:Option α}{f:α->Option β}{r:β}{C:Prop}(h:o.bind f=some r)(k:∀ x,o=some x->f x=some r->C):C:=let ⟨x,G,I⟩:=bS h;k x G I
theorem frE{α:Type}{p q r:α->Prop}{C:Prop}(h:∃ x,p x/\q x/\r x)(k:∀ x,p x->q x->r x->C):C:=let ⟨x,G,I,J⟩:=h;k x G I J
abbrev Sa(x:(X6×Bool)):List Value:=[.string ⟨(x.1).toArray⟩,.bool x.2]
abbrev T7(_:Mem)(_:(X6×Bool)):Prop:=True
abbrev TY(x:(X6×Bool)):(X6×Bool):=x
theorem kl9:KL Tryz.prog 9 AR:=KL.ofString (by kernel_rfl)
def V3(x:As):Value:=.agg #[.int .i64 x.at_,.int .i64 x.stage_,.int .i64 x.num_,.int .i64 x.minute_]
def UA(x y:As):Bool:=((x.at_==y.at_)&&((x.stage_==y.stage_)&&((x.num_==y.num_)&&((x.minute_==y.minute_)&&true))))
theorem WE(x y:As):UA x y=decide (x=y):=by
 rw[yS];unfold UA;simp only[xA,beq_iff_eq,decide_eq_true_eq,and_true];constructor
 ·intro h;obtain⟨_,_,_,_⟩:=x;obtain⟨_,_,_,_⟩:=y
  simp_all [As.mk.injEq]
 ·rintro rfl;simp
theorem V6:KL Tryz.prog 143 AG:=KL.ofStruct (d:=8) (by decide) V3 (fun h=>by obtain⟨_,rfl,rfl⟩:=h;rfl) (by kernel_rfl) (fun x=>by kernel_rfl) UA (fun x y=>by kernel_rfl) WE (fun x=>by simp[V3,Instr.sameBits,beq_toListBytes])
theorem nR{P:Program}{ro:Option Nat}{n:Nat}{R:Array Oper}{c:Code}{Q Q':Exit->Fr->World->Prop}{f:Fr}{w:World}(l:List Nat)(h:RWP P ro n (Mg (cs1 c)) (IE (CWP P ro n (cs2 c) Q) Q) l f w)(hk:kin c=3:=by kernel_rfl)(h1:kin (cs1 c)=1:=by kernel_rfl)(hok:okR n (Mg (cs1 c))=true:=by kernel_rfl)(hl:List.range (Mg (cs1 c)).size=l:=by kernel_rfl):RWP P ro n R (IE (CWP P ro n c Q) Q') [] f w:=Nt (sR l h hk h1 hok hl)
abbrev cA(n:Nat)(l:List Value)(w0:World)(F0:Mem)(x:Value):Prop:=Calls Tryz.prog n (lA l) w0 (AD w0 F0 fun _ v=>v=x)
def AU(N:Nat)(I:(List AV))(J:(AV->Option Bool)):Int->Option (Ba Int Int):=fun G=>
 (bif(decide (G < (I.length:Int)))then((idx I G).bind fun M=>((J M).bind fun O=>(bif O then some (.ret G)else some (.next (W64 (G + 1))))))else some (.done G))
def Bz(N:Nat)(G:(List AV))(I:(AV->Option Bool)):Option Int:=
 ((AJ (AU N G I) N 0).bind fun o=>o.k (fun r=>some r) (fun h0=>some (-1)))
theorem Eg(N:Nat)(w0:World)(F0:Mem)(hF:X8 w0 F0)(G:(List AV))(U:X7)(Y:Nat)(hz:LC G.length Y)(h6:SlA JN F0 U G)(J:FuncId)(Z h0:List Value)(x1:AV->Option Bool)(h7:Ag Tryz.prog J)(h8:RB F0 J Z h0 x1)(r:Int)(h:Bz N G x1=some r):
  cA 183 [sL U G Y,.func (.func J) Z.toArray h0.toArray] w0 F0 (vi r):=by
 have h9:=XK hF;refine Go 19 Tryz.func183<|sR [0]<|Vs 1<|Nss<|sR [0,1,2]<|Vs 3<|Nt ?_;obtain⟨h2,ha,h3⟩:=bS h;refine XP (fun f w=>∃(h4:Int)(F2:_),h2=.done h4/\HS w0 F0 w F2 []/\XI F0 F2/\FI f [] []) ?_ ?_
 ·refine Bk<|XH (by kernel_rfl) (fun m f w=>∃(I:Int)(F1:Mem),AJ (AU N G x1) m I=some h2/\HS w0 F0 w F1 []/\XI F0 F1/\FI f [] [(0,(sL U G Y)),(1,(.func (.func J) Z.toArray h0.toArray)),(7,(vi (G.length:Int))),(8,(vi I))]) N ⟨0,F0,ha,h9,XJ _,fI⟩ ?_;rintro b0 f hb ⟨I,F1,hc,M,O,⟨_,rfl⟩⟩;obtain⟨hd,b1,rfl,he,h1⟩:=AE hc;refine sR [0]<|Vs 1<|Nss<|Cd he (fun hf hg=>?_) (fun hf hh=>?_)
  ·refine Sc<|Ab<|Sq<|Bk<|sR [0,1]<|Vs 2<|nR (rG 6)<|Vs 3 ?_;obtain⟨hk,hl,hm⟩:=bS hg;obtain⟨hn,hx48'⟩:=Af hl;obtain⟨b2,b3,b4,b5,b6,rfl,hF57,hE58⟩:=XQ (XL h6 O) hx48';have ho:=hE58 _ _ hx48';refine Ix hn<|Lx 0 (M.pers _ _ hF57) ho ?_;obtain⟨b7,hp,hq⟩:=bS hm;refine Cq h7 M (h8 hb F1 hk _ O M.pers hp) ?_;rintro _ F3 b8 h5 hr rfl;refine Nt<|Cd hq (fun hs ht=>?_) (fun hs hu=>?_)
   ·refine sR [0,1]<|Vs 2<|Nt<|Rt<|Ao<|Ad<|Ad<|Ao ?_;have hret:=Bc ht h1;subst hret;refine .inr<|Ad ?_;obtain rfl:=Aa h3;exact Re [vi I] h5 rfl
   ·refine Sc<|Aq<|Ab<|Rg [0,1]<|Vs 2<|XE ?_;have hv:=AC hu h1;exact⟨hd,xF _,W64 (I + 1),F3,hv,h5,O.t hr,fI⟩
  ·refine Ex<|An<|An<|Ay rfl ?_;have hw:=AF hh h1;exact .inl ⟨rfl,I,F1,hw,M,O,fI⟩
 ·rintro f b9 ⟨h4,F2,rfl,hx,ba,⟨_,rfl⟩⟩;have hy:=A6 h3;refine Ab<|sR [0]<|Vs 1<|Nt<|Rt ?_;obtain rfl:=Aa hy;exact Re [vi (-1)] hx rfl
def A3(N:Nat)(G:(List AV))(I:(AV->Option Bool)):Option Bool:=
 ((Bz N G I).bind fun J=>some (decide (J>=0)))
theorem DK(N:Nat)(w0:World)(F0:Mem)(hF:X8 w0 F0)(G:(List AV))(J:X7)(M:Nat)(h0:LC G.length M)(h1:SlA JN F0 J G)(I:FuncId)(O U:List Value)(Y:AV->Option Bool)(h2:Ag Tryz.prog I)(h3:RB F0 I O U Y)(r:Bool)(h:A3 N G Y=some r):
  cA 137 [sL J G M,.func (.func I) O.toArray U.toArray] w0 F0 (.bool r):=by
 have Z:=XK hF;refine Go 9 Tryz.func137<|sR [0]<|Vs 1<|nR (rG 5)<|Vs 2 ?_;obtain⟨h4,h5,h6⟩:=bS h;refine Cl' (cO 183) Z (Eg N w0 F0 Z.pers G J M h0 h1 I O U Y h2 (fun w1 F1 y0 r h7 h8 h9=>h3 w1 F1 y0 r h7 h8 h9) _ h5) ?_;rintro _ F1 hb ha hc rfl;refine Vs 2<|Nt<|Rt ?_;obtain rfl:=Aa h6;exact Re [.bool (decide (h4>=0))] ha rfl
abbrev cP:=Calls Tryz.prog
def C3(N:Nat)(G:Ac)(I:Ae):Option (List AV):=
 some [({has_:=G.Report,n_:=I.Report,most_:=599,digits_:=1}:AV),({has_:=G.Serial,n_:=I.Serial,most_:=99999,digits_:=3}:AV),({has_:=G.Zone,n_:=I.Zone,most_:=99,digits_:=2}:AV)]
theorem FY(N:Nat)(w0:World)(F0:Mem)(hF:X8 w0 F0)(G:Ac)(I:Ae)(r:(List AV))(h:C3 N G I=some r):
  cP 138 (lA [.agg (Ah G),.agg (B0 I)]) w0 (AD w0 F0 fun F' v=>∃(O:X7)(U:Nat),v=(sL O r U)/\LC r.length U/\SlA JN F' O r):=by
 have Z:=XK hF;refine Go 21 Tryz.func138<|sR [0,1,2]<|Bx' 23 (Ah G) Z (fun h5 h6 h0=>?_);refine Bx' 32 (B0 I) h0 (fun h7 h8 J=>?_);refine Vs 1<|nR (rG 17) ?_;refine Vs 1<|Ld J.at1<|Vs 1<|Ld J.at0<|Vs 2<|Ld J.at1<|Vs 1<|Ld J.at0<|Vs 2<|Ld J.at1<|Vs 1<|Ld J.at0<|Vs 1<|Bs 180 [.bool G.Report,vi I.Report,vi 599,vi 1,.bool G.Serial,vi I.Serial,vi 99999,vi 3,.bool G.Zone,vi I.Zone,vi 99,vi 2] J (fun M h9 h1=>?_);have Y:Ak JN 180 F0 (sA M) 3 [({has_:=G.Report,n_:=I.Report,most_:=599,digits_:=1}:AV),({has_:=G.Serial,n_:=I.Serial,most_:=99999,digits_:=3}:AV),({has_:=G.Zone,n_:=I.Zone,most_:=99,digits_:=2}:AV)] (some M,.cells (lA [.bool G.Report,vi I.Report,vi 599,vi 1,.bool G.Serial,vi I.Serial,vi 99999,vi 3,.bool G.Zone,vi I.Zone,vi 99,vi 2]) 180 (0,0)):=XY ⟨rfl,⟨rfl,⟨rfl,rfl⟩⟩⟩ (by simp);refine Vs 1<|Nt<|Rt ?_;have h2:=XW Y;obtain⟨F1,h3,ha,h4⟩:=h1.fr0 Y;obtain rfl:=Aa h;exact Re [sS M 0 [({has_:=G.Report,n_:=I.Report,most_:=599,digits_:=1}:AV),({has_:=G.Serial,n_:=I.Serial,most_:=99999,digits_:=3}:AV),({has_:=G.Zone,n_:=I.Zone,most_:=99,digits_:=2}:AV)] 3] h3 ⟨some ⟨M,0,none⟩,3,rfl,h2,h4⟩
abbrev kP(w0:World)(F0 F1:Mem)(L:List oO)(a:List Deferred)(b:List (Nat×Value)):Fr->World->Prop:=fun f w=>∃F,HS w0 F0 w F L/\XI F1 F/\FI f a b
def GT(N:Nat)(G I J:Int):Option Bool:=
 some ((decide (G>=I))&&(decide (G<=J)))
theorem IB(N:Nat)(w0:World)(F0:Mem)(hF:X8 w0 F0)(G J M:Int)(r:Bool)(h:GT N G J M=some r):
  cA 140 [vi G,vi J,vi M] w0 F0 (.bool r):=by
 have O:=XK hF;refine Go 15 Tryz.func140<|sR [0]<|Vs 1<|nR (rG 9)<|XO (kP w0 F0 F0 [] [] [(6,(.bool ((decide (G>=J))&&(decide (G<=M)))))]) ?_ ?_
 ·refine Vs 4<|XN (decide (G>=J)) (fun I=>?_) (fun I=>?_)
  ·refine Vgs I 3<|Pk1 I<|Vs 1 ?_;exact XE ⟨rfl,F0,O,XJ _,fJ ⟨congrArg Value.bool (LZ I rfl),trivial⟩⟩
  ·refine Ss I 3<|Pk0 I<|Vs 1 ?_;exact XE ⟨rfl,F0,O,XJ _,fJ ⟨congrArg Value.bool (L0 I rfl),trivial⟩⟩
 ·rintro f h0 ⟨F1,U,h1,⟨_,rfl⟩⟩;refine Ab<|Rt ?_;obtain rfl:=Aa h;exact Re [.bool ((decide (G>=J))&&(decide (G<=M)))] U rfl
def Cj(N:Nat)(G:AV):Option Bool:=
 (((GT N G.n_ 1 G.most_).bind fun I=>bif(!(G.has_==I))then some true else(bif(!G.has_)then some (G.n_ !=0)else some false)).bind fun J=>some J)
theorem I1(N:Nat)(w0:World)(F0:Mem)(hF:X8 w0 F0)(G:AV)(r:Bool)(h:Cj N G=some r):
  cA 139 [.agg (JU G)] w0 F0 (.bool r):=by
 have h1:=XK hF;refine Go 21 Tryz.func139<|sR [0,1]<|Bx' 180 (JU G) h1 (fun J hd h2=>?_);refine Vs 1<|Nss ?_;obtain⟨Z,h3,h4⟩:=bS h;refine RD 19 19 [sb J (JU G) 180] [] h2 (kP w0 F0 F0 [] [] [(2,(.bool Z))]) (fun h5 h0=>?_) ?_
 ·refine Dvl [0] (tf 1 18)<|Dl 1 (fun _ hq=>hq.1.2 0 _ _ rfl)<|Dvl [2] (tf 3 16)<|Dl 3 (fun _ hq=>hq.1.2 0 _ _ rfl)<|Dvl [4] (tf 5 14)<|Dl 5 (fun _ hq=>hq.1.2 0 _ _ rfl)<|D1 6 ?_;obtain⟨he,h6,h7⟩:=bS h3;refine DCl (cO 140) h0 (IB N h5 F0 h0.pers G.n_ 1 G.most_ _ h6) ?_;rintro _ O hf U Y rfl;refine Dvl [7,8] (tf 9 10)<|Sd h7 (fun I h8=>?_) (fun I h9=>?_)
  ·refine Dkl [(9,12),(10,13),(11,14),(12,15)] 8 false 11 I (tf 13 6)<|Dul [(13,16),(14,17),(15,18)] 12 true 15 (tf 16 3)<|Dkl [(16,19)] 8 false 11 I (tf 17 2)<|Dtl 17 20 4 _ (tf 18 1) (fun _ hq=>p1 11 (.const bT) (.tmp 19) bT I)<|Dvl [18] (tf 19 0) ?_;obtain rfl:=Aa h8;exact XV (by kernel_rfl) ⟨O,U.dr0,Y,fI⟩
  ·refine Dgl 9 12 0 (pt J 0) (tf 10 9) 8 false 11 I (fun _ hq=>fa 180 1 0 0 1 J 0 0) ?_;refine Dgl 10 13 4 _ (tf 11 8) 8 false 11 I (fun _ hq=>ld 4 12 J 0 false 1 (.bool G.has_) (hq.1.2 0 _ _ rfl))<|Dgl 11 14 4 (.bool (!G.has_)) (tf 12 7) 8 false 11 I (fun _ hq=>K6 (t:=4) (x:=.tmp 13) (a:=G.has_) rfl)<|Dgl 12 15 4 _ (tf 13 6) 8 false 11 I (fun _ hq=>mv 14 (.bool (!G.has_)))<|Sd h9 (fun M ha=>?_) (fun M hb=>?_)
   ·refine Dgl 13 16 0 (pt J 1) (tf 14 5) 12 true 15 M (fun _ hq=>fa 180 1 1 1 1 J 0 1) ?_;refine Dgl 14 17 3 _ (tf 15 4) 12 true 15 M (fun _ hq=>ld 3 16 J 1 false 1 (vi G.n_) (hq.1.2 0 _ _ rfl))<|Dgl 15 18 4 (.bool (G.n_ !=0)) (tf 16 3) 12 true 15 M (fun _ hq=>JQ (t:=3) (t':=3) (x:=.tmp 17) (y:=.const (vi 0)) (k:=.i64) (a:=G.n_) (b:=0) rfl rfl)<|Dgl 16 19 4 _ (tf 17 2) 8 false 11 I (fun _ hq=>p1 15 (.tmp 18) (.const bF) (.bool (G.n_ !=0)) M)<|Dtl 17 20 4 _ (tf 18 1) (fun _ hq=>p0 11 (.const bT) (.tmp 19) (.bool (G.n_ !=0)) I)<|Dvl [18] (tf 19 0) ?_;obtain rfl:=Aa ha;exact XV (by kernel_rfl) ⟨O,U.dr0,Y,fI⟩
   ·refine Dkl [(13,16),(14,17),(15,18)] 12 true 15 M (tf 16 3)<|Dgl 16 19 4 _ (tf 17 2) 8 false 11 I (fun _ hq=>p0 15 (.tmp 18) (.const bF) bF M)<|Dtl 17 20 4 _ (tf 18 1) (fun _ hq=>p0 11 (.const bT) (.tmp 19) bF I)<|Dvl [18] (tf 19 0) ?_;obtain rfl:=Aa hb;exact XV (by kernel_rfl) ⟨O,U.dr0,Y,fI⟩
 ·rintro f hg ⟨F1,hc,hh,⟨_,rfl⟩⟩;refine Ab<|Rt ?_;obtain rfl:=Aa h4;exact Re [.bool Z] hc rfl
def Cb(N:Nat)(G:Ac)(I:Ae):Option Bool:=
 ((C3 N (lY G) ({Report:=I.Report,Serial:=I.Serial,Zone:=I.Zone}:Ae)).bind fun J=>((A3 N J (fun M=>Cj N M)).bind fun O=>some (!O)))
theorem Ei(N:Nat)(w0:World)(F0:Mem)(hF:X8 w0 F0)(G:Ac)(I:Ae)(r:Bool)(h:Cb N G I=some r):
  cA 75 [.agg (Ah G),.agg (B0 I)] w0 F0 (.bool r):=by
 have U:=XK hF;refine Go 10 Tryz.func75<|sR [0,1,2]<|Bx' 23 (Ah G) U (fun he hf Y=>?_);refine Bx' 32 (B0 I) Y (fun hg Z J=>?_);refine Vs 1<|nR (rG 6)<|Ld J.at1<|Ld J.at0 ?_;obtain⟨h0,h1,h2⟩:=bS h;refine Cl' (cO 138) J (FY N Z F0 J.pers (lY G) ({Report:=I.Report,Serial:=I.Serial,Zone:=I.Zone}:Ae) _ h1) ?_;rintro _ F1 h3 O hh ⟨h4,h5,rfl,h6,h7⟩;obtain⟨h8,h9,ha⟩:=bS h2;refine Cl' (cO 137) O (DK N h3 F1 O.pers h0 h4 h5 h6 h7 139 [] [] (fun M=>Cj N M) (cO 139) (fun w1 F1 M r hk hb hc=>I1 N w1 F1 hb M r hc) _ h9) ?_;rintro _ F2 hl hd hm rfl;refine Vs 2<|Nt<|Rt ?_;obtain rfl:=Aa ha;exact Re [.bool (!h8)] hd rfl
def Db(N:Nat)(G I J:Int):Option Bool:=
 some ((decide (I<=G))&&(decide (G<=J)))
theorem DX(N:Nat)(w0:World)(F0:Mem)(hF:X8 w0 F0)(G J M:Int)(r:Bool)(h:Db N G J M=some r):
  cA 150 [vi G,vi J,vi M] w0 F0 (.bool r):=by
 have O:=XK hF;refine Go 15 Tryz.func150<|sR [0]<|Vs 1<|nR (rG 9)<|XO (kP w0 F0 F0 [] [] [(6,(.bool ((decide (J<=G))&&(decide (G<=M)))))]) ?_ ?_
 ·refine Vs 4<|XN (decide (J<=G)) (fun I=>?_) (fun I=>?_)
  ·refine Vgs I 3<|Pk1 I<|Vs 1 ?_;exact XE ⟨rfl,F0,O,XJ _,fJ ⟨congrArg Value.bool (LZ I rfl),trivial⟩⟩
  ·refine Ss I 3<|Pk0 I<|Vs 1 ?_;exact XE ⟨rfl,F0,O,XJ _,fJ ⟨congrArg Value.bool (L0 I rfl),trivial⟩⟩
 ·rintro f h0 ⟨F1,U,h1,⟨_,rfl⟩⟩;refine Ab<|Rt ?_;obtain rfl:=Aa h;exact Re [.bool ((decide (J<=G))&&(decide (G<=M)))] U rfl
def Gz(N:Nat)(I:Bool)(G J:Int):Option Bool:=
 (bif I then((Db N G 1 J).bind fun M=>some M)else some (G==0))
theorem JF(N:Nat)(w0:World)(F0:Mem)(hF:X8 w0 F0)(M:Bool)(G I:Int)(r:Bool)(h:Gz N M G I=some r):
  cA 142 [.bool M,vi G,vi I] w0 F0 (.bool r):=by
 have J:=XK hF;refine Go 13 Tryz.func142<|sR [0]<|Vs 1<|Nss<|sR [0]<|Vs 1<|Nt<|Cd h (fun O U=>?_) (fun O Y=>?_)
 ·refine sR (rG 4)<|Vs 2 ?_;obtain⟨Z,h0,h1⟩:=bS U;refine Cl' (cO 150) J (DX N w0 F0 J.pers G 1 I _ h0) ?_;rintro _ F1 h3 h2 h4 rfl;refine Vs 1<|Nt<|Rt<|Ad ?_;obtain rfl:=Aa h1;exact Re [.bool Z] h2 rfl
 ·refine Sc<|Ab<|sR [0,1,2]<|Vs 3<|Nt<|Rt ?_;obtain rfl:=Aa Y;exact Re [.bool (G==0)] J rfl
def Cf(N:Nat)(G:Ac)(I:Ae):Option Bool:=
 (((Gz N G.Report I.Report 599).bind fun J=>(bif J then((Gz N G.Serial I.Serial 99999).bind fun M=>(bif M then((Gz N G.Zone I.Zone 99).bind fun O=>some O)else some false))else some false)).bind fun U=>some U)
theorem Fl(N:Nat)(w0:World)(F0:Mem)(hF:X8 w0 F0)(J:Ac)(M:Ae)(r:Bool)(h:Cf N J M=some r):
  cA 78 [.agg (Ah J),.agg (B0 M)] w0 F0 (.bool r):=by
 have h2:=XK hF;refine Go 24 Tryz.func78<|sR [0,1,2]<|Bx' 23 (Ah J) h2 (fun ho hp h3=>?_);refine Bx' 32 (B0 M) h3 (fun hq h4 Y=>?_);refine Vs 1<|nR (rG 20) ?_;obtain⟨h0,h5,h6⟩:=bS h;refine XO (kP w0 F0 F0 [] [] [(4,(.bool h0))]) ?_ ?_
 ·refine Vs 1<|Ld Y.at1<|Vs 1<|Ld Y.at0 ?_;obtain⟨hr,h7,h8⟩:=bS h5;refine Cl' (cO 142) Y (JF N h4 F0 Y.pers J.Report M.Report 599 _ h7) ?_;rintro _ F2 h9 O Z rfl;refine Vs 1<|Sp h8 (fun G ha=>?_) (fun G hb=>?_)
  ·refine Vgs G 1<|Lg G O.at1<|Vgs G 1<|Lg G O.at0 ?_;obtain⟨hs,hc,hd⟩:=bS ha;refine Cg G (cO 142) O (JF N h9 F2 O.pers J.Serial M.Serial 99999 _ hc) ?_;rintro _ F3 he U h1 rfl;refine Pk1 G<|Vs 1<|Sp hd (fun I hf=>?_) (fun I hg=>?_)
   ·refine Vgs I 1<|Lg I U.at1<|Vgs I 1<|Lg I U.at0 ?_;obtain⟨ht,hh,hk⟩:=bS hf;refine Cg I (cO 142) U (JF N he F3 U.pers J.Zone M.Zone 99 _ hh) ?_;rintro _ F4 hu hl hm rfl;refine Pk1 I<|Vs 1 ?_;obtain rfl:=Aa hk;exact XE ⟨rfl,F4,hl.dr0.dr0,(Z.t h1).trans hm,fI⟩
   ·refine Ss I 5<|Pk0 I<|Vs 1 ?_;obtain rfl:=Aa hg;exact XE ⟨rfl,F3,U.dr0.dr0,Z.t h1,fI⟩
  ·refine Ss G 5<|Pk0 G<|Vs 1<|Ss rF 5<|Pk0 rF<|Vs 1 ?_;obtain rfl:=Aa hb;exact XE ⟨rfl,F2,O.dr0.dr0,Z,fI⟩
 ·rintro f hv ⟨F1,hn,hw,⟨_,rfl⟩⟩;refine Ab<|Rt ?_;obtain rfl:=Aa h6;exact Re [.bool h0] hn rfl
def Ga(N:Nat)(I:X6)(x1:Int)(J:(Int->Option Bool)):Nat->Option (Ba Bool Nat):=fun G=>
 (bif(decide (G < (I).length))then((J ((KB I G).1:Int)).bind fun M=>bif(!M)then some (.ret false)else some (.next (G + (KB I G).2)))else some (.done G))
def Gb(N:Nat)(G:X6)(I:Int)(J:(Int->Option Bool)):Option Bool:=
 ((AJ (Ga N G I J) N 0).bind fun o=>o.k (fun r=>some r) (fun h0=>((GT N (G.length:Int) 1 I).bind fun M=>some M)))
theorem GS(N:Nat)(w0:World)(F0:Mem)(hF:X8 w0 F0)(G:X6)(J:Int)(O:FuncId)(Y Z:List Value)(x2:Int->Option Bool)(hb:Ag Tryz.prog O)(hc:MT F0 O Y Z x2)(r:Bool)(h:Gb N G J x2=some r):
  cA 198 [sv G,vi J,.func (.func O) Y.toArray Z.toArray] w0 F0 (.bool r):=by
 have hd:=XK hF;refine Go 22 Tryz.func198<|sR [0]<|Vs 1<|Nss<|sR [0,1]<|Vs 1<|RWP.srange (dst:=some 10) (ty:=0) (g:=none) (by kernel_rfl) rfl (t:=9) (x:=.tmp 9) (a:=G) rfl (by kernel_rfl) hd (fun M he (hf:HS w0 F0 he F0 [(some M,(.stringIter ⟨(G).toArray⟩ 0))])=>?_);refine Nt ?_;obtain⟨h4,hg,h5⟩:=bS h;refine XP (fun f w=>∃h6 U,h4=.done h6/\HS w0 F0 w U []/\XI F0 U/\FI f [] [(0,(sv G)),(1,(vi J))]) ?_ ?_
 ·refine Bk<|XH (by kernel_rfl) (fun m f w=>∃(I:Nat)(F1:Mem),AJ (Ga N G J x2) m I=some h4/\HS w0 F0 w F1 [(some M,(.stringIter ⟨(G).toArray⟩ I))]/\XI F0 F1/\FI f [] [(0,(sv G)),(1,(vi J)),(2,(.func (.func O) Y.toArray Z.toArray)),(10,(pt M 0))]) N ⟨0,F0,hg,hf,XJ _,fI⟩ ?_;rintro b2 f b3 ⟨I,F1,hh,h0,h1,⟨_,rfl⟩⟩;obtain⟨hk,b4,rfl,hl,h2⟩:=AE hh;refine sR [0,1]<|Sp hl (fun h3 hm=>?_) (fun h3 hn=>?_)
  ·refine RWP.snext1 (dst:=some 11) (ty:=0) (g:=none) (by kernel_rfl) rfl (x:=.tmp 10) (b:=M) (a:=G) (pos:=I) (k:=0) rfl h0 rfl h3 (fun h7 (h8:HS w0 F0 h7 F1 [(some M,(.stringIter ⟨(G).toArray⟩ (I + (KB G I).2)))])=>?_);refine Vs 1<|Nss<|C1 rT<|Sc<|Ab<|Bk<|sR [0,1]<|Vs 2<|nR (rG 4)<|Vs 2 ?_;obtain⟨b5,ho,hp⟩:=bS hm;refine Cq hb h8 (hc h7 F1 ((KB G I).1:Int) _ h1 h8.pers ho) ?_;rintro _ F3 b6 h9 hq rfl;refine Vs 1<|Nt<|Cd hp (fun hr hs=>?_) (fun hr ht=>?_)
   ·refine sR [0]<|Vs 1<|Nt<|Rt<|Ao<|Ad<|Ao ?_;have hret:=Bc hs h2;subst hret;refine .inr<|Ad ?_;obtain rfl:=Aa h5;exact Re [bF] h9 rfl
   ·refine Sc<|Aq ?_;have hu:=AC ht h2;exact⟨hk,xF _,I + (KB G I).2,F3,hu,h9,h1.t hq,fI⟩
  ·refine RWP.snext0 (dst:=some 11) (ty:=0) (g:=none) (by kernel_rfl) rfl (x:=.tmp 10) (b:=M) (a:=G) (pos:=I) (k:=0) rfl h0 rfl h3 ?_;refine Vs 1<|Nss<|C0 rF<|Ex<|An<|An<|Ay rfl ?_;have hv:=AF hn h2;exact .inl ⟨rfl,I,F1,hv,h0.dr0,h1,fI⟩
 ·rintro f hw ⟨h6,U,rfl,ha,b7,⟨_,rfl⟩⟩;have hx:=A6 h5;refine Ab<|sR (rG 5)<|Vs 3 ?_;obtain⟨hy,hz,b0⟩:=bS hx;refine Cl' (cO 140) ha (IB N hw U ha.pers (G.length:Int) 1 J _ hz) ?_;rintro _ F4 b8 b1 b9 rfl;refine Vs 1<|Nt<|Rt ?_;obtain rfl:=Aa b0;exact Re [.bool hy] b1 rfl
def Bn(N:Nat)(G:Int):Option Bool:=
 some ((decide (G>=48))&&(decide (G<=57)))
theorem Hm(N:Nat)(w0:World)(F0:Mem)(hF:X8 w0 F0)(G:Int)(r:Bool)(h:Bn N G=some r):
  cA 199 [.int .i32 G] w0 F0 (.bool r):=by
 have J:=XK hF;refine Go 9 Tryz.func199<|sR [0]<|Vs 1<|nR (rG 7)<|XO (kP w0 F0 F0 [] [] [(2,(.bool ((decide (G>=48))&&(decide (G<=57)))))]) ?_ ?_
 ·refine Vs 3<|XN (decide (G>=48)) (fun I=>?_) (fun I=>?_)
  ·refine Vgs I 2<|Pk1 I<|Vs 1 ?_;exact XE ⟨rfl,F0,J,XJ _,fJ ⟨congrArg Value.bool (LZ I rfl),trivial⟩⟩
  ·refine Ss I 2<|Pk0 I<|Vs 1 ?_;exact XE ⟨rfl,F0,J,XJ _,fJ ⟨congrArg Value.bool (L0 I rfl),trivial⟩⟩
 ·rintro f h0 ⟨F1,M,h1,⟨_,rfl⟩⟩;refine Ab<|Rt ?_;obtain rfl:=Aa h;exact Re [.bool ((decide (G>=48))&&(decide (G<=57)))] M rfl
def B2(N:Nat)(G:Int):Option Bool:=
 some ((decide (G>=65))&&(decide (G<=90)))
theorem Gx(N:Nat)(w0:World)(F0:Mem)(hF:X8 w0 F0)(G:Int)(r:Bool)(h:B2 N G=some r):
  cA 264 [.int .i32 G] w0 F0 (.bool r):=by
 have J:=XK hF;refine Go 9 Tryz.func264<|sR [0]<|Vs 1<|nR (rG 7)<|XO (kP w0 F0 F0 [] [] [(2,(.bool ((decide (G>=65))&&(decide (G<=90)))))]) ?_ ?_
 ·refine Vs 3<|XN (decide (G>=65)) (fun I=>?_) (fun I=>?_)
  ·refine Vgs I 2<|Pk1 I<|Vs 1 ?_;exact XE ⟨rfl,F0,J,XJ _,fJ ⟨congrArg Value.bool (LZ I rfl),trivial⟩⟩
  ·refine Ss I 2<|Pk0 I<|Vs 1 ?_;exact XE ⟨rfl,F0,J,XJ _,fJ ⟨congrArg Value.bool (L0 I rfl),trivial⟩⟩
 ·rintro f h0 ⟨F1,M,h1,⟨_,rfl⟩⟩;refine Ab<|Rt ?_;obtain rfl:=Aa h;exact Re [.bool ((decide (G>=65))&&(decide (G<=90)))] M rfl
def D5(N:Nat)(G:Int):Option Bool:=
 (((B2 N G).bind fun I=>(bif I then some true else((Bn N G).bind fun J=>some J))).bind fun M=>some M)
theorem QA(N:Nat)(w0:World)(F0:Mem)(hF:X8 w0 F0)(I:Int)(r:Bool)(h:D5 N I=some r):
  cA 265 [.int .i32 I] w0 F0 (.bool r):=by
 have M:=XK hF;refine Go 9 Tryz.func265<|sR [0]<|Vs 1<|nR (rG 7) ?_;obtain⟨O,Z,h0⟩:=bS h;refine XO (kP w0 F0 F0 [] [] [(2,(.bool O))]) ?_ ?_
 ·refine Vs 1 ?_;obtain⟨hb,h1,h2⟩:=bS Z;refine Cl' (cO 264) M (Gx N w0 F0 M.pers I _ h1) ?_;rintro _ U h3 J Y rfl;refine Vs 1<|Sp h2 (fun G h4=>?_) (fun G h5=>?_)
  ·refine Ss G 2<|Pk1 G<|Vs 1 ?_;obtain rfl:=Aa h4;exact XE ⟨rfl,U,J,Y,fI⟩
  ·refine Vgs G 1 ?_;obtain⟨hc,h6,h7⟩:=bS h5;refine Cg G (cO 199) J (Hm N h3 U J.pers I _ h6) ?_;rintro _ F3 hd h8 h9 rfl;refine Pk0 G<|Vs 1 ?_;obtain rfl:=Aa h7;exact XE ⟨rfl,F3,h8,Y.t h9,fI⟩
 ·rintro f he ⟨F1,ha,hf,⟨_,rfl⟩⟩;refine Ab<|Rt ?_;obtain rfl:=Aa h0;exact Re [.bool O] ha rfl
section
open Go.Proofs Go.RowKit Go.Sort Go.Lib
def Gd(p:Int->Option Bool)(x:Nat):Bool:=(p (x:Int)).getD false
def QE(p:Int->Option Bool):Prop:=∀ x:Nat,x<=1114111->(p (x:Int)).isSome=true
def K9(p:Int->Option Bool):Bool:=(List.range 1114112).all fun x=>(p (x:Int)).isSome
theorem Ja{p:Int->Option Bool}:K9 p=true ↔ QE p:=by
 unfold K9 QE;rw[xQ];exact⟨fun h x hx=>h x (by rw[List.mem_range];omega),fun h x hx=>h x (by rw[List.mem_range]at hx;omega)⟩
theorem Pm{w:World}{F:Mem}(hF:∀ b o,F b=some o->w.heap[b]? =some o){gq:FuncId}{k:List Value}{p:Int->Option Bool}(h:MT F gq [] k p)(ha:QE p):PredGrows Tryz.prog gq k.toArray (Gd p) w:=by
 intro W x hx hb;have hr:=ha x hx;obtain⟨r,hr'⟩:=Option.isSome_iff_exists.1 hr;have:=h W F (x:Int) r (XJ F) (Below.pers hF hb) hr';have e:Gd p x=r:=by unfold Gd;rw[hr'];rfl
 rw[e];have he:(#[encR x]++k.toArray:Array Value)=(([]:List Value)++(([.int .i32 (x:Int)]:List Value)++k)).toArray:=by
  apply yZ;simp[encR]
 rw[he];refine this.mono ?_;rintro e w' ⟨v,F',rfl,hs,rfl⟩;exact⟨rfl,hs.fix.1,hs.fix.2.2,hs.fix.2.1,hs.size,hs.keep⟩
def CI(_N:Nat)(I:X6)(G:Int->Option Bool):Option Int:=
 if K9 G=true then some (Go.Lib.idxFunc (Gd G) true ⟨I.toArray⟩)else none
theorem J7(N:Nat)(w0:World)(F0:Mem)(hF:X8 w0 F0)(J:X6)(G:FuncId)(I:List Value)(M:Int->Option Bool)(O:Ag Tryz.prog G)(U:MT F0 G [] I M)(r:Int)(h:CI N J M=some r):
  Calls Tryz.prog 266 ([.string ⟨(J).toArray⟩,.func (.func G) ([]:List Value).toArray I.toArray]:List Value).toArray w0 (AD w0 F0 fun _ v=>v=(.int .i64 r)):=by
 unfold CI at h;split at h
 ·rename_i ha;cases h;exact X3 hF (Tryz.strings_IndexFunc_grows G I.toArray O _ _ w0 (Pm hF U (Ja.1 ha))) rfl
 ·cases h
def Cy(_N:Nat)(G:X6)(I:Int->Option Bool)(J:Bool):Option Int:=
 if K9 I=true/\G.length<=9223372036854775807 then some (Go.Lib.lastIdxFunc (Gd I) J ⟨G.toArray⟩)else none
theorem HX(N:Nat)(w0:World)(F0:Mem)(hF:X8 w0 F0)(hG:Bw F0)(J:X6)(G:FuncId)(I:List Value)(M:Int->Option Bool)(U:Ag Tryz.prog G)(Y:MT F0 G [] I M)(O:Bool)(r:Int)(h:Cy N J M O=some r):
  Calls Tryz.prog 284 ([.string ⟨(J).toArray⟩,.func (.func G) ([]:List Value).toArray I.toArray,.bool O]:List Value).toArray w0 (AD w0 F0 fun _ v=>v=(.int .i64 r)):=by
 unfold Cy at h;split at h
 ·rename_i ha;cases h;exact X3 hF (Tryz.strings_lastIndexFunc_grows G I.toArray U _ _ _ w0 (by simpa [ByteArray.size]using ha.2) (hG w0 hF).2.1 (Pm hF Y (Ja.1 ha.1))) rfl
 ·cases h
def PN(s sep:X6):List X6:=(Go.Lib.splitB ⟨sep.toArray⟩ 0 (Go.Lib.countB ⟨s.toArray⟩ ⟨sep.toArray⟩) ⟨s.toArray⟩).map (·.data.toList)
def strings_Split(_N:Nat)(s sep:X6):Option (List X6):=if s.length < 4294967281/\1<=sep.length then some (PN s sep)else none
theorem Ds(N:Nat)(w0:World)(F0:Mem)(hF:X8 w0 F0)(hG:Bw F0)(I G:X6)(r:List X6)(h:strings_Split N I G=some r):
  Calls Tryz.prog 93 ([.string ⟨(I).toArray⟩,.string ⟨(G).toArray⟩]:List Value).toArray w0 (AD w0 F0 fun F' v=>∃(M:X7)(O:Nat),v=(.slice M r.length O)/\LC r.length O/\SlA AR F' M r):=by
 unfold strings_Split at h;split at h
 ·rename_i ha;cases h;obtain⟨m,hm⟩:=(hG w0 hF).2.2.1;have hs:(⟨I.toArray⟩:ByteArray).size < 4294967281:=by simpa [ByteArray.size]using ha.1
  have J:1<=(⟨G.toArray⟩:ByteArray).size:=by simpa [ByteArray.size]using ha.2
  have hle:=Go.Lib.countB_le ⟨G.toArray⟩ J _ ⟨I.toArray⟩ (xN _);exact AD.strs hF (Tryz.strings_Split _ _ m w0 hs hm J) (Go.Lib.splitB_all ⟨G.toArray⟩ J 0 _ _ rfl) (by omega)
 ·cases h
def strings_Cut(_N:Nat)(s sep:X6):Option (X6×X6×Bool):=if s.length < 4294967281 then some (Go.Lib.cut s sep)else none
theorem Ks(N:Nat)(w0:World)(F0:Mem)(hF:X8 w0 F0)(hG:Bw F0)(G I:X6)(r:X6×X6×Bool)(h:strings_Cut N G I=some r):
  Calls Tryz.prog 164 ([.string ⟨(G).toArray⟩,.string ⟨(I).toArray⟩]:List Value).toArray w0 (AD w0 F0 fun _ v=>v=(.tuple #[.string ⟨(r.1).toArray⟩,.string ⟨(r.2.1).toArray⟩,.bool r.2.2])):=by
 unfold strings_Cut at h;split at h
 ·rename_i ha;cases h;obtain⟨m,hm⟩:=(hG w0 hF).2.2.1;refine X3 hF ((Tryz.strings_Cut ⟨G.toArray⟩ ⟨I.toArray⟩ m w0 (by simpa [ByteArray.size]using ha) hm).mono ?_) rfl;rintro e w' ⟨rfl,n,rfl⟩;exact⟨rfl,Ru _ _⟩
 ·cases h
def strings_Repeat(_N:Nat)(s:X6)(n:Int):Option X6:=if 0<=n/\n<=9223372036854775807/\s.length * n.toNat<=140737488355328 then some (Go.Lib.repeatL s n.toNat)else none
theorem Mp(N:Nat)(w0:World)(F0:Mem)(hF:X8 w0 F0)(I:X6)(G:Int)(r:X6)(h:strings_Repeat N I G=some r):
  Calls Tryz.prog 186 ([.string ⟨(I).toArray⟩,.int .i64 G]:List Value).toArray w0 (AD w0 F0 fun _ v=>v=(.string ⟨(r).toArray⟩)):=by
 unfold strings_Repeat at h;split at h
 ·rename_i ha;cases h;have e:(G.toNat:Int)=G:=by omega
  have:=Tryz.strings_Repeat ⟨I.toArray⟩ G.toNat w0 (by omega) (by simpa [ByteArray.size]using ha.2.2);rw[e]at this;exact X3 hF this rfl
 ·cases h
def strings_Join(_N:Nat)(l:List X6)(sep:X6):Option X6:=if l.length<=140737488355328/\(Go.Lib.join l sep).length<=140737488355328 then some (Go.Lib.join l sep)else none
theorem CY(N:Nat)(w0:World)(F0:Mem)(hF:X8 w0 F0)(G:(List X6))(M:X7)(I:Nat)(O:LC G.length I)(U:SlA AR F0 M G)(J r:X6)(h:strings_Join N G J=some r):
  Calls Tryz.prog 84 ([.slice M G.length I,.string ⟨(J).toArray⟩]:List Value).toArray w0 (AD w0 F0 fun _ v=>v=(.string ⟨(r).toArray⟩)):=by
 unfold strings_Join at h;split at h
 ·rename_i ha;cases h;rcases U with rfl | ⟨b,o,C,E,fz,rfl,hC,hx⟩
  ·refine X3 hF ((Tryz.strings_Join_none M I ⟨J.toArray⟩ w0).mono ?_) rfl;rintro e w' ⟨rfl,rfl⟩;exact⟨rfl,Below.refl _ _⟩
  ·have hb:=hF _ _ hC;have hmap:(G.map fun l=>(⟨l.toArray⟩:ByteArray)).map (·.data.toList)=G:=by
    rw[List.map_map];conv=>rhs;rw[<-List.map_id G]
    exact List.map_congr_left fun l _=>by simp
   have:=Tryz.strings_Join b o I (G.map fun l=>⟨l.toArray⟩) ⟨J.toArray⟩ w0 (fun j x hj=>by
    rw[zV]at hj;cases hl:G[j]? with
    | none=>rw[hl]at hj;cases hj
    | some l=>
     rw[hl]at hj;cases hj;have hc:Ap C (o + j * 1) 1=[.string ⟨l.toArray⟩]:=hx j l hl;rw[Nat.mul_one]at hc;have:=Jz.1 hc;simp[World.cell?,hb,this]) (Be hb) (by simpa using ha.1) (by simpa using O.1) (by rw[hmap];exact ha.2)
   rw[hmap,List.length_map]at this;exact X3 hF this rfl
 ·cases h
def strconv_Itoa(_N:Nat)(n:Int):Option X6:=if -9223372036854775808<=n/\n<=9223372036854775807 then some (Go.Lib.itoa n)else none
theorem B5(N:Nat)(w0:World)(F0:Mem)(hF:X8 w0 F0)(hG:Bw F0)(G:Int)(r:X6)(h:strconv_Itoa N G=some r):
  Calls Tryz.prog 85 ([.int .i64 G]:List Value).toArray w0 (AD w0 F0 fun _ v=>v=(.string ⟨(r).toArray⟩)):=by
 unfold strconv_Itoa at h;split at h
 ·rename_i ha;cases h;refine X3 hF ((Tryz.strconv_Itoa G ha.1 ha.2 w0 (hG w0 hF).1).mono ?_) rfl;rintro e w' ⟨rfl,k,os,rfl⟩;exact⟨rfl,rfl,rfl,rfl,by simp[grow,World.drewN],fun j hj=>by
   show((w0.drewN k).heap++os)[j]? =_;rw[Array.getElem?_append_left (show j < (w0.drewN k).heap.size from hj)];rfl⟩
 ·cases h
def ES(_N:Nat)(s:X6):Option (Int×Bool):=if s.length<=281474976710656 then(match Go.Lib.atoiAll s with
 | .ok v=>some (v,false)
 | .range=>some (Go.Lib.atoiSat s,true)
 | _=>some (0,true))else none
theorem JC(N:Nat)(w0:World)(F0:Mem)(hF:X8 w0 F0)(hG:Bw F0)(G:X6)(r:Int×Bool)(h:ES N G=some r):
  Calls Tryz.prog 163 ([.string ⟨(G).toArray⟩]:List Value).toArray w0 (AD w0 F0 fun _ v=>∃(I:Value),v=(.tuple #[.int .i64 r.1,I])/\Xh r.2 I):=by
 unfold ES at h;split at h
 ·rename_i ha;have hsz:(⟨G.toArray⟩:ByteArray).size<=281474976710656:=by simpa [ByteArray.size]using ha
  cases hv:Go.Lib.atoiAll G with
  | ok v=>
   rw[hv]at h;cases h;refine X3 hF ((Tryz.strconv_Atoi_ok ⟨G.toArray⟩ (by omega) v (by simpa using hv) w0).mono ?_) ⟨.nilIface,rfl,rfl⟩;rintro e w' ⟨rfl,(rfl | ⟨t,rfl⟩)⟩
   ·exact⟨rfl,Below.refl _ _⟩
   ·exact⟨rfl,rfl,rfl,rfl,by rw[Go.Lib.bytesWorld_size];omega,fun j hj=>Go.Lib.bytesWorld_at_old w0 _ _ j hj⟩
  | range=>
   rw[hv]at h;cases h;obtain⟨tp,p,hvar⟩:=(hG w0 hF).2.2.2.1;refine(Tryz.strconv_Atoi_range_var ⟨G.toArray⟩ hsz (by simpa using hv) tp p w0 hvar).mono ?_;rintro e w' ⟨n,rfl,_,_,hb⟩;exact⟨_,F0,rfl,HS.below hF hb,_,rfl,_,_,rfl⟩
  | _=>
   rw[hv]at h;cases h;obtain⟨tp,p,hvar⟩:=(hG w0 hF).2.2.2.2;refine(Tryz.strconv_Atoi_syntax_var ⟨G.toArray⟩ hsz (by simpa using hv) tp p w0 hvar).mono ?_;rintro e w' ⟨n,rfl,_,_,hb⟩;exact⟨_,F0,rfl,HS.below hF hb,_,rfl,_,_,rfl⟩
 ·cases h
def strings_Index(_N:Nat)(s sub:X6):Option Int:=if s.length < 4294967281 then some (Go.Lib.index s sub)else none
theorem IQ(N:Nat)(w0:World)(F0:Mem)(hF:X8 w0 F0)(hG:Bw F0)(G I:X6)(r:Int)(h:strings_Index N G I=some r):
  Calls Tryz.prog 98 ([.string ⟨(G).toArray⟩,.string ⟨(I).toArray⟩]:List Value).toArray w0 (AD w0 F0 fun _ v=>v=(.int .i64 r)):=by
 unfold strings_Index at h;split at h
 ·rename_i ha;cases h;obtain⟨m,hm⟩:=(hG w0 hF).2.2.1;exact X3 hF ((Tryz.strings_Index ⟨G.toArray⟩ ⟨I.toArray⟩ m w0 (by simpa [ByteArray.size]using ha) hm).mono fun e w' ⟨he,hw⟩=>⟨he,hw ▸ Below.refl _ _⟩) rfl
 ·cases h
def strings_CutPrefix(_N:Nat)(s p:X6):Option (X6×Bool):=some (Go.Lib.trimPrefix s p,Go.Lib.hasPrefix s p)
theorem Bd(N:Nat)(w0:World)(F0:Mem)(hF:X8 w0 F0)(G I:X6)(r:X6×Bool)(h:strings_CutPrefix N G I=some r):
  Calls Tryz.prog 189 ([.string ⟨(G).toArray⟩,.string ⟨(I).toArray⟩]:List Value).toArray w0 (AD w0 F0 fun _ v=>v=(.tuple #[.string ⟨(r.1).toArray⟩,.bool r.2])):=by
 cases h;exact X3 hF ((Tryz.strings_CutPrefix ⟨G.toArray⟩ ⟨I.toArray⟩ w0).mono fun e w' ⟨he,hw⟩=>⟨he,hw ▸ Below.refl _ _⟩) rfl
def strings_TrimSuffix(_N:Nat)(s p:X6):Option X6:=if s.length<=9223372036854775807 then some (Go.Lib.trimSuffix s p)else none
theorem JB(N:Nat)(w0:World)(F0:Mem)(hF:X8 w0 F0)(G I r:X6)(h:strings_TrimSuffix N G I=some r):
  Calls Tryz.prog 117 ([.string ⟨(G).toArray⟩,.string ⟨(I).toArray⟩]:List Value).toArray w0 (AD w0 F0 fun _ v=>v=(.string ⟨(r).toArray⟩)):=by
 unfold strings_TrimSuffix at h;split at h
 ·rename_i ha;cases h;exact X3 hF ((Tryz.strings_TrimSuffix ⟨G.toArray⟩ ⟨I.toArray⟩ w0 (by simpa [ByteArray.size]using ha)).mono fun e w' ⟨he,hw⟩=>⟨he,hw ▸ Below.refl _ _⟩) rfl
 ·cases h
end
def Gc(N:Nat)(I:X6):Option Bool:=
 (((Gb N I 4 (fun G=>D5 N G)).bind fun J=>(bif J then((CI N I (fun G=>B2 N G)).bind fun M=>some (decide (M>=0)))else some false)).bind fun O=>some O)
theorem KV(N:Nat)(w0:World)(F0:Mem)(hF:X8 w0 F0)(J:X6)(r:Bool)(h:Gc N J=some r):
  cA 225 [sv J] w0 F0 (.bool r):=by
 have Y:=XK hF;refine Go 10 Tryz.func225<|sR [0]<|Vs 1<|nR (rG 8) ?_;obtain⟨Z,h1,h2⟩:=bS h;refine XO (kP w0 F0 F0 [] [] [(2,(.bool Z))]) ?_ ?_
 ·refine Vs 1 ?_;obtain⟨he,h3,h4⟩:=bS h1;refine Cl' (cO 198) Y (GS N w0 F0 Y.pers J 4 265 [] [] (fun G=>D5 N G) (cO 265) (fun w1 F1 G r h5 M O=>QA N w1 F1 M G r O) _ h3) ?_;rintro _ F2 h6 U h0 rfl;refine Vs 1<|Sp h4 (fun I h7=>?_) (fun I h8=>?_)
  ·refine Vgs I 1 ?_;obtain⟨hf,h9,ha⟩:=bS h7;refine Cg I (cO 266) U (J7 N h6 F2 U.pers J 264 [] (fun G=>B2 N G) (cO 264) (fun w1 F1 G r h5 M O=>Gx N w1 F1 M G r O) _ h9) ?_;rintro _ F3 hg hb hc rfl;refine Vgs I 1<|Pk1 I<|Vs 1 ?_;obtain rfl:=Aa ha;exact XE ⟨rfl,F3,hb,h0.t hc,fI⟩
  ·refine Ss I 3<|Pk0 I<|Vs 1 ?_;obtain rfl:=Aa h8;exact XE ⟨rfl,F2,U,h0,fI⟩
 ·rintro f hh ⟨F1,hd,hk,⟨_,rfl⟩⟩;refine Ab<|Rt ?_;obtain rfl:=Aa h2;exact Re [.bool Z] hd rfl
def BU(N:Nat)(G:X6)(I:(Int->Option Bool)):Option Int:=
 ((Cy N G I true).bind fun J=>some J)
theorem HY(N:Nat)(w0:World)(F0:Mem)(hF:X8 w0 F0)(hG:Bw F0)(I:X6)(G:FuncId)(J:List Value)(M:Int->Option Bool)(U:Ag Tryz.prog G)(Y:MT F0 G [] J M)(r:Int)(h:BU N I M=some r):
  cA 263 [sv I,.func (.func G) (lA []) J.toArray] w0 F0 (vi r):=by
 have O:=XK hF;refine Go 8 Tryz.func263<|sR [0]<|Vs 1<|nR (rG 4)<|Vs 2 ?_;obtain⟨Z,h0,h1⟩:=bS h;refine Cl' (cO 284) O (HX N w0 F0 O.pers hG I G J M U (fun w1 F1 y0 r h2 h3 h4=>Y w1 F1 y0 r h2 h3 h4) true _ h0) ?_;rintro _ F1 h6 h5 h7 rfl;refine Vs 1<|Nt<|Rt ?_;obtain rfl:=Aa h1;exact Re [vi Z] h5 rfl
def L1(N:Nat)(G:X6):Option (X6×X6×Bool):=
 ((BU N G (fun J=>Bn N J)).bind fun M=>(((K1 G 0 (W64 (M + 1))).bind fun O=>((K1 G (W64 (M + 1)) (G.length:Int)).bind fun U=>some (O,U))).bind fun I=>((bif(decide ((W64 (M + 1)) > 0))then((Gc N I.1).bind fun Y=>(bif Y then((Gb N I.2 4 (fun J=>B2 N J)).bind fun Z=>some Z)else some false))else some false).bind fun h0=>some (I.1,I.2,h0))))
theorem Sg(N:Nat)(w0:World)(F0:Mem)(hF:X8 w0 F0)(hG:Bw F0)(J:X6)(r:(X6×X6×Bool))(h:L1 N J=some r):
  cA 222 [sv J] w0 F0 (.tuple #[sv r.1,sv r.2.1,.bool r.2.2]):=by
 have h3:=XK hF;refine Go 27 Tryz.func222<|sR [0,1,2]<|Vs 3<|nR (rG 4)<|Vs 1 ?_;obtain⟨Y,h8,h9⟩:=bS h;refine Cl' (cO 263) h3 (HY N w0 F0 h3.pers hG J 199 [] (fun I=>Bn N I) (cO 199) (fun w1 F1 I r ha Z h0=>Hm N w1 F1 Z I r h0) _ h8) ?_;rintro _ F1 b1 hb b2 rfl;refine Vs 2<|Nss ?_;obtain⟨G,hc,hd⟩:=bS h9;refine RD 8 8 [] [] hb (kP w0 F0 F1 [] [] [(2,(sv G.1)),(3,(sv G.2)),(5,(vi (W64 (Y + 1))))]) (fun b3 he=>?_) ?_
 ·refine Dv [0,1] ?_;obtain⟨h4,hf,hg⟩:=bS hc;refine Dt 2 11 9 (sv h4) (fun _ hq=>GF (t:=9) (x:=.tmp 9) (lo:=none) (hi:=some (.tmp 10)) (a:=J) (il:=0) (ih:=W64 (Y + 1)) (v:=h4) rfl (by kernel_rfl) rfl rfl hf)<|Dv [3,4] ?_;obtain⟨h5,hh,hk⟩:=bS hg;refine Dt 5 14 9 (sv h5) (fun _ hq=>GF (t:=9) (x:=.tmp 12) (lo:=some (.tmp 13)) (hi:=none) (a:=J) (il:=W64 (Y + 1)) (ih:=(J.length:Int)) (v:=h5) rfl (by kernel_rfl) rfl rfl hh)<|Dv [6,7] ?_;obtain rfl:=Aa hk;exact XV (by kernel_rfl) ⟨F1,he,XJ _,fI⟩
 ·rintro f hl ⟨M,h1,b4,⟨_,rfl⟩⟩;refine Ab<|sR (rG 15) ?_;obtain⟨h6,hm,hn⟩:=bS hd;refine XO (kP w0 F0 M [] [] [(2,(sv G.1)),(3,(sv G.2)),(4,(.bool h6))]) ?_ ?_
  ·refine Vs 5<|Sp hm (fun O ho=>?_) (fun O hp=>?_)
   ·refine Vgs O 1 ?_;obtain⟨b5,hr,hs⟩:=bS ho;refine Cg O (cO 225) h1 (KV N hl M h1.pers G.1 _ hr) ?_;rintro _ F4 ht h2 h7 rfl;refine Pk1 O<|Vs 1<|Sp hs (fun U hu=>?_) (fun U hv=>?_)
    ·refine Vgs U 1 ?_;obtain⟨b6,hw,hx⟩:=bS hu;refine Cg U (cO 198) h2 (GS N ht F4 h2.pers G.2 4 264 [] [] (fun I=>B2 N I) (cO 264) (fun w1 F1 I r ha Z h0=>Gx N w1 F1 Z I r h0) _ hw) ?_;rintro _ F5 b7 hy hz rfl;refine Pk1 U<|Vs 3 ?_;obtain rfl:=Aa hx;exact XE ⟨rfl,F5,hy,h7.t hz,fI⟩
    ·refine Ss U 2<|Pk0 U<|Vs 3 ?_;obtain rfl:=Aa hv;exact XE ⟨rfl,F4,h2,h7,fI⟩
   ·refine Ss O 2<|Pk0 O<|Vs 1<|Ss rF 2<|Pk0 rF<|Vs 3 ?_;obtain rfl:=Aa hp;exact XE ⟨rfl,M,h1,XJ _,fI⟩
  ·rintro f b8 ⟨F3,b0,b9,⟨_,rfl⟩⟩;refine Ab<|Rt ?_;obtain rfl:=Aa hn;exact Re [sv G.1,sv G.2,.bool h6] b0 rfl
theorem aK{P:Program}{w:World}{f:Fr}{rs:Array ResultVar}(l:List ResultVar)(vs:List Value)(h:UQ P w f l vs)(hr:rs.toList=l:=by kernel_rfl):(DN rs f).run P w=.ok (KA vs) w:=AL hr h
theorem aL{P:Program}{w:World}(t s:Nat){b o:Nat}{C:Array Value}{E:TypeId}{fz:Nat×Nat}(hb:w.heap[b]? =some (.cells C E fz))(ht:Ef P t=some (true,s):=by kernel_rfl)(hl:(Ap C o s).length=s:=by exact rfl):(loadVar t ⟨b,o,none⟩).run P w=.ok (mkV true (Ap C o s)) w:=Ai ht hb hl (.inl rfl)
def AM(N:Nat)(I:X6):Option (Bl×Bool):=
 ((L1 N I).bind fun G=>some (({Area:=([]:X6),Prefix:=G.1,Suffix:=G.2.1,Stroke:=([]:X6)}:Bl),G.2.2))
theorem FN(N:Nat)(w0:World)(F0:Mem)(hF:X8 w0 F0)(hG:Bw F0)(I:X6)(r:(Bl×Bool))(h:AM N I=some r):
  cA 221 [sv I] w0 F0 (.tuple #[.agg (Dh r.1),.bool r.2]):=by
 have O:=XK hF;refine Go 17 Tryz.func221<|sR [0,1]<|Al' 186 #[sE,sE,sE,sE] O (fun U Y J=>?_);refine Vs 1<|nR (rG 9)<|Vs 1 ?_;obtain⟨G,Z,h0⟩:=bS h;refine Cl' (cO 222) J (Sg N Y F0 J.pers hG I _ Z) ?_;rintro _ F1 h2 h1 h3 rfl;refine Vs 7<|nR (rG 6)<|Vs 4<|St0 #[sE,sv G.1,sv G.2.1,sE] h1 (fun h4 M=>?_);refine Vs 1<|Nt<|Rt ?_;obtain rfl:=Aa h0;exact⟨rfl,.tuple #[.agg #[sE,sv G.1,sv G.2.1,sE],.bool G.2.2],aK [.cell 2 186,.tmp 3] [.agg #[sE,sv G.1,sv G.2.1,sE],.bool G.2.2] ⟨U,0,rfl,aL 186 4 M.at0,⟨rfl,trivial⟩⟩,.tuple #[.agg #[sE,sv G.1,sv G.2.1,sE],.bool G.2.2],F1,rfl,M.clear,rfl⟩
def D4(N:Nat)(J:(List X6))(z0:(X6->Option (Bl×Bool))):Option (Bl×Bool):=
 (((idx J 0).bind fun M=>((z0 M).bind fun G=>some (G.2,G.1.Area,G.1.Prefix,G.1.Suffix,G.1.Stroke))).bind fun I=>some (({Area:=I.2.1,Prefix:=I.2.2.1,Suffix:=I.2.2.2.1,Stroke:=I.2.2.2.2}:Bl),I.1))
theorem Pa(N:Nat)(w0:World)(F0:Mem)(hF:X8 w0 F0)(M:(List X6))(Z:X7)(h0:Nat)(hp:LC M.length h0)(h5:SlA AR F0 Z M)(h1:Nat)(z0:(X6->Option (Bl×Bool)))(O:FuncId)(I J:List Value)(h6:Ag Tryz.prog O)(h7:JM F0 O I J z0)(h8:F0 h1=some (oc #[.func (.func O) I.toArray J.toArray] 188))(r:(Bl×Bool))(h:D4 N M z0=some r):
  cA 223 [sL Z M h0,pt h1 0] w0 F0 (.tuple #[.agg (Dh r.1),.bool r.2]):=by
 have h9:=XK hF;refine Go 12 Tryz.func223<|sR [0,1]<|Al' 186 #[sE,sE,sE,sE] h9 (fun U hr ha=>?_);refine Vs 1<|Nss ?_;obtain⟨G,hb,hc⟩:=bS h;refine RD 9 9 [] [] ha (kP w0 F0 F0 [sb U #[sv G.2.1,sv G.2.2.1,sv G.2.2.2.1,sv G.2.2.2.2] 186] [] [(3,(pt U 0)),(4,(.bool G.1))]) (fun hd h2=>?_) ?_
 ·refine Dl 0 (fun _ hq=>hq.1.1 _ _ h8) ?_;refine Dv [1] ?_;obtain⟨Y,he,hf⟩:=bS hb;obtain⟨hg,hx36'⟩:=Af he;obtain⟨hs,ht,hu,hv,hw,rfl,hF45,hE46⟩:=XQ h5 hx36';have hh:=hE46 _ _ hx36';refine Di 2 hg<|Dx 3 0 (fun _ hq=>hq.1.1 _ _ hF45) hh<|D1 4 ?_;obtain⟨hk,hl,hm⟩:=bS hf;refine XU (l':=[tt,tt,tt,tt,tt,ff,ff,ff,ff]) (zd:=true) (by kernel_rfl) (by kernel_rfl) (by kernel_rfl) (dst:=some 9) (ty:=187) (g:=none) (by kernel_rfl) rfl (f0:=.tmp 5) (aos:=#[.tmp 8]) (ats:=#[9]) (fid:=O) (first:=I.toArray) (cap:=J.toArray) (args:=I++(([sv Y]:List Value)++J)) rfl h6 (EN (l:=[sv Y]) (fi:=I) (k:=J) rfl) h2 (h7 hd F0 Y _ (XJ _) h2.pers hl) ?_;rintro _ F2 hx hn h3 rfl;refine Dv [5,6]<|D1 7<|HB (Dh hk.1) hn h3 (fun hy ho=>?_);refine Dv [8] ?_;obtain rfl:=Aa hm;exact XV (by kernel_rfl) ⟨F2,ho,h3,fI⟩
 ·rintro f hz ⟨F1,h4,b0,⟨_,rfl⟩⟩;refine Ab<|Rt ?_;obtain rfl:=Aa hc;exact⟨rfl,.tuple #[.agg #[sv G.2.1,sv G.2.2.1,sv G.2.2.2.1,sv G.2.2.2.2],.bool G.1],aK [.cell 3 186,.tmp 4] [.agg #[sv G.2.1,sv G.2.2.1,sv G.2.2.2.1,sv G.2.2.2.2],.bool G.1] ⟨U,0,rfl,aL 186 4 h4.at0,⟨rfl,trivial⟩⟩,.tuple #[.agg #[sv G.2.1,sv G.2.2.1,sv G.2.2.2.1,sv G.2.2.2.2],.bool G.1],F1,rfl,h4.clear,rfl⟩
def D3(N:Nat)(I:(List X6))(z0:(X6->Option (Bl×Bool))):Option (Bl×Bool):=
 (((idx I 1).bind fun U=>((z0 U).bind fun J=>some (J.2,J.1.Area,J.1.Prefix,J.1.Suffix,J.1.Stroke))).bind fun G=>((idx I 0).bind fun O=>((bif G.1 then((idx I 0).bind fun Y=>((Gc N Y).bind fun Z=>(bif Z then((idx I 0).bind fun h0=>((idx I 1).bind fun h1=>some ((decide ((h0.length:Int) < (h1.length:Int))),O,G.2.2.1,G.2.2.2.1,G.2.2.2.2)))else some (false,O,G.2.2.1,G.2.2.2.1,G.2.2.2.2))))else some (false,O,G.2.2.1,G.2.2.2.1,G.2.2.2.2)).bind fun M=>some (({Area:=M.2.1,Prefix:=M.2.2.1,Suffix:=M.2.2.2.1,Stroke:=M.2.2.2.2}:Bl),M.1))))
theorem O9(N:Nat)(w0:World)(F0:Mem)(hF:X8 w0 F0)(U:(List X6))(ha:X7)(h1:Nat)(cc:LC U.length h1)(hf:SlA AR F0 ha U)(hg:Nat)(z0:(X6->Option (Bl×Bool)))(h6:FuncId)(Y Z:List Value)(hh:Ag Tryz.prog h6)(hk:JM F0 h6 Y Z z0)(hs:F0 hg=some (oc #[.func (.func h6) Y.toArray Z.toArray] 188))(r:(Bl×Bool))(h:D3 N U z0=some r):
  cA 224 [sL ha U h1,pt hg 0] w0 F0 (.tuple #[.agg (Dh r.1),.bool r.2]):=by
 have ht:=XK hF;refine Go 38 Tryz.func224<|sR [0,1]<|Al' 186 #[sE,sE,sE,sE] ht (fun h2 cd hu=>?_);refine Vs 1<|Nss ?_;obtain⟨G,hv,hw⟩:=bS h;refine RD 11 11 [sb h2 #[sE,sE,sE,sE] 186] [] hu (fun f w=>∃F1 h8,HS w0 F0 w F1 [sb h8 #[sv G.2.1,sv G.2.2.1,sv G.2.2.2.1,sv G.2.2.2.2] 186,sb h2 #[sE,sE,sE,sE] 186]/\XI F0 F1/\FI f [] [(0,(sL ha U h1)),(3,(pt h2 0)),(5,(pt h8 0)),(6,(.bool G.1))]) (fun hx hb=>?_) ?_
 ·refine Dl 0 (fun _ hq=>hq.1.1 _ _ hs) ?_;refine Dv [1] ?_;obtain⟨h3,hy,hl⟩:=bS hv;obtain⟨hz,hx39'⟩:=Af hy;obtain⟨ce,cf,cg,ch,ci,rfl,hF48,hE49⟩:=XQ hf hx39';have b0:=hE49 _ _ hx39';refine Di 2 hz<|Dx 3 0 (fun _ hq=>hq.1.1 _ _ hF48) b0<|XR (i:=4) (j:=8) (by kernel_rfl) ?_ ?_
  ·obtain⟨b1,b2,b3⟩:=bS hl;refine XU (l':=[tt,tt,tt,tt,tt,ff,ff,ff,ff,ff,ff]) (zd:=true) (by kernel_rfl) (by kernel_rfl) (by kernel_rfl) (dst:=some 12) (ty:=187) (g:=none) (by kernel_rfl) rfl (f0:=.tmp 8) (aos:=#[.tmp 11]) (ats:=#[9]) (fid:=h6) (first:=Y.toArray) (cap:=Z.toArray) (args:=Y++(([sv h3]:List Value)++Z)) rfl hh (EN (l:=[sv h3]) (fi:=Y) (k:=Z) rfl) hb (hk hx F0 h3 _ (XJ _) hb.pers b2) ?_;rintro _ F2 cj b4 hc rfl;refine Dv [5,6,7]<|D1 8<|DAl 186 #[sE,sE,sE,sE] b4 hc (fun b5 cl b6=>?_);refine D1 9<|HB (Dh b1.1) b6 hc (fun cm b7=>?_);refine Dv [10] ?_;obtain rfl:=Aa b3;exact XV (by kernel_rfl) ⟨F2,b5,b7,hc,fI⟩
  ·refine DAl 186 #[sE,sE,sE,sE] hb (XJ _) (fun b8 b9 hm=>?_);refine D1 4 ?_;obtain⟨ba,bb,bc⟩:=bS hl;refine XU (l':=[tt,tt,tt,tt,tt,ff,ff,ff,tt,ff,ff]) (zd:=true) (by kernel_rfl) (by kernel_rfl) (by kernel_rfl) (dst:=some 12) (ty:=187) (g:=none) (by kernel_rfl) rfl (f0:=.tmp 8) (aos:=#[.tmp 11]) (ats:=#[9]) (fid:=h6) (first:=Y.toArray) (cap:=Z.toArray) (args:=Y++(([sv h3]:List Value)++Z)) rfl hh (EN (l:=[sv h3]) (fi:=Y) (k:=Z) rfl) hm (hk b9 F0 h3 _ (XJ _) hm.pers bb) ?_;rintro _ F3 cn bd hn rfl;refine Dv [5,6,7]<|D1 9<|HB (Dh ba.1) bd hn (fun co be=>?_);refine Dv [10] ?_;obtain rfl:=Aa bc;exact XV (by kernel_rfl) ⟨F3,b8,be,hn,fI⟩
 ·rintro f cp ⟨F1,h8,ho,bf,⟨_,rfl⟩⟩;refine Ab<|sR (rG 5)<|Vs 1 ?_;obtain⟨h7,bg,bh⟩:=bS hw;obtain⟨bi,hx79'⟩:=Af bg;obtain⟨M,O,cq,cr,ct,rfl,hF88,hE89⟩:=XQ (XL hf bf) hx79';have bj:=hE89 _ _ hx79';refine Ix bi<|Lx 0 (ho.pers _ _ hF88) bj<|Vs 1<|St0 #[sv h7,sv G.2.2.1,sv G.2.2.2.1,sv G.2.2.2.2] ho (fun cu bk=>?_);refine Nss ?_;obtain⟨I,bl,bm⟩:=bS bh;refine RD 21 21 [sb h8 #[sv h7,sv G.2.2.1,sv G.2.2.2.1,sv G.2.2.2.2] 186] [] bk (kP w0 F0 F1 [sb h2 #[sv I.2.1,sv I.2.2.1,sv I.2.2.2.1,sv I.2.2.2.2] 186] [] [(3,(pt h2 0)),(4,(.bool I.1))]) (fun bn hd=>?_) ?_
  ·refine Dl 0 (fun _ hq=>hq.1.2 0 _ _ rfl) ?_;refine Dvl [1,2] (tf 3 18)<|Sd bl (fun h0 bo=>?_) (fun h0 bp=>?_)
   ·refine Dgl 3 22 55 _ (tf 4 17) 2 true 21 h0 (fun _ hq=>mv 0 (sS M O U h1)) ?_;obtain⟨he,bq,br⟩:=bS bo;obtain⟨bs,hx109'⟩:=Af bq;have bt:=hE89 _ _ hx109';refine Dgl 4 23 0 (.pointer (some ⟨M,O + (0:Int).toNat * 1,none⟩)) (tf 5 16) 2 true 21 h0 (fun _ hq=>BN (t:=55) (x:=.tmp 22) (y:=.const (vi 0)) (b:=M) (o:=O) (E:=9) (s:=1) (by_:=16) rfl rfl (by kernel_rfl) bs)<|Dgl 5 24 9 _ (tf 6 15) 2 true 21 h0 (fun _ hq=>lx 9 23 0 1 false 1 (sv he) (hq.1.1 _ _ hF88) bt)<|D1 6 ?_;obtain⟨bu,bv,bw⟩:=bS br;refine XU (l':=[tt,tt,tt,tt,tt,tt,tt,ff,ff,ff,ff,ff,ff,ff,ff,ff,ff,ff,ff,ff,ff]) (zd:=true) (by kernel_rfl) (by kernel_rfl) (by kernel_rfl) (dst:=some 25) (ty:=4) (g:=some (2,true)) (by kernel_rfl) (Hp (d:=21) (by kernel_rfl) rfl h0) (f0:=.func 225) (aos:=#[.tmp 24]) (ats:=#[9]) (fid:=225) (first:=#[]) (cap:=#[]) (args:=[sv he]) rfl (cO 225) rfl hd (KV N bn F1 hd.pers he _ bv) ?_;rintro _ F5 cv hp h9 rfl;refine Dtl 7 26 4 _ (tf 8 13) (fun _ hq=>p1 21 (.tmp 25) (.const bF) (.bool bu) h0)<|Dvl [8] (tf 9 12)<|Sd bw (fun J bx=>?_) (fun J bz=>?_)
    ·refine Dgl 9 28 55 _ (tf 10 11) 8 true 27 J (fun _ hq=>mv 0 (sS M O U h1)) ?_;obtain⟨h4,c0,c1⟩:=bS bx;obtain⟨c3,hx126'⟩:=Af c0;have c4:=hE89 _ _ hx126';refine Dgl 10 29 0 (.pointer (some ⟨M,O + (0:Int).toNat * 1,none⟩)) (tf 11 10) 8 true 27 J (fun _ hq=>BN (t:=55) (x:=.tmp 28) (y:=.const (vi 0)) (b:=M) (o:=O) (E:=9) (s:=1) (by_:=16) rfl rfl (by kernel_rfl) c3)<|Dgl 11 30 9 _ (tf 12 9) 8 true 27 J (fun _ hq=>lx 9 29 0 1 false 1 (sv h4) (hq.1.1 _ _ hF88) c4)<|Dgl 12 31 3 (vi (h4.length:Int)) (tf 13 8) 8 true 27 J (fun _ hq=>I7 (x:=.tmp 30) (ats:=#[9]) (t:=9) (a:=h4) rfl rfl (by kernel_rfl))<|Dgl 13 32 55 _ (tf 14 7) 8 true 27 J (fun _ hq=>mv 0 (sS M O U h1)) ?_;obtain⟨h5,c5,c6⟩:=bS c1;obtain⟨c7,hx132'⟩:=Af c5;have c8:=hE89 _ _ hx132';refine Dgl 14 33 0 (.pointer (some ⟨M,O + (1:Int).toNat * 1,none⟩)) (tf 15 6) 8 true 27 J (fun _ hq=>BN (t:=55) (x:=.tmp 32) (y:=.const (vi 1)) (b:=M) (o:=O) (E:=9) (s:=1) (by_:=16) rfl rfl (by kernel_rfl) c7)<|Dgl 15 34 9 _ (tf 16 5) 8 true 27 J (fun _ hq=>lx 9 33 0 1 false 1 (sv h5) (hq.1.1 _ _ hF88) c8)<|Dgl 16 35 3 (vi (h5.length:Int)) (tf 17 4) 8 true 27 J (fun _ hq=>I7 (x:=.tmp 34) (ats:=#[9]) (t:=9) (a:=h5) rfl rfl (by kernel_rfl))<|Dgl 17 36 4 (.bool (decide ((h4.length:Int) < (h5.length:Int)))) (tf 18 3) 8 true 27 J (fun _ hq=>DF (t:=3) (t':=3) (x:=.tmp 31) (y:=.tmp 35) (k:=.i64) (a:=(h4.length:Int)) (b:=(h5.length:Int)) rfl rfl)<|Dtl 18 37 4 _ (tf 19 2) (fun _ hq=>p1 27 (.tmp 36) (.const bF) (.bool (decide ((h4.length:Int) < (h5.length:Int)))) J)<|D1 19<|MA #[sv h7,sv G.2.2.1,sv G.2.2.2.1,sv G.2.2.2.2] hp h9 (fun cw c9=>?_);refine Dvl [20] (tf 21 0) ?_;obtain rfl:=Aa c6;exact XV (by kernel_rfl) ⟨F5,c9.dr0,h9,fI⟩
    ·refine Dkl [(9,28),(10,29),(11,30),(12,31),(13,32),(14,33)] 8 true 27 J (tf 15 6)<|Dkl [(15,34),(16,35),(17,36)] 8 true 27 J (tf 18 3)<|Dtl 18 37 4 _ (tf 19 2) (fun _ hq=>p0 27 (.tmp 36) (.const bF) bF J)<|D1 19<|MA #[sv h7,sv G.2.2.1,sv G.2.2.2.1,sv G.2.2.2.2] hp h9 (fun cx ca=>?_);refine Dvl [20] (tf 21 0) ?_;obtain rfl:=Aa bz;exact XV (by kernel_rfl) ⟨F5,ca.dr0,h9,fI⟩
   ·refine Dkl [(3,22),(4,23),(5,24),(6,25)] 2 true 21 h0 (tf 7 14)<|Dtl 7 26 4 _ (tf 8 13) (fun _ hq=>p0 21 (.tmp 25) (.const bF) bF h0)<|Dvl [8] (tf 9 12)<|Dkl [(9,28),(10,29),(11,30),(12,31),(13,32),(14,33)] 8 true 27 rfl (tf 15 6)<|Dkl [(15,34),(16,35),(17,36)] 8 true 27 rfl (tf 18 3)<|Dtl 18 37 4 _ (tf 19 2) (fun _ hq=>p0 27 (.tmp 36) (.const bF) bF rfl)<|D1 19<|MA #[sv h7,sv G.2.2.1,sv G.2.2.2.1,sv G.2.2.2.2] hd (XJ _) (fun cy cb=>?_);refine Dvl [20] (tf 21 0) ?_;obtain rfl:=Aa bp;exact XV (by kernel_rfl) ⟨F1,cb.dr0,XJ _,fI⟩
  ·rintro f cz ⟨F4,hr,d0,⟨_,rfl⟩⟩;refine Ab<|Rt ?_;obtain rfl:=Aa bm;exact⟨rfl,.tuple #[.agg #[sv I.2.1,sv I.2.2.1,sv I.2.2.2.1,sv I.2.2.2.2],.bool I.1],aK [.cell 3 186,.tmp 4] [.agg #[sv I.2.1,sv I.2.2.1,sv I.2.2.2.1,sv I.2.2.2.2],.bool I.1] ⟨h2,0,rfl,aL 186 4 hr.at0,⟨rfl,trivial⟩⟩,.tuple #[.agg #[sv I.2.1,sv I.2.2.1,sv I.2.2.2.1,sv I.2.2.2.2],.bool I.1],F4,rfl,hr.clear,rfl⟩
def EH(N:Nat)(I:X6):Option Bool:=
 (((Gb N I 4 (fun G=>B2 N G)).bind fun J=>(bif J then some true else((Gb N I 1 (fun G=>Bn N G)).bind fun M=>some M))).bind fun O=>some O)
theorem LW(N:Nat)(w0:World)(F0:Mem)(hF:X8 w0 F0)(J:X6)(r:Bool)(h:EH N J=some r):
  cA 227 [sv J] w0 F0 (.bool r):=by
 have Y:=XK hF;refine Go 9 Tryz.func227<|sR [0]<|Vs 1<|nR (rG 7) ?_;obtain⟨Z,h1,h2⟩:=bS h;refine XO (kP w0 F0 F0 [] [] [(2,(.bool Z))]) ?_ ?_
 ·refine Vs 1 ?_;obtain⟨he,h3,h4⟩:=bS h1;refine Cl' (cO 198) Y (GS N w0 F0 Y.pers J 4 264 [] [] (fun G=>B2 N G) (cO 264) (fun w1 F1 G r h5 M O=>Gx N w1 F1 M G r O) _ h3) ?_;rintro _ F2 h6 U h0 rfl;refine Vs 1<|Sp h4 (fun I h7=>?_) (fun I h8=>?_)
  ·refine Ss I 2<|Pk1 I<|Vs 1 ?_;obtain rfl:=Aa h7;exact XE ⟨rfl,F2,U,h0,fI⟩
  ·refine Vgs I 1 ?_;obtain⟨hf,h9,ha⟩:=bS h8;refine Cg I (cO 198) U (GS N h6 F2 U.pers J 1 199 [] [] (fun G=>Bn N G) (cO 199) (fun w1 F1 G r h5 M O=>Hm N w1 F1 M G r O) _ h9) ?_;rintro _ F3 hg hb hc rfl;refine Pk0 I<|Vs 1 ?_;obtain rfl:=Aa ha;exact XE ⟨rfl,F3,hb,h0.t hc,fI⟩
 ·rintro f hh ⟨F1,hd,hk,⟨_,rfl⟩⟩;refine Ab<|Rt ?_;obtain rfl:=Aa h2;exact Re [.bool Z] hd rfl
def D2(N:Nat)(M:(List X6))(z0:(X6->Option (Bl×Bool))):Option (Bl×Bool):=
 (((idx M 0).bind fun U=>((z0 U).bind fun I=>some (I.2,I.1.Area,I.1.Prefix,I.1.Suffix,I.1.Stroke))).bind fun G=>((idx M 1).bind fun O=>((bif G.1 then((idx M 1).bind fun Y=>((EH N Y).bind fun Z=>some (Z,G.2.1,G.2.2.1,G.2.2.2.1,O)))else some (false,G.2.1,G.2.2.1,G.2.2.2.1,O)).bind fun J=>some (({Area:=J.2.1,Prefix:=J.2.2.1,Suffix:=J.2.2.2.1,Stroke:=J.2.2.2.2}:Bl),J.1))))
theorem O8(N:Nat)(w0:World)(F0:Mem)(hF:X8 w0 F0)(U:(List X6))(h4:X7)(h1:Nat)(bw:LC U.length h1)(hb:SlA AR F0 h4 U)(hc:Nat)(z0:(X6->Option (Bl×Bool)))(h0:FuncId)(J M:List Value)(hd:Ag Tryz.prog h0)(he:JM F0 h0 J M z0)(hn:F0 hc=some (oc #[.func (.func h0) J.toArray M.toArray] 188))(r:(Bl×Bool))(h:D2 N U z0=some r):
  cA 226 [sL h4 U h1,pt hc 0] w0 F0 (.tuple #[.agg (Dh r.1),.bool r.2]):=by
 have ho:=XK hF;refine Go 27 Tryz.func226<|sR [0,1]<|Al' 186 #[sE,sE,sE,sE] ho (fun Y bx hp=>?_);refine Vs 1<|Nss ?_;obtain⟨I,hr,hs⟩:=bS h;refine RD 11 11 [sb Y #[sE,sE,sE,sE] 186] [] hp (fun f w=>∃F1 h2,HS w0 F0 w F1 [sb h2 #[sv I.2.1,sv I.2.2.1,sv I.2.2.2.1,sv I.2.2.2.2] 186,sb Y #[sE,sE,sE,sE] 186]/\XI F0 F1/\FI f [] [(0,(sL h4 U h1)),(3,(pt Y 0)),(5,(pt h2 0)),(6,(.bool I.1))]) (fun ht h5=>?_) ?_
 ·refine Dl 0 (fun _ hq=>hq.1.1 _ _ hn) ?_;refine Dv [1] ?_;obtain⟨Z,hu,hf⟩:=bS hr;obtain⟨hv,hx39'⟩:=Af hu;obtain⟨bz,c0,c1,c3,c4,rfl,hF48,hE49⟩:=XQ hb hx39';have hw:=hE49 _ _ hx39';refine Di 2 hv<|Dx 3 0 (fun _ hq=>hq.1.1 _ _ hF48) hw<|XR (i:=4) (j:=8) (by kernel_rfl) ?_ ?_
  ·obtain⟨hx,hy,hz⟩:=bS hf;refine XU (l':=[tt,tt,tt,tt,tt,ff,ff,ff,ff,ff,ff]) (zd:=true) (by kernel_rfl) (by kernel_rfl) (by kernel_rfl) (dst:=some 12) (ty:=187) (g:=none) (by kernel_rfl) rfl (f0:=.tmp 8) (aos:=#[.tmp 11]) (ats:=#[9]) (fid:=h0) (first:=J.toArray) (cap:=M.toArray) (args:=J++(([sv Z]:List Value)++M)) rfl hd (EN (l:=[sv Z]) (fi:=J) (k:=M) rfl) h5 (he ht F0 Z _ (XJ _) h5.pers hy) ?_;rintro _ F2 c5 b0 h6 rfl;refine Dv [5,6,7]<|D1 8<|DAl 186 #[sE,sE,sE,sE] b0 h6 (fun b1 c6 b2=>?_);refine D1 9<|HB (Dh hx.1) b2 h6 (fun c7 b3=>?_);refine Dv [10] ?_;obtain rfl:=Aa hz;exact XV (by kernel_rfl) ⟨F2,b1,b3,h6,fI⟩
  ·refine DAl 186 #[sE,sE,sE,sE] h5 (XJ _) (fun b4 b5 hg=>?_);refine D1 4 ?_;obtain⟨b6,b7,b8⟩:=bS hf;refine XU (l':=[tt,tt,tt,tt,tt,ff,ff,ff,tt,ff,ff]) (zd:=true) (by kernel_rfl) (by kernel_rfl) (by kernel_rfl) (dst:=some 12) (ty:=187) (g:=none) (by kernel_rfl) rfl (f0:=.tmp 8) (aos:=#[.tmp 11]) (ats:=#[9]) (fid:=h0) (first:=J.toArray) (cap:=M.toArray) (args:=J++(([sv Z]:List Value)++M)) rfl hd (EN (l:=[sv Z]) (fi:=J) (k:=M) rfl) hg (he b5 F0 Z _ (XJ _) hg.pers b7) ?_;rintro _ F3 c8 b9 hh rfl;refine Dv [5,6,7]<|D1 9<|HB (Dh b6.1) b9 hh (fun c9 ba=>?_);refine Dv [10] ?_;obtain rfl:=Aa b8;exact XV (by kernel_rfl) ⟨F3,b4,ba,hh,fI⟩
 ·rintro f ca ⟨F1,h2,hk,bb,⟨_,rfl⟩⟩;refine Ab<|sR (rG 5)<|Vs 1 ?_;obtain⟨h3,bc,bd⟩:=bS hs;obtain⟨be,hx79'⟩:=Af bc;obtain⟨h7,h8,cb,cc,cd,rfl,hF88,hE89⟩:=XQ (XL hb bb) hx79';have bf:=hE89 _ _ hx79';refine Ix be<|Lx 0 (hk.pers _ _ hF88) bf<|Vs 1<|St0 #[sv I.2.1,sv I.2.2.1,sv I.2.2.2.1,sv h3] hk (fun ce bg=>?_);refine Nss ?_;obtain⟨G,bh,bi⟩:=bS bd;refine RD 10 10 [sb h2 #[sv I.2.1,sv I.2.2.1,sv I.2.2.2.1,sv h3] 186] [] bg (kP w0 F0 F1 [sb Y #[sv G.2.1,sv G.2.2.1,sv G.2.2.2.1,sv G.2.2.2.2] 186] [] [(3,(pt Y 0)),(4,(.bool G.1))]) (fun bj h9=>?_) ?_
  ·refine Dl 0 (fun _ hq=>hq.1.2 0 _ _ rfl) ?_;refine Dv [1,2]<|Sd bh (fun O bk=>?_) (fun O bl=>?_)
   ·refine Dg 3 22 55 _ 2 true 21 O (fun _ hq=>mv 0 (sS h7 h8 U h1)) ?_;obtain⟨ha,bm,bn⟩:=bS bk;obtain⟨bo,hx109'⟩:=Af bm;have bp:=hE89 _ _ hx109';refine Dg 4 23 0 (.pointer (some ⟨h7,h8 + (1:Int).toNat * 1,none⟩)) 2 true 21 O (fun _ hq=>BN (t:=55) (x:=.tmp 22) (y:=.const (vi 1)) (b:=h7) (o:=h8) (E:=9) (s:=1) (by_:=16) rfl rfl (by kernel_rfl) bo)<|Dg 5 24 9 _ 2 true 21 O (fun _ hq=>lx 9 23 0 1 false 1 (sv ha) (hq.1.1 _ _ hF88) bp)<|D1 6 ?_;obtain⟨bq,br,bs⟩:=bS bn;refine XU (l':=[tt,tt,tt,tt,tt,tt,tt,ff,ff,ff]) (zd:=true) (by kernel_rfl) (by kernel_rfl) (by kernel_rfl) (dst:=some 25) (ty:=4) (g:=some (2,true)) (by kernel_rfl) (Hp (d:=21) (by kernel_rfl) rfl O) (f0:=.func 227) (aos:=#[.tmp 24]) (ats:=#[9]) (fid:=227) (first:=#[]) (cap:=#[]) (args:=[sv ha]) rfl (cO 227) rfl h9 (LW N bj F1 h9.pers ha _ br) ?_;rintro _ F5 cf bt hl rfl;refine Dt 7 26 4 _ (fun _ hq=>p1 21 (.tmp 25) (.const bF) (.bool bq) O)<|D1 8<|MA #[sv I.2.1,sv I.2.2.1,sv I.2.2.2.1,sv h3] bt hl (fun cg bu=>?_);refine Dv [9] ?_;obtain rfl:=Aa bs;exact XV (by kernel_rfl) ⟨F5,bu.dr0,hl,fI⟩
   ·refine Dk [(3,22),(4,23),(5,24),(6,25)] 2 true 21 O ?_;refine Dt 7 26 4 _ (fun _ hq=>p0 21 (.tmp 25) (.const bF) bF O)<|D1 8<|MA #[sv I.2.1,sv I.2.2.1,sv I.2.2.2.1,sv h3] h9 (XJ _) (fun ch bv=>?_);refine Dv [9] ?_;obtain rfl:=Aa bl;exact XV (by kernel_rfl) ⟨F1,bv.dr0,XJ _,fI⟩
  ·rintro f ci ⟨F4,hm,cj,⟨_,rfl⟩⟩;refine Ab<|Rt ?_;obtain rfl:=Aa bi;exact⟨rfl,.tuple #[.agg #[sv G.2.1,sv G.2.2.1,sv G.2.2.2.1,sv G.2.2.2.2],.bool G.1],aK [.cell 3 186,.tmp 4] [.agg #[sv G.2.1,sv G.2.2.1,sv G.2.2.2.1,sv G.2.2.2.2],.bool G.1] ⟨Y,0,rfl,aL 186 4 hm.at0,⟨rfl,trivial⟩⟩,.tuple #[.agg #[sv G.2.1,sv G.2.2.1,sv G.2.2.2.1,sv G.2.2.2.2],.bool G.1],F4,rfl,hm.clear,rfl⟩
def D0(N:Nat)(J:(List X6))(z0:(X6->Option (Bl×Bool))):Option (Bl×Bool):=
 (((idx J 1).bind fun U=>((z0 U).bind fun M=>some (M.2,M.1.Area,M.1.Prefix,M.1.Suffix,M.1.Stroke))).bind fun G=>(((idx J 0).bind fun Y=>((idx J 2).bind fun Z=>some (Y,Z))).bind fun I=>((bif G.1 then((idx J 0).bind fun h0=>((Gc N h0).bind fun h1=>(bif h1 then((idx J 2).bind fun h2=>((EH N h2).bind fun h3=>some (h3,I.1,G.2.2.1,G.2.2.2.1,I.2)))else some (false,I.1,G.2.2.1,G.2.2.2.1,I.2))))else some (false,I.1,G.2.2.1,G.2.2.2.1,I.2)).bind fun O=>some (({Area:=O.2.1,Prefix:=O.2.2.1,Suffix:=O.2.2.2.1,Stroke:=O.2.2.2.2}:Bl),O.1))))
theorem O7(N:Nat)(w0:World)(F0:Mem)(hF:X8 w0 F0)(O:(List X6))(h4:X7)(h1:Nat)(cq:LC O.length h1)(h9:SlA AR F0 h4 O)(hg:Nat)(z0:(X6->Option (Bl×Bool)))(h5:FuncId)(U Y:List Value)(hh:Ag Tryz.prog h5)(hk:JM F0 h5 U Y z0)(ht:F0 hg=some (oc #[.func (.func h5) U.toArray Y.toArray] 188))(r:(Bl×Bool))(h:D0 N O z0=some r):
  cA 228 [sL h4 O h1,pt hg 0] w0 F0 (.tuple #[.agg (Dh r.1),.bool r.2]):=by
 have hu:=XK hF;refine Go 37 Tryz.func228<|sR [0,1]<|Al' 186 #[sE,sE,sE,sE] hu (fun M cr hv=>?_);refine Vs 1<|Nss ?_;obtain⟨G,hw,hx⟩:=bS h;refine RD 11 11 [sb M #[sE,sE,sE,sE] 186] [] hv (fun f w=>∃F1 h2,HS w0 F0 w F1 [sb h2 #[sv G.2.1,sv G.2.2.1,sv G.2.2.2.1,sv G.2.2.2.2] 186,sb M #[sE,sE,sE,sE] 186]/\XI F0 F1/\FI f [] [(0,(sL h4 O h1)),(3,(pt M 0)),(5,(pt h2 0)),(6,(.bool G.1))]) (fun hy ha=>?_) ?_
 ·refine Dl 0 (fun _ hq=>hq.1.1 _ _ ht) ?_;refine Dv [1] ?_;obtain⟨h3,hz,hl⟩:=bS hw;obtain⟨b0,hx39'⟩:=Af hz;obtain⟨ct,cu,cv,cw,cx,rfl,hF48,hE49⟩:=XQ h9 hx39';have b1:=hE49 _ _ hx39';refine Di 2 b0<|Dx 3 0 (fun _ hq=>hq.1.1 _ _ hF48) b1<|XR (i:=4) (j:=8) (by kernel_rfl) ?_ ?_
  ·obtain⟨b2,b3,b4⟩:=bS hl;refine XU (l':=[tt,tt,tt,tt,tt,ff,ff,ff,ff,ff,ff]) (zd:=true) (by kernel_rfl) (by kernel_rfl) (by kernel_rfl) (dst:=some 12) (ty:=187) (g:=none) (by kernel_rfl) rfl (f0:=.tmp 8) (aos:=#[.tmp 11]) (ats:=#[9]) (fid:=h5) (first:=U.toArray) (cap:=Y.toArray) (args:=U++(([sv h3]:List Value)++Y)) rfl hh (EN (l:=[sv h3]) (fi:=U) (k:=Y) rfl) ha (hk hy F0 h3 _ (XJ _) ha.pers b3) ?_;rintro _ F2 cy b5 hb rfl;refine Dv [5,6,7]<|D1 8<|DAl 186 #[sE,sE,sE,sE] b5 hb (fun b6 cz b7=>?_);refine D1 9<|HB (Dh b2.1) b7 hb (fun d0 b8=>?_);refine Dv [10] ?_;obtain rfl:=Aa b4;exact XV (by kernel_rfl) ⟨F2,b6,b8,hb,fI⟩
  ·refine DAl 186 #[sE,sE,sE,sE] ha (XJ _) (fun b9 ba hm=>?_);refine D1 4 ?_;obtain⟨bb,bc,bd⟩:=bS hl;refine XU (l':=[tt,tt,tt,tt,tt,ff,ff,ff,tt,ff,ff]) (zd:=true) (by kernel_rfl) (by kernel_rfl) (by kernel_rfl) (dst:=some 12) (ty:=187) (g:=none) (by kernel_rfl) rfl (f0:=.tmp 8) (aos:=#[.tmp 11]) (ats:=#[9]) (fid:=h5) (first:=U.toArray) (cap:=Y.toArray) (args:=U++(([sv h3]:List Value)++Y)) rfl hh (EN (l:=[sv h3]) (fi:=U) (k:=Y) rfl) hm (hk ba F0 h3 _ (XJ _) hm.pers bc) ?_;rintro _ F3 d1 be hn rfl;refine Dv [5,6,7]<|D1 9<|HB (Dh bb.1) be hn (fun d2 bf=>?_);refine Dv [10] ?_;obtain rfl:=Aa bd;exact XV (by kernel_rfl) ⟨F3,b9,bf,hn,fI⟩
 ·rintro f d3 ⟨F1,h2,bg,ho,⟨_,rfl⟩⟩;refine Ab<|Sq ?_;obtain⟨J,bh,bi⟩:=bS hx;refine RD 9 10 [sb M #[sE,sE,sE,sE] 186] [] bg (kP w0 F0 F1 [sb h2 #[sv J.1,sv G.2.2.1,sv G.2.2.2.1,sv J.2] 186,sb M #[sE,sE,sE,sE] 186] [] [(0,(sL h4 O h1)),(3,(pt M 0)),(5,(pt h2 0)),(6,(.bool G.1))]) (fun d4 bj=>?_) ?_
  ·refine Dv [0] ?_;obtain⟨hp,bk,bl⟩:=bS bh;obtain⟨bm,hx92'⟩:=Af bk;obtain⟨d6,d7,d8,d9,da,rfl,hF101,hE102⟩:=XQ (XL h9 ho) hx92';have bn:=hE102 _ _ hx92';refine Di 1 bm<|Dx 2 0 (fun _ hq=>hq.1.1 _ _ hF101) bn<|Dv [3] ?_;obtain⟨bo,bp,bq⟩:=bS bl;obtain⟨br,hx106'⟩:=Af bp;have bs:=hE102 _ _ hx106';refine Di 4 br<|Dx 5 0 (fun _ hq=>hq.1.1 _ _ hF101) bs<|Dv [6]<|D1 7<|HB #[sv hp,sv G.2.2.1,sv G.2.2.2.1,sv G.2.2.2.2] bj (XJ _) (fun db bt=>?_);refine Dv [8]<|D1 9<|HB #[sv hp,sv G.2.2.1,sv G.2.2.2.1,sv bo] bt (XJ _) (fun dc bu=>?_);obtain rfl:=Aa bq;exact XV (by kernel_rfl) ⟨F1,bu,XJ _,fI⟩
  ·rintro f dd ⟨F4,bv,bw,⟨_,rfl⟩⟩;refine Ab<|Sq ?_;obtain⟨I,bx,bz⟩:=bS bi;refine RD 16 16 [sb h2 #[sv J.1,sv G.2.2.1,sv G.2.2.2.1,sv J.2] 186] [] bv (kP w0 F0 F4 [sb M #[sv I.2.1,sv I.2.2.1,sv I.2.2.2.1,sv I.2.2.2.2] 186] [] [(3,(pt M 0)),(4,(.bool I.1))]) (fun c0 hc=>?_) ?_
   ·refine Dl 0 (fun _ hq=>hq.1.2 0 _ _ rfl) ?_;refine Dv [1,2]<|Sd bx (fun Z c1=>?_) (fun Z c3=>?_)
    ·refine Dg 3 26 55 _ 2 true 25 Z (fun _ hq=>mv 0 (sL h4 O h1)) ?_;obtain⟨hd,c4,c5⟩:=bS c1;obtain⟨c6,hx130'⟩:=Af c4;obtain⟨h6,h7,de,df,dg,rfl,hF139,hE140⟩:=XQ (XL h9 (ho.t bw)) hx130';have c7:=hE140 _ _ hx130';refine Dg 4 27 0 (.pointer (some ⟨h6,h7 + (0:Int).toNat * 1,none⟩)) 2 true 25 Z (fun _ hq=>BN (t:=55) (x:=.tmp 26) (y:=.const (vi 0)) (b:=h6) (o:=h7) (E:=9) (s:=1) (by_:=16) rfl rfl (by kernel_rfl) c6)<|Dg 5 28 9 _ 2 true 25 Z (fun _ hq=>lx 9 27 0 1 false 1 (sv hd) (hq.1.1 _ _ hF139) c7)<|D1 6 ?_;obtain⟨c8,c9,ca⟩:=bS c5;refine XU (l':=[tt,tt,tt,tt,tt,tt,tt,ff,ff,ff,ff,ff,ff,ff,ff,ff]) (zd:=true) (by kernel_rfl) (by kernel_rfl) (by kernel_rfl) (dst:=some 29) (ty:=4) (g:=some (2,true)) (by kernel_rfl) (Hp (d:=25) (by kernel_rfl) rfl Z) (f0:=.func 225) (aos:=#[.tmp 28]) (ats:=#[9]) (fid:=225) (first:=#[]) (cap:=#[]) (args:=[sv hd]) rfl (cO 225) rfl hc (KV N c0 F4 hc.pers hd _ c9) ?_;rintro _ F6 cb he h8 rfl;refine Dt 7 30 4 _ (fun _ hq=>p1 25 (.tmp 29) (.const bF) (.bool c8) Z)<|Dv [8]<|Sd ca (fun h0 cc=>?_) (fun h0 cd=>?_)
     ·refine Dg 9 32 55 _ 8 true 31 h0 (fun _ hq=>mv 0 (sS h6 h7 O h1)) ?_;obtain⟨hf,ce,cf⟩:=bS cc;obtain⟨cg,hx155'⟩:=Af ce;have ch:=hE140 _ _ hx155';refine Dg 10 33 0 (.pointer (some ⟨h6,h7 + (2:Int).toNat * 1,none⟩)) 8 true 31 h0 (fun _ hq=>BN (t:=55) (x:=.tmp 32) (y:=.const (vi 2)) (b:=h6) (o:=h7) (E:=9) (s:=1) (by_:=16) rfl rfl (by kernel_rfl) cg)<|Dg 11 34 9 _ 8 true 31 h0 (fun _ hq=>lx 9 33 0 1 false 1 (sv hf) (hq.1.1 _ _ hF139) ch)<|D1 12 ?_;obtain⟨ci,cj,cl⟩:=bS cf;refine XU (l':=[tt,tt,tt,tt,tt,tt,tt,tt,tt,tt,tt,tt,tt,ff,ff,ff]) (zd:=true) (by kernel_rfl) (by kernel_rfl) (by kernel_rfl) (dst:=some 35) (ty:=4) (g:=some (8,true)) (by kernel_rfl) (Hp (d:=31) (by kernel_rfl) rfl h0) (f0:=.func 227) (aos:=#[.tmp 34]) (ats:=#[9]) (fid:=227) (first:=#[]) (cap:=#[]) (args:=[sv hf]) rfl (cO 227) rfl he (LW N cb F6 he.pers hf _ cj) ?_;rintro _ F7 dh cm hr rfl;refine Dt 13 36 4 _ (fun _ hq=>p1 31 (.tmp 35) (.const bF) (.bool ci) h0)<|D1 14<|MA #[sv J.1,sv G.2.2.1,sv G.2.2.2.1,sv J.2] cm (h8.t hr) (fun di cn=>?_);refine Dv [15] ?_;obtain rfl:=Aa cl;exact XV (by kernel_rfl) ⟨F7,cn.dr0,h8.t hr,fI⟩
     ·refine Dk [(9,32),(10,33),(11,34),(12,35)] 8 true 31 h0 ?_;refine Dt 13 36 4 _ (fun _ hq=>p0 31 (.tmp 35) (.const bF) bF h0)<|D1 14<|MA #[sv J.1,sv G.2.2.1,sv G.2.2.2.1,sv J.2] he h8 (fun dj co=>?_);refine Dv [15] ?_;obtain rfl:=Aa cd;exact XV (by kernel_rfl) ⟨F6,co.dr0,h8,fI⟩
    ·refine Dk [(3,26),(4,27),(5,28),(6,29)] 2 true 25 Z ?_;refine Dt 7 30 4 _ (fun _ hq=>p0 25 (.tmp 29) (.const bF) bF Z)<|Dv [8]<|Dk [(9,32),(10,33),(11,34),(12,35)] 8 true 31 rfl<|Dt 13 36 4 _ (fun _ hq=>p0 31 (.tmp 35) (.const bF) bF rfl)<|D1 14<|MA #[sv J.1,sv G.2.2.1,sv G.2.2.2.1,sv J.2] hc (XJ _) (fun dk cp=>?_);refine Dv [15] ?_;obtain rfl:=Aa c3;exact XV (by kernel_rfl) ⟨F4,cp.dr0,XJ _,fI⟩
   ·rintro f dl ⟨F5,hs,dm,⟨_,rfl⟩⟩;refine Ab<|Rt ?_;obtain rfl:=Aa bz;exact⟨rfl,.tuple #[.agg #[sv I.2.1,sv I.2.2.1,sv I.2.2.2.1,sv I.2.2.2.2],.bool I.1],aK [.cell 3 186,.tmp 4] [.agg #[sv I.2.1,sv I.2.2.1,sv I.2.2.2.1,sv I.2.2.2.2],.bool I.1] ⟨M,0,rfl,aL 186 4 hs.at0,⟨rfl,trivial⟩⟩,.tuple #[.agg #[sv I.2.1,sv I.2.2.1,sv I.2.2.2.1,sv I.2.2.2.2],.bool I.1],F5,rfl,hs.clear,rfl⟩
def Mx(N:Nat):Option (List BK):=
 some [({words_:=1,split_:=(fun G=>D4 N G (fun G=>AM N G))}:BK),({words_:=2,split_:=(fun G=>D3 N G (fun G=>AM N G))}:BK),({words_:=2,split_:=(fun G=>D2 N G (fun G=>AM N G))}:BK),({words_:=3,split_:=(fun G=>D0 N G (fun G=>AM N G))}:BK)]
theorem Rr(N:Nat)(w0:World)(F0:Mem)(hF:X8 w0 F0)(hG:Bw F0)(r:(List BK))(h:Mx N=some r):
  cP 184 (lA []) w0 (AD w0 F0 fun F' v=>∃(h3:X7)(h4:Nat),v=(sL h3 r h4)/\LC r.length h4/\SlA Pe F' h3 r):=by
 have h6:=XK hF;refine Go 11 Tryz.func184<|sR [0]<|Vs 1<|nR [0,1]<|Al' 188 #[.nilFunc] h6 (fun J he h7=>?_);refine St0 #[fV 221 #[]] h7 (fun hf h8=>?_);refine nR (rG 10)<|Vs 8 ?_;obtain⟨F1,h9,h1,hF28⟩:=h8.fc0;refine Bs 228 [vi 1,fV 223 #[pt J 0],vi 2,fV 224 #[pt J 0],vi 2,fV 226 #[pt J 0],vi 3,fV 228 #[pt J 0]] h9 (fun h2 hg ha=>?_);have h5:Ak Pe 228 F1 (sA h2) 4 [({words_:=1,split_:=(fun G=>D4 N G (fun G=>AM N G))}:BK),({words_:=2,split_:=(fun G=>D3 N G (fun G=>AM N G))}:BK),({words_:=2,split_:=(fun G=>D2 N G (fun G=>AM N G))}:BK),({words_:=3,split_:=(fun G=>D0 N G (fun G=>AM N G))}:BK)] (some h2,.cells (lA [vi 1,fV 223 #[pt J 0],vi 2,fV 224 #[pt J 0],vi 2,fV 226 #[pt J 0],vi 3,fV 228 #[pt J 0]]) 228 (0,0)):=XY ⟨⟨223,[],[pt J 0],rfl,cO 223,(fun w1 F1 G U Y Z h0 r I M O=>Pa N w1 F1 M G U Y Z h0 J (fun G=>AM N G) 221 [] [] (cO 221) (JM.mono (fun w1 F1 G r I M O=>FN N w1 F1 M (hG.mono (h1.t I)) G r O) I) (I _ _ hF28) r O)⟩,⟨⟨224,[],[pt J 0],rfl,cO 224,(fun w1 F1 G U Y Z h0 r I M O=>O9 N w1 F1 M G U Y Z h0 J (fun G=>AM N G) 221 [] [] (cO 221) (JM.mono (fun w1 F1 G r I M O=>FN N w1 F1 M (hG.mono (h1.t I)) G r O) I) (I _ _ hF28) r O)⟩,⟨⟨226,[],[pt J 0],rfl,cO 226,(fun w1 F1 G U Y Z h0 r I M O=>O8 N w1 F1 M G U Y Z h0 J (fun G=>AM N G) 221 [] [] (cO 221) (JM.mono (fun w1 F1 G r I M O=>FN N w1 F1 M (hG.mono (h1.t I)) G r O) I) (I _ _ hF28) r O)⟩,⟨⟨228,[],[pt J 0],rfl,cO 228,(fun w1 F1 G U Y Z h0 r I M O=>O7 N w1 F1 M G U Y Z h0 J (fun G=>AM N G) 221 [] [] (cO 221) (JM.mono (fun w1 F1 G r I M O=>FN N w1 F1 M (hG.mono (h1.t I)) G r O) I) (I _ _ hF28) r O)⟩,rfl⟩⟩⟩⟩ (by simp);refine Vs 1<|Nt<|Rt ?_;have hb:=XW h5;obtain⟨F2,hc,hh,hd⟩:=ha.fr0 h5;obtain rfl:=Aa h;exact Re [sS h2 0 [({words_:=1,split_:=(fun G=>D4 N G (fun G=>AM N G))}:BK),({words_:=2,split_:=(fun G=>D3 N G (fun G=>AM N G))}:BK),({words_:=2,split_:=(fun G=>D2 N G (fun G=>AM N G))}:BK),({words_:=3,split_:=(fun G=>D0 N G (fun G=>AM N G))}:BK)] 4] hc ⟨some ⟨h2,0,none⟩,4,rfl,hb,hd⟩
def Do(N:Nat)(x0:X6)(I:(List X6))(J:(List BK)):Int->Option (Ba (Bl×Bool) Int):=fun G=>
 (bif(decide (G < (J.length:Int)))then((idx J G).bind fun M=>bif(M.words_ !=(I.length:Int))then some (.next (W64 (G + 1)))else((M.split_ I).bind fun O=>(bif O.2 then some (.ret (O.1,true))else some (.next (W64 (G + 1))))))else some (.done G))
def JY(N:Nat)(G:X6):Option (Bl×Bool):=
 (bif(decide ((G.length:Int) > 16))then some (({Area:=([]:X6),Prefix:=([]:X6),Suffix:=([]:X6),Stroke:=([]:X6)}:Bl),false)else((strings_Split N G ([47]:X6)).bind fun I=>((Mx N).bind fun J=>((AJ (Do N G I J) N 0).bind fun o=>o.k (fun r=>some r) (fun h0=>some (({Area:=([]:X6),Prefix:=([]:X6),Suffix:=([]:X6),Stroke:=([]:X6)}:Bl),false))))))
theorem Rq(N:Nat)(w0:World)(F0:Mem)(hF:X8 w0 F0)(hG:Bw F0)(Y:X6)(r:(Bl×Bool))(h:JY N Y=some r):
  cA 143 [sv Y] w0 F0 (.tuple #[.agg (Dh r.1),.bool r.2]):=by
 have hg:=XK hF;refine Go 37 Tryz.func143<|sR [0,1]<|Al' 186 #[sE,sE,sE,sE] hg (fun G hh h1=>?_);refine Vs 1<|Nss<|sR [0,1,2]<|Vs 3<|Nt<|Cd h (fun hk hl=>?_) (fun hk hm=>?_)
 ·refine sR [0,1,2]<|Vs 1<|St0 #[sE,sE,sE,sE] h1 (fun bz h6=>?_);refine Vs 1<|Nt<|Rt<|Ad ?_;obtain rfl:=Aa hl;exact⟨rfl,.tuple #[.agg #[sE,sE,sE,sE],bF],aK [.cell 2 186,.tmp 3] [.agg #[sE,sE,sE,sE],bF] ⟨G,0,rfl,aL 186 4 h6.at0,⟨rfl,trivial⟩⟩,.tuple #[.agg #[sE,sE,sE,sE],bF],F0,rfl,h6.clear,rfl⟩
 ·refine Sc<|Ab<|sR [0,1,2]<|Vs 1 ?_;obtain⟨h2,hn,ho⟩:=bS hm;refine Cl' (cO 93) h1 (Ds N hh F0 h1.pers hG Y ([47]:X6) _ hn) ?_;rintro _ F1 hp h7 hq ⟨h8,h9,rfl,hr,hs⟩;refine Vs 1<|Nss<|sR [0,1,2] ?_;obtain⟨h3,ht,hu⟩:=bS ho;refine Cl' (cO 184) h7 (Rr N hp F1 h7.pers (hG.mono hq) _ ht) ?_;rintro _ F2 c0 hv hw ⟨hx,hy,rfl,c1,hz⟩;refine Vs 2<|Nt ?_;obtain⟨ha,b0,hb⟩:=bS hu;refine XP (fun f w=>∃(hc:Int)(Z:_),ha=.done hc/\HS w0 F0 w Z [sb G #[sE,sE,sE,sE] 186]/\XI F2 Z/\FI f [] [(2,(pt G 0))]) ?_ ?_
  ·refine Bk<|XH (by kernel_rfl) (fun m f w=>∃(I:Int)(J:Mem),AJ (Do N Y h2 h3) m I=some ha/\HS w0 F0 w J [sb G #[sE,sE,sE,sE] 186]/\XI F2 J/\FI f [] [(2,(pt G 0)),(4,(sL h8 h2 h9)),(15,(sL hx h3 hy)),(16,(vi (h3.length:Int))),(17,(vi I))]) N ⟨0,F2,b0,hv,XJ _,fI⟩ ?_;rintro c3 f c4 ⟨I,J,b1,h4,M,⟨_,rfl⟩⟩;obtain⟨hd,c5,rfl,b2,h0⟩:=AE b1;refine sR [0]<|Vs 1<|Nss<|Cd b2 (fun b3 b4=>?_) (fun b3 b5=>?_)
   ·refine Sc<|Ab<|Sq<|Bk<|sR (rG 4) ?_;obtain⟨b6,b7,b8⟩:=bS b4;obtain⟨b9,hx74'⟩:=Af b7;obtain⟨c6,c7,c8,c9,ca,rfl,hF83,hE84⟩:=XQ (XL hz M) hx74';obtain⟨ba,bb,bc,bd,be,bf⟩:=hE84 _ _ hx74';refine Ix b9<|Lx 0 (h4.pers _ _ hF83) bd<|Al' 228 #[vi 0,.nilFunc] h4 (fun cb cc bg=>?_);refine St0 #[vi b6.words_,.func (.func ba) bb.toArray bc.toArray] bg (fun bh O=>?_);refine Nss<|sR (rG 5)<|Vs 1<|Ld O.at0<|Vs 3<|Nt<|Cd b8 (fun bi bj=>?_) (fun bi bk=>?_)
    ·refine Ex<|An<|Ay rfl<|Ab<|Rg [0,1]<|Vs 2<|XE ?_;have bl:=AC bj h0;exact⟨hd,xF _,W64 (I + 1),J,bl,O.dr0,M,fI⟩
    ·refine Sc<|Ab<|sR (rG 10)<|Vs 1<|Ld O.at0<|Vs 1 ?_;obtain⟨U,bm,bn⟩:=bS bk;refine Cq be O (bf bh J h2 h8 h9 hr (XL hs (hw.t M)) _ (XJ _) O.pers bm) ?_;rintro _ F5 cd bo bp rfl;refine Vs 3<|Al' 186 #[sE,sE,sE,sE] bo (fun ce cf bq=>?_);refine St0 (Dh U.1) bq (fun cg h5=>?_);refine Vs 1<|nR [0]<|Vs 1<|Nt<|Cd bn (fun br bs=>?_) (fun br bt=>?_)
     ·refine sR [0,1,2]<|Ld h5.at0<|St2 (Dh U.1) h5 (fun ch he=>?_);refine Vs 1<|Nt<|Rt<|Ao<|Ad<|Ad<|Ao ?_;have hret:=Bc bs h0;subst hret;refine .inr<|Ad ?_;obtain rfl:=Aa hb;exact⟨rfl,.tuple #[.agg (Dh U.1),bT],aK [.cell 2 186,.tmp 3] [.agg (Dh U.1),bT] ⟨G,0,rfl,aL 186 4 he.at2,⟨rfl,trivial⟩⟩,.tuple #[.agg (Dh U.1),bT],F5,rfl,he.clear,rfl⟩
     ·refine Sc<|Aq<|Ab<|Rg [0,1]<|Vs 2<|XE ?_;have bu:=AC bt h0;exact⟨hd,xF _,W64 (I + 1),F5,bu,h5.dr0.dr0,M.t bp,fI⟩
   ·refine Ex<|An<|An<|Ay rfl ?_;have bv:=AF b5 h0;exact .inl ⟨rfl,I,J,bv,h4,M,fI⟩
  ·rintro f ci ⟨hc,Z,rfl,bw,cj,⟨_,rfl⟩⟩;have bx:=A6 hb;refine Ab<|sR [0,1,2]<|Vs 1<|St0 #[sE,sE,sE,sE] bw (fun cl hf=>?_);refine Vs 1<|Nt<|Rt ?_;obtain rfl:=Aa bx;exact⟨rfl,.tuple #[.agg #[sE,sE,sE,sE],bF],aK [.cell 2 186,.tmp 3] [.agg #[sE,sE,sE,sE],bF] ⟨G,0,rfl,aL 186 4 hf.at0,⟨rfl,trivial⟩⟩,.tuple #[.agg #[sE,sE,sE,sE],bF],Z,rfl,hf.clear,rfl⟩
def GU(N:Nat)(G:X6):Option Bool:=
 ((JY N G).bind fun I=>some I.2)
theorem Mu(N:Nat)(w0:World)(F0:Mem)(hF:X8 w0 F0)(hG:Bw F0)(G:X6)(r:Bool)(h:GU N G=some r):
  cA 79 [sv G] w0 F0 (.bool r):=by
 have I:=XK hF;refine Go 11 Tryz.func79<|sR [0]<|Vs 1<|nR (rG 8)<|Vs 1 ?_;obtain⟨J,M,O⟩:=bS h;refine Cl' (cO 143) I (Rq N w0 F0 I.pers hG G _ M) ?_;rintro _ F1 h0 U h1 rfl;refine Vs 3<|Al' 186 #[sE,sE,sE,sE] U (fun h2 h3 Y=>?_);refine St0 (Dh J.1) Y (fun h4 Z=>?_);refine Vs 1<|nR [0,1]<|Vs 2<|Nt<|Rt ?_;obtain rfl:=Aa O;exact Re [.bool J.2] Z rfl
theorem aZ{P:Program}{w:World}{ρ:Operand->Value}{ty:TypeId}(x y:Operand){a b v:X6}(h:EB a b=some v)(hx:ρ x=.string ⟨a.toArray⟩:=by exact rfl)(hy:ρ y=.string ⟨b.toArray⟩:=by exact rfl):(Am ρ (.binOp .add 9 x y 9) ty).run P w=.ok (.value (.string ⟨v.toArray⟩)) w:=A4 hx hy h
def B1(N:Nat)(I J:Int):Option X6:=
 ((strconv_Itoa N I).bind fun G=>((strings_Repeat N ([48]:X6) (max 0 (W64 (J - (G.length:Int))))).bind fun M=>((EB M G).bind fun O=>some O)))
theorem IC(N:Nat)(w0:World)(F0:Mem)(hF:X8 w0 F0)(hG:Bw F0)(G I:Int)(r:X6)(h:B1 N G I=some r):
  cA 146 [vi G,vi I] w0 F0 (sv r):=by
 have J:=XK hF;refine Go 16 Tryz.func146<|sR [0]<|Vs 1<|nR [0,1,2]<|Vs 1 ?_;obtain⟨M,Y,Z⟩:=bS h;refine Cl' (cO 85) J (B5 N w0 F0 J.pers hG G _ Y) ?_;rintro _ F1 h0 O h7 rfl;refine Vs 1<|nR (rG 9)<|Vs 5 ?_;obtain⟨h1,h2,h3⟩:=bS Z;refine Cl' (cO 186) O (Mp N h0 F1 O.pers ([48]:X6) (max 0 (W64 (I - (M.length:Int)))) _ h2) ?_;rintro _ F2 h8 h4 h9 rfl;refine Vs 1 ?_;obtain⟨U,h5,h6⟩:=bS h3;refine V 15 9 (aZ (.tmp 13) (.tmp 14) h5)<|Vs 1<|Nt<|Rt ?_;obtain rfl:=Aa h6;exact Re [sv U] h4 rfl
def Dy(N:Nat)(G:Int):Option (X6×Int):=
 ((GT N G 0 20000).bind fun I=>bif(!I)then some (([]:X6),1)else((strconv_Itoa N (W64 ((W64 (Int.tdiv G 1440)) + 1))).bind fun J=>((EB J ([32]:X6)).bind fun M=>((B1 N (Int.tmod (W64 (Int.tdiv G 60)) 24) 2).bind fun O=>((EB M O).bind fun U=>((B1 N (Int.tmod G 60) 2).bind fun Y=>((EB U Y).bind fun Z=>some (Z,0))))))))
theorem IV(N:Nat)(w0:World)(F0:Mem)(hF:X8 w0 F0)(hG:Bw F0)(G:Int)(r:(X6×Int))(h:Dy N G=some r):
  cA 82 [vi G] w0 F0 (.tuple #[sv r.1,vi r.2]):=by
 have M:=XK hF;refine Go 21 Tryz.func82<|sR [0,1]<|Vs 2<|Nss<|sR [0,1,2]<|Vs 1 ?_;obtain⟨ht,h2,h3⟩:=bS h;refine Cl' (cO 140) M (IB N w0 F0 M.pers G 0 20000 _ h2) ?_;rintro _ F1 h4 I J rfl;refine Vs 1<|Nt<|Cd h3 (fun h5 h6=>?_) (fun h5 h7=>?_)
 ·refine sR [0,1]<|Vs 2<|Nt<|Rt<|Ad ?_;obtain rfl:=Aa h6;exact Re [sE,vi 1] I rfl
 ·refine Sc<|Ab<|sR (rG 16)<|Vs 3 ?_;obtain⟨h8,h9,ha⟩:=bS h7;refine Cl' (cO 85) I (B5 N h4 F1 I.pers (hG.mono J) (W64 ((W64 (Int.tdiv G 1440)) + 1)) _ h9) ?_;rintro _ F2 hb O U rfl;obtain⟨Y,hc,hd⟩:=bS ha;refine V 11 9 (aZ (.tmp 10) (.const (sv ([32]:X6))) hc)<|Vs 3 ?_;obtain⟨he,hf,hg⟩:=bS hd;refine Cl' (cO 146) O (IC N hb F2 O.pers (hG.mono (J.t U)) (Int.tmod (W64 (Int.tdiv G 60)) 24) 2 _ hf) ?_;rintro _ F3 hh Z hk rfl;obtain⟨h0,hl,hm⟩:=bS hg;refine V 16 9 (aZ (.tmp 11) (.tmp 15) hl)<|Vs 2 ?_;obtain⟨hn,ho,hp⟩:=bS hm;refine Cl' (cO 146) Z (IC N hh F3 Z.pers (hG.mono ((J.t U).trans hk)) (Int.tmod G 60) 2 _ ho) ?_;rintro _ F4 hu hq hv rfl;obtain⟨h1,hr,hs⟩:=bS hp;refine V 20 9 (aZ (.tmp 16) (.tmp 19) hr)<|Vs 2<|Nt<|Rt ?_;obtain rfl:=Aa hs;exact Re [sv h1,vi 0] hq rfl
def CX(N:Nat)(I:(List X6)):Int->Option (Ba X6 Int):=fun G=>
 (bif(decide (G < (I.length:Int)))then((idx I G).bind fun J=>bif(J !=([]:X6))then some (.ret J)else some (.next (W64 (G + 1))))else some (.done G))
def FL(N:Nat)(G:(List X6)):Option X6:=
 ((AJ (CX N G) N 0).bind fun o=>o.k (fun r=>some r) (fun h0=>some ([]:X6)))
theorem Nr(N:Nat)(w0:World)(F0:Mem)(hF:X8 w0 F0)(G:(List X6))(M:X7)(O:Nat)(hq:LC G.length O)(h3:SlA AR F0 M G)(r:X6)(h:FL N G=some r):
  cA 147 [sL M G O] w0 F0 (sv r):=by
 have h4:=XK hF;refine Go 18 Tryz.func147<|sR [0]<|Vs 1<|nR [0]<|Vs 1<|Nss<|sR [0,1,2]<|Vs 3<|Nt ?_;obtain⟨h0,h5,h1⟩:=bS h;refine XP (fun f w=>∃(h2:Int)(U:_),h0=.done h2/\HS w0 F0 w U []/\XI F0 U/\FI f [] [(3,sE)]) ?_ ?_
 ·refine Bk<|XH (by kernel_rfl) (fun m f w=>∃(I:Int)(F1:Mem),AJ (CX N G) m I=some h0/\HS w0 F0 w F1 []/\XI F0 F1/\FI f [] [(3,sE),(6,(sL M G O)),(7,(vi (G.length:Int))),(8,(vi I))]) N ⟨0,F0,h5,h4,XJ _,fI⟩ ?_;rintro hr f hs ⟨I,F1,h6,J,Y,⟨_,rfl⟩⟩;obtain⟨h7,ht,rfl,h8,Z⟩:=AE h6;refine sR [0]<|Vs 1<|Nss<|Cd h8 (fun h9 ha=>?_) (fun h9 hb=>?_)
  ·refine Sc<|Ab<|Sq<|Bk<|sR [0,1,2] ?_;obtain⟨hc,hd,he⟩:=bS ha;obtain⟨hf,hx49'⟩:=Af hd;obtain⟨hu,hv,hw,hx,hy,rfl,hF58,hE59⟩:=XQ (XL h3 Y) hx49';have hg:=hE59 _ _ hx49';refine Ix hf<|Lx 0 (J.pers _ _ hF58) hg<|Vs 1<|nR [0,1,2]<|Vs 3<|Nt<|Cd he (fun hh hk=>?_) (fun hh hl=>?_)
   ·refine sR [0,1]<|Vs 2<|Nt<|Rt<|Ao<|Ad<|Ad<|Ao ?_;have hret:=Bc hk Z;subst hret;refine .inr<|Ad ?_;obtain rfl:=Aa h1;exact Re [sv hc] J rfl
   ·refine Sc<|Aq<|Ab<|Rg [0,1]<|Vs 2<|XE ?_;have hm:=AC hl Z;exact⟨h7,xF _,W64 (I + 1),F1,hm,J,Y,fI⟩
  ·refine Ex<|An<|An<|Ay rfl ?_;have hn:=AF hb Z;exact .inl ⟨rfl,I,F1,hn,J,Y,fI⟩
 ·rintro f hz ⟨h2,U,rfl,ho,b0,⟨_,rfl⟩⟩;have hp:=A6 h1;refine Ab<|sR [0,1]<|Vs 2<|Nt<|Rt ?_;obtain rfl:=Aa hp;exact Re [sE] ho rfl
def B7(N:Nat)(x0:Ac)(x1:Ae)(h0:Bool)(J:(List AV)):(List X6×Int)->Option (Ba (X6×Int) (List X6×Int)):=fun G=>
 (bif(decide (G.2 < (J.length:Int)))then((idx J G.2).bind fun I=>((bif I.has_ then((B1 N I.n_ I.digits_).bind fun M=>((Bm G.1 [M]).bind fun O=>some O))else some G.1).bind fun U=>some (.next (U,(W64 (G.2 + 1))))))else some (.done (G.1,G.2)))
def BL(N:Nat)(G:Ac)(I:Ae):Option (X6×Int):=
 ((Cb N (lY G) ({Report:=I.Report,Serial:=I.Serial,Zone:=I.Zone}:Ae)).bind fun J=>bif(!J)then some (([]:X6),1)else((C3 N (lY G) ({Report:=I.Report,Serial:=I.Serial,Zone:=I.Zone}:Ae)).bind fun M=>((AJ (B7 N G I J M) N (([]:List X6),0)).bind fun o=>o.k (fun r=>some r) (fun O=>((strings_Join N O.1 ([32]:X6)).bind fun U=>((FL N ([U,([45]:X6)])).bind fun Y=>some (Y,0)))))))
theorem Ej(N:Nat)(w0:World)(F0:Mem)(hF:X8 w0 F0)(hG:Bw F0)(G:Ac)(I:Ae)(r:(X6×Int))(h:BL N G I=some r):
  cA 83 [.agg (Ah G),.agg (B0 I)] w0 F0 (.tuple #[sv r.1,vi r.2]):=by
 have hu:=XK hF;refine Go 36 Tryz.func83<|sR (rG 4)<|Bx' 23 (Ah G) hu (fun cx cy hv=>?_);refine Bx' 32 (B0 I) hv (fun cz hw h3=>?_);refine Vs 2<|Nss<|sR (rG 4)<|Ld h3.at1<|Ld h3.at0 ?_;obtain⟨hx,hy,hz⟩:=bS h;refine Cl' (cO 75) h3 (Ei N hw F0 h3.pers (lY G) ({Report:=I.Report,Serial:=I.Serial,Zone:=I.Zone}:Ae) _ hy) ?_;rintro _ F1 b0 U b1 rfl;refine Vs 1<|Nt<|Cd hz (fun b2 b3=>?_) (fun b2 b4=>?_)
 ·refine sR [0,1]<|Vs 2<|Nt<|Rt<|Ad ?_;obtain rfl:=Aa b3;exact Re [sE,vi 1] U rfl
 ·refine Sc<|Ab<|sR [0]<|Vs 1<|Nss<|sR (rG 5)<|Ld U.at1<|Ld U.at0 ?_;obtain⟨Y,b5,b6⟩:=bS b4;refine Cl' (cO 138) U (FY N b0 F1 U.pers (lY G) ({Report:=I.Report,Serial:=I.Serial,Zone:=I.Zone}:Ae) _ b5) ?_;rintro _ F2 d0 b7 b8 ⟨b9,hk,rfl,d1,ba⟩;refine Vs 2<|Nt ?_;have bb:=b7.dr0.dr0.dummy (oc #[] 0);obtain⟨hl,bc,bd⟩:=bS b6;refine XP (fun f w=>∃(Z:(List X6×Int))(F4:_)(h4:X7)(h5:_)(hb:_),hl=.done Z/\HS w0 F0 w F4 [hb]/\XI F2 F4/\FI f [] [(6,(sL h4 Z.1 h5))]/\Ak AR 9 F4 h4 h5 Z.1 hb) ?_ ?_
  ·refine Bk<|XH (by kernel_rfl) (fun m f w=>∃(J:(List X6×Int))(M:Mem)(h0:X7)(h1:Nat)(h2:oO),AJ (B7 N G I hx Y) m J=some hl/\HS w0 F0 w M [h2]/\XI F2 M/\FI f [] [(6,(sL h0 J.1 h1)),(15,(sL b9 Y hk)),(16,(vi (Y.length:Int))),(17,(vi J.2))]/\Ak AR 9 M h0 h1 J.1 h2) N ⟨(([]:List X6),0),F2,none,0,(none,.cells #[] 0 (0,0)),bc,bb,XJ _,fI,XX AR 9 F2 _⟩ ?_;rintro d2 f d3 ⟨J,M,h0,h1,h2,be,hc,h6,⟨_,rfl⟩,hd⟩;obtain⟨bf,d4,rfl,bg,hm⟩:=AE be;refine sR [0]<|Vs 1<|Nss<|Cd bg (fun bh bi=>?_) (fun bh bj=>?_)
   ·refine Sc<|Ab<|Sq<|Bk<|sR (rG 4) ?_;obtain⟨he,bk,bl⟩:=bS bi;obtain⟨bm,hx76'⟩:=Af bk;obtain⟨bn,bo,d6,d7,d8,rfl,hF85,hE86⟩:=XQ (XL ba h6) hx76';have bp:=hE86 _ _ hx76';refine Ix bm<|Lx 0 (hc.pers _ _ hF85) bp<|Al' 180 #[bF,vi 0,vi 0,vi 0] hc (fun d9 da bq=>?_);refine St0 (JU he) bq (fun br O=>?_);refine nR [0,1]<|Vs 1<|Ld O.at0<|Nt ?_;obtain⟨hf,bs,bt⟩:=bS bl;refine XP (fun f w=>∃(F5:_)(h7:X7)(h8:_)(h9:_),HS w0 F0 w F5 [h9]/\XI M F5/\FI f [] [(6,(sL h7 hf h8)),(15,(sS bn bo Y hk)),(16,(vi (Y.length:Int))),(17,(vi J.2))]/\Ak AR 9 F5 h7 h8 hf h9) ?_ ?_
    ·refine Cd bs (fun bu bv=>?_) (fun bu bw=>?_)
     ·refine Rg (rG 9)<|Vs 2<|Ld O.at0<|Vs 1<|Ld O.at0 ?_;obtain⟨hg,bx,bz⟩:=bS bv;refine Cl' (cO 146) O (IC N br M O.pers (hG.mono ((b1.t b8).trans h6)) he.n_ he.digits_ _ bx) ?_;rintro _ F6 db c0 hn rfl;refine Bs 9 [sv hg] c0 (fun ho dc hp=>?_);have c1:Ak AR 9 F6 (sA ho) 1 [hg] (some ho,.cells (lA [sv hg]) 9 (0,0)):=XY ⟨rfl,rfl⟩ (by simp);obtain⟨dd,c3,c4⟩:=bS bz;refine Ap2 Vp hp (hd.mono hn) (hp.rd0 c1) c3 (fun c5 c6 c7 de c8 c9=>?_);refine Vs 1<|XE ?_;obtain rfl:=Aa c4;exact .inl ⟨rfl,F6,c5,c6,c7,c8.dr0.dr0,hn,fI,c9⟩
     ·refine Sc ?_;obtain rfl:=Aa bw;exact .inl ⟨rfl,M,h0,h1,h2,O.dr0,XJ _,fI,hd⟩
    ·rintro f df ⟨F5,h7,h8,h9,ca,cb,⟨_,rfl⟩,cc⟩;refine Aq<|Ab<|Rg [0,1]<|Vs 2<|XE ?_;have cd:=AC bt hm;exact⟨bf,xF _,(hf,(W64 (J.2 + 1))),F5,h7,h8,h9,cd,ca,h6.t cb,fI,cc⟩
   ·refine Ex<|An<|An<|Ay rfl ?_;have ce:=AF bj hm;exact .inl ⟨rfl,(J.1,J.2),M,h0,h1,h2,ce,hc,h6,fI,hd⟩
  ·rintro f cf ⟨Z,F4,h4,h5,hb,rfl,cg,dg,⟨_,rfl⟩,hq⟩;have ch:=A6 bd;refine Ab<|sR (rG 6)<|Vs 1 ?_;have ci:=XW hq;obtain⟨F7,hr,dh,cj⟩:=cg.fr0 hq;obtain⟨ha,cl,cm⟩:=bS ch;refine Cl' (cO 84) hr (CY N cf F7 hr.pers Z.1 h4 h5 ci cj ([32]:X6) _ cl) ?_;rintro _ F8 di cn dj rfl;refine Bs 9 [sv ha,sv ([45]:X6)] cn (fun hh co cp=>?_);have hs:Ak AR 9 F8 (sA hh) 2 [ha,([45]:X6)] (some hh,.cells (lA [sv ha,sv ([45]:X6)]) 9 (0,0)):=XY ⟨rfl,⟨rfl,rfl⟩⟩ (by simp);have cq:=XW hs;obtain⟨F9,ht,dk,cr⟩:=cp.fr0 hs;obtain⟨ct,cu,cv⟩:=bS cm;refine Cl' (cO 147) ht (Nr N co F9 ht.pers ([ha,([45]:X6)]) (sA hh) 2 cq cr _ cu) ?_;rintro _ dl dm cw dn rfl;refine Vs 2<|Nt<|Rt ?_;obtain rfl:=Aa cv;exact Re [sv ct,vi 0] cw rfl




def C5(N:Nat)(I:(List X6))(J:X6):Int->Option (Ba Int Int):=fun G=>
 (bif(decide (G < (I.length:Int)))then((idx I G).bind fun M=>bif(J==M)then some (.ret G)else some (.next (W64 (G + 1))))else some (.done G))
def Co(N:Nat)(G:(List X6))(I:X6):Option Int:=
 ((AJ (C5 N G I) N 0).bind fun o=>o.k (fun r=>some r) (fun h0=>some (-1)))
theorem Dw(N:Nat)(w0:World)(F0:Mem)(hF:X8 w0 F0)(G:(List X6))(O:X7)(U:Nat)(hq:LC G.length U)(h4:SlA AR F0 O G)(J:X6)(r:Int)(h:Co N G J=some r):
  cA 94 [sL O G U,sv J] w0 F0 (vi r):=by
 have h5:=XK hF;refine Go 19 Tryz.func94<|sR [0]<|Vs 1<|Nss<|sR [0,1,2]<|Vs 3<|Nt ?_;obtain⟨h1,h6,h2⟩:=bS h;refine XP (fun f w=>∃(h3:Int)(Y:_),h1=.done h3/\HS w0 F0 w Y []/\XI F0 Y/\FI f [] []) ?_ ?_
 ·refine Bk<|XH (by kernel_rfl) (fun m f w=>∃(I:Int)(F1:Mem),AJ (C5 N G J) m I=some h1/\HS w0 F0 w F1 []/\XI F0 F1/\FI f [] [(0,(sL O G U)),(1,(sv J)),(7,(vi (G.length:Int))),(8,(vi I))]) N ⟨0,F0,h6,h5,XJ _,fI⟩ ?_;rintro hr f hs ⟨I,F1,h7,M,Z,⟨_,rfl⟩⟩;obtain⟨h8,ht,rfl,h9,h0⟩:=AE h7;refine sR [0]<|Vs 1<|Nss<|Cd h9 (fun ha hb=>?_) (fun ha hc=>?_)
  ·refine Sc<|Ab<|Sq<|Bk<|sR [0,1]<|Vs 2<|nR (rG 6)<|Vs 3 ?_;obtain⟨hu,hd,he⟩:=bS hb;obtain⟨hf,hx48'⟩:=Af hd;obtain⟨hv,hw,hx,hy,hz,rfl,hF57,hE58⟩:=XQ (XL h4 Z) hx48';have hg:=hE58 _ _ hx48';refine Ix hf<|Lx 0 (M.pers _ _ hF57) hg<|Vs 1<|Nt<|Cd he (fun hh hk=>?_) (fun hh hl=>?_)
   ·refine sR [0,1]<|Vs 2<|Nt<|Rt<|Ao<|Ad<|Ad<|Ao ?_;have hret:=Bc hk h0;subst hret;refine .inr<|Ad ?_;obtain rfl:=Aa h2;exact Re [vi I] M rfl
   ·refine Sc<|Aq<|Ab<|Rg [0,1]<|Vs 2<|XE ?_;have hm:=AC hl h0;exact⟨h8,xF _,W64 (I + 1),F1,hm,M,Z,fI⟩
  ·refine Ex<|An<|An<|Ay rfl ?_;have hn:=AF hc h0;exact .inl ⟨rfl,I,F1,hn,M,Z,fI⟩
 ·rintro f b0 ⟨h3,Y,rfl,ho,b1,⟨_,rfl⟩⟩;have hp:=A6 h2;refine Ab<|sR [0]<|Vs 1<|Nt<|Rt ?_;obtain rfl:=Aa hp;exact Re [vi (-1)] ho rfl
def Cx(N:Nat)(G:X6):Option Int:=
 ((Gb N G 9 (fun I=>Bn N I)).bind fun J=>bif(!J)then some (-1)else((ES N G).bind fun M=>some M.1))
theorem Fe(N:Nat)(w0:World)(F0:Mem)(hF:X8 w0 F0)(hG:Bw F0)(G:X6)(r:Int)(h:Cx N G=some r):
  cA 165 [sv G] w0 F0 (vi r):=by
 have M:=XK hF;refine Go 14 Tryz.func165<|sR [0]<|Vs 1<|Nss<|sR [0,1,2]<|Vs 1 ?_;obtain⟨h9,O,U⟩:=bS h;refine Cl' (cO 198) M (GS N w0 F0 M.pers G 9 199 [] [] (fun I=>Bn N I) (cO 199) (fun w1 F1 I r ha Y Z=>Hm N w1 F1 Y I r Z) _ O) ?_;rintro _ F1 h0 J h1 rfl;refine Vs 1<|Nt<|Cd U (fun h2 h3=>?_) (fun h2 h4=>?_)
 ·refine sR [0]<|Vs 1<|Nt<|Rt<|Ad ?_;obtain rfl:=Aa h3;exact Re [vi (-1)] J rfl
 ·refine Sc<|Ab<|sR (rG 7)<|Vs 1 ?_;obtain⟨h5,h6,h7⟩:=bS h4;refine Cl' (cO 163) J (JC N h0 F1 J.pers (hG.mono h1) G _ h6) ?_;rintro _ F2 hb h8 hc ⟨hd,rfl,he⟩;refine Vs 5<|nR [0,1]<|Vs 2<|Nt<|Rt ?_;obtain rfl:=Aa h7;exact Re [vi h5.1] h8 rfl
def GV(N:Nat)(J:X6):Option (Int×Int):=
 ((strings_Cut N J ([32]:X6)).bind fun M=>((Cx N M.1).bind fun I=>((Cx N M.2.1).bind fun G=>bif((decide (I < 1))||((decide (I > 20000))||(decide (G < 0))))then some (0,13)else((Dy N (W64 ((W64 ((W64 ((W64 (I - 1)) * 1440)) + (W64 ((W64 (Int.tdiv G 100)) * 60)))) + (Int.tmod G 100)))).bind fun O=>bif((O.2 !=0)||(O.1 !=J))then some (0,13)else some ((W64 ((W64 ((W64 ((W64 (I - 1)) * 1440)) + (W64 ((W64 (Int.tdiv G 100)) * 60)))) + (Int.tmod G 100))),0)))))
theorem Mv(N:Nat)(w0:World)(F0:Mem)(hF:X8 w0 F0)(hG:Bw F0)(U:X6)(r:(Int×Int))(h:GV N U=some r):
  cA 96 [sv U] w0 F0 (.tuple #[vi r.1,vi r.2]):=by
 have h4:=XK hF;refine Go 55 Tryz.func96<|sR [0,1]<|Vs 2<|nR (rG 9)<|Vs 1 ?_;obtain⟨h5,hb,hc⟩:=bS h;refine Cl' (cO 164) h4 (Ks N w0 F0 h4.pers hG U ([32]:X6) _ hb) ?_;rintro _ F1 hd h6 h0 rfl;refine Vs 7<|nR (rG 6)<|Vs 1 ?_;obtain⟨G,he,hf⟩:=bS hc;refine Cl' (cO 165) h6 (Fe N hd F1 h6.pers (hG.mono h0) h5.1 _ he) ?_;rintro _ F2 hg h7 h8 rfl;refine Vs 1 ?_;obtain⟨I,hh,hk⟩:=bS hf;refine Cl' (cO 165) h7 (Fe N hg F2 h7.pers (hG.mono (h0.t h8)) h5.2.1 _ hh) ?_;rintro _ Y hw h1 hl rfl;refine Vs 2<|Nss<|sR (rG 10)<|XO (kP w0 F0 Y [] [] [(0,(sv U)),(7,(vi G)),(8,(vi I)),(31,(.bool ((decide (G < 1))||((decide (G > 20000))||(decide (I < 0))))))]) ?_ ?_
 ·refine Vs 3<|XN (decide (G < 1)) (fun J=>?_) (fun J=>?_)
  ·refine Ss J 2<|Pk1 J<|Vs 1<|Ss rT 2<|Pk1 rT ?_;exact XE ⟨rfl,Y,h1,XJ _,fJ ⟨rfl,rfl,rfl,congrArg Value.bool (Ft J rfl),trivial⟩⟩
  ·refine Vgs J 2<|Pk0 J<|Vs 1<|XN (decide (G > 20000)) (fun M=>?_) (fun M=>?_)
   ·refine Ss M 2<|Pk1 M ?_;exact XE ⟨rfl,Y,h1,XJ _,fJ ⟨rfl,rfl,rfl,congrArg Value.bool (CC J (Ft M rfl)),trivial⟩⟩
   ·refine Vgs M 2<|Pk0 M ?_;exact XE ⟨rfl,Y,h1,XJ _,fJ ⟨rfl,rfl,rfl,congrArg Value.bool (CC J (CC M rfl)),trivial⟩⟩
 ·rintro f hm ⟨Z,h2,hn,⟨_,rfl⟩⟩;refine Ab<|Cd hk (fun ho hp=>?_) (fun ho hq=>?_)
  ·refine sR [0,1]<|Vs 2<|Nt<|Rt<|Ad ?_;obtain rfl:=Aa hp;exact Re [vi 0,vi 13] h2 rfl
  ·refine Sc<|Ab<|sR (rG 11)<|Vs 11<|Nss<|sR (rG 7)<|Vs 1 ?_;obtain⟨h3,hr,hs⟩:=bS hq;refine Cl' (cO 82) h2 (IV N hm Z h2.pers (hG.mono (((h0.t h8).trans hl).trans hn)) (W64 ((W64 ((W64 ((W64 (G - 1)) * 1440)) + (W64 ((W64 (Int.tdiv I 100)) * 60)))) + (Int.tmod I 100))) _ hr) ?_;rintro _ F5 hx h9 hy rfl;refine Vs 5<|nR (rG 7)<|XO (kP w0 F0 F5 [] [] [(9,(vi (W64 ((W64 ((W64 ((W64 (G - 1)) * 1440)) + (W64 ((W64 (Int.tdiv I 100)) * 60)))) + (Int.tmod I 100))))),(53,(.bool ((h3.2 !=0)||(h3.1 !=U))))]) ?_ ?_
   ·refine Vs 3<|XN (h3.2 !=0) (fun O=>?_) (fun O=>?_)
    ·refine Ss O 3<|Pk1 O ?_;exact XE ⟨rfl,F5,h9,XJ _,fJ ⟨rfl,congrArg Value.bool (Ft O rfl),trivial⟩⟩
    ·refine Vgs O 3<|Pk0 O ?_;exact XE ⟨rfl,F5,h9,XJ _,fJ ⟨rfl,congrArg Value.bool (CC O rfl),trivial⟩⟩
   ·rintro f hz ⟨F6,ha,b0,⟨_,rfl⟩⟩;refine Ab<|Cd hs (fun ht hu=>?_) (fun ht hv=>?_)
    ·refine sR [0,1]<|Vs 2<|Nt<|Rt<|Ad ?_;obtain rfl:=Aa hu;exact Re [vi 0,vi 13] ha rfl
    ·refine Sc<|Ab<|sR [0,1,2]<|Vs 3<|Nt<|Rt ?_;obtain rfl:=Aa hv;exact Re [vi (W64 ((W64 ((W64 ((W64 (G - 1)) * 1440)) + (W64 ((W64 (Int.tdiv I 100)) * 60)))) + (Int.tmod I 100))),vi 0] ha rfl
def EI(N:Nat)(G:Ac)(O:X6):Option (Ae×Int):=
 ((strings_Split N O ([32]:X6)).bind fun M=>(((C3 N (lY G) zE).bind fun Z=>((idx Z 0).bind fun h0=>(bif h0.has_ then some (decide ((M.length:Int) > 0))else some false))).bind fun h1=>((bif h1 then((idx M 0).bind fun h2=>((Cx N h2).bind fun h3=>((sub M 1 (M.length:Int)).bind fun h4=>some (h4,h3))))else some (M,0)).bind fun I=>(((C3 N (lY G) ({Report:=I.2,Serial:=0,Zone:=0}:Ae)).bind fun h5=>((idx h5 1).bind fun h6=>(bif h6.has_ then some (decide ((I.1.length:Int) > 0))else some false))).bind fun h7=>((bif h7 then((idx I.1 0).bind fun h8=>((Cx N h8).bind fun h9=>((sub I.1 1 (I.1.length:Int)).bind fun ha=>some (ha,h9))))else some (I.1,0)).bind fun J=>(((C3 N (lY G) ({Report:=I.2,Serial:=J.2,Zone:=0}:Ae)).bind fun hb=>((idx hb 2).bind fun hc=>(bif hc.has_ then some (decide ((J.1.length:Int) > 0))else some false))).bind fun hd=>((bif hd then((idx J.1 0).bind fun he=>((Cx N he).bind fun hf=>((sub J.1 1 (J.1.length:Int)).bind fun hg=>some (hg,hf))))else some (J.1,0)).bind fun U=>((BL N (lY G) ({Report:=I.2,Serial:=J.2,Zone:=U.2}:Ae)).bind fun Y=>bif((Y.2 !=0)||(Y.1 !=O))then some (zE,1)else some (({Report:=I.2,Serial:=J.2,Zone:=U.2}:Ae),0)))))))))
theorem JI(N:Nat)(w0:World)(F0:Mem)(hF:X8 w0 F0)(hG:Bw F0)(I:Ac)(Z:X6)(r:(Ae×Int))(h:EI N I Z=some r):
  cA 97 [.agg (Ah I),sv Z] w0 F0 (.tuple #[.agg (B0 r.1),vi r.2]):=by
 have bj:=XK hF;refine Go 60 Tryz.func97<|sR [0,1,2]<|Bx' 23 (Ah I) bj (fun Y gp bk=>?_);refine Al' 32 #[vi 0,vi 0,vi 0] bk (fun U bl b3=>?_);refine Vs 1<|nR [0,1,2]<|Vs 1 ?_;obtain⟨hp,bm,bn⟩:=bS h;refine Cl' (cO 93) b3 (Ds N bl F0 b3.pers hG Z ([32]:X6) _ bm) ?_;rintro _ F1 gr bo hk ⟨b4,hq,rfl,b5,hr⟩;refine Vs 1<|nR [0]<|Al' 32 #[vi 0,vi 0,vi 0] bo (fun G gs bp=>?_);refine Nss<|sR (rG 6)<|Vs 3<|Bs 194 [pt G 0,pt G 1,pt G 2] bp (fun M bq h7=>?_);refine Vs 2<|Nt<|Bk<|CWP.unroll (by kernel_rfl) 4<|URL.step<|sR [0]<|Vs 1<|Nss<|C1 rT<|Sc<|Ab<|Sq<|Bk<|sR (rG 5) ?_;refine Vs 1<|V 22 0 (Wc (v1:=pt M 0) (by rfl) (Da (t:=200) (x:=.tmp 17) (y:=.tmp 19) (b:=M) (nn:=3) (c:=3) (E:=194) (s:=1) (by_:=8) (j:=0) rfl rfl (by kernel_rfl) (by decide)))<|Ld h7.at0<|Vs 2<|nR (rG 12) ?_;obtain⟨br,bs,bt⟩:=bS bn;refine XO (kP w0 F0 F1 [sb M #[pt G 0,pt G 1,pt G 2] 194,sb G #[vi 0,vi 0,vi 0] 32,sb U #[vi 0,vi 0,vi 0] 32,sb Y (Ah I) 23] [] [(1,(sv Z)),(2,(pt Y 0)),(4,(pt U 0)),(6,(sL b4 hp hq)),(7,(pt G 0)),(9,(pt G 0)),(17,(.slice (sA M) 3 3)),(18,(vi 3)),(19,(vi 0)),(35,(.bool br))]) ?_ ?_
 ·refine Ld h7.at3<|Ld h7.at1 ?_;obtain⟨gu,bu,bv⟩:=bS bs;refine Cl' (cO 138) h7 (FY N bq F1 h7.pers (lY I) (zE) _ bu) ?_;rintro _ F3 gv hs b6 ⟨gw,gx,rfl,gy,bw⟩;refine Vs 1 ?_;obtain⟨gz,bx,bz⟩:=bS bv;obtain⟨c0,hx67'⟩:=Af bx;obtain⟨i0,i1,i2,i3,i4,rfl,hF76,hE77⟩:=XQ bw hx67';have c1:=hE77 _ _ hx67';refine Ix c0<|Vs 1<|Lx 0 (hs.pers _ _ hF76) c1<|Vs 1<|Sp bz (fun h8 c3=>?_) (fun h8 c4=>?_)
  ·refine Vgs h8 3<|Pk1 h8 ?_;obtain rfl:=Aa c3;exact XE ⟨rfl,F3,hs,b6,fI⟩
  ·refine Ss h8 3<|Pk0 h8 ?_;obtain rfl:=Aa c4;exact XE ⟨rfl,F3,hs,b6,fI⟩
 ·rintro f c5 ⟨F2,hl,h1,⟨_,rfl⟩⟩;refine Ab ?_;obtain⟨J,c6,c7⟩:=bS bt;refine XP (fun f w=>∃(F4:_)(h9:X7)(h3:_),HS w0 F0 w F4 [sb M #[pt G 0,pt G 1,pt G 2] 194,sb G #[vi J.2,vi 0,vi 0] 32,sb U #[vi 0,vi 0,vi 0] 32,sb Y (Ah I) 23]/\XI F2 F4/\FI f [] [(1,(sv Z)),(2,(pt Y 0)),(4,(pt U 0)),(6,(sL h9 J.1 h3)),(7,(pt G 0)),(17,(.slice (sA M) 3 3)),(18,(vi 3)),(19,(vi 0))]/\LC J.1.length h3/\SlA AR F4 h9 J.1) ?_ ?_
  ·refine Cd c6 (fun c8 c9=>?_) (fun c8 ca=>?_)
   ·refine sR (rG 7)<|Vs 2 ?_;obtain⟨cb,cc,cd⟩:=bS c9;obtain⟨ce,hx102'⟩:=Af cc;obtain⟨cf,cg,i5,i6,i7,rfl,hF111,hE112⟩:=XQ (XL hr h1) hx102';have ch:=hE112 _ _ hx102';refine Ix ce<|Lx 0 (hl.pers _ _ hF111) ch ?_;obtain⟨ci,cj,cl⟩:=bS cd;refine Cl' (cO 165) hl (Fe N c5 F2 hl.pers (hG.mono (hk.t h1)) cb _ cj) ?_;rintro _ F5 i8 cm b7 rfl;refine Vs 1<|St1 #[vi ci,vi 0,vi 0] cm (fun i9 cn=>?_);refine Nt<|Rg [0,1,2]<|Vs 1 ?_;obtain⟨co,cp,cq⟩:=bS cl;obtain⟨cr,ct,cu,cv,cw⟩:=E0 (P:=Tryz.prog) (T:=AR) (lo:=some (.const (vi 1))) (hi:=none) (mx:=none) (t:=55) (E:=9) (by_:=16) (c:=hq) (a:=some ⟨cf,cg,none⟩) (l:=hp) (r:=co) (il:=1) (ih:=(hp.length:Int)) (im:=0) (by kernel_rfl) (by kernel_rfl) b5 (XL hr (h1.t b7)) (fun h=>by first | rfl | cases h) cp;refine V 43 55 (cw (x:=.tmp 42) rfl rfl rfl trivial)<|Vs 1<|XE ?_;obtain rfl:=Aa cq;exact .inl ⟨rfl,F5,cr,ct,cn,b7,fI,cu,cv⟩
   ·refine Sc ?_;obtain rfl:=Aa ca;exact .inl ⟨rfl,F2,b4,hq,hl,XJ _,fI,b5,XL hr h1⟩
  ·rintro f cx ⟨F4,h9,h3,ha,ht,⟨_,rfl⟩,b8,hu⟩;refine Aq<|Ab<|Rg [0,1]<|Vs 2<|Nt<|URL.step<|sR [0]<|Vs 1<|Nss<|C1 rT<|Sc<|Ab<|Sq<|Bk<|sR (rG 5) ?_;refine Vs 1<|V 22 0 (Wc (v1:=pt M 1) (by rfl) (Da (t:=200) (x:=.tmp 17) (y:=.tmp 19) (b:=M) (nn:=3) (c:=3) (E:=194) (s:=1) (by_:=8) (j:=1) rfl rfl (by kernel_rfl) (by decide)))<|Ld ha.at0<|Vs 2<|nR (rG 12) ?_;obtain⟨cy,cz,d0⟩:=bS c7;refine XO (kP w0 F0 F4 [sb M #[pt G 0,pt G 1,pt G 2] 194,sb G #[vi J.2,vi 0,vi 0] 32,sb U #[vi 0,vi 0,vi 0] 32,sb Y (Ah I) 23] [] [(1,(sv Z)),(2,(pt Y 0)),(4,(pt U 0)),(6,(sL h9 J.1 h3)),(7,(pt G 0)),(9,(pt G 1)),(17,(.slice (sA M) 3 3)),(18,(vi 3)),(19,(vi 1)),(35,(.bool cy))]) ?_ ?_
   ·refine Ld ha.at3<|Ld ha.at1 ?_;obtain⟨ia,d1,d2⟩:=bS cz;refine Cl' (cO 138) ha (FY N cx F4 ha.pers (lY I) ({Report:=J.2,Serial:=0,Zone:=0}:Ae) _ d1) ?_;rintro _ F7 ib hv b9 ⟨ic,ie,rfl,ig,d3⟩;refine Vs 1 ?_;obtain⟨ii,d4,d6⟩:=bS d2;obtain⟨d7,hx159'⟩:=Af d4;obtain⟨ij,ik,io,ip,iq,rfl,hF168,hE169⟩:=XQ d3 hx159';have d8:=hE169 _ _ hx159';refine Ix d7<|Vs 1<|Lx 0 (hv.pers _ _ hF168) d8<|Vs 1<|Sp d6 (fun hb d9=>?_) (fun hb da=>?_)
    ·refine Vgs hb 3<|Pk1 hb ?_;obtain rfl:=Aa d9;exact XE ⟨rfl,F7,hv,b9,fI⟩
    ·refine Ss hb 3<|Pk0 hb ?_;obtain rfl:=Aa da;exact XE ⟨rfl,F7,hv,b9,fI⟩
   ·rintro f db ⟨F6,hm,h4,⟨_,rfl⟩⟩;refine Ab ?_;obtain⟨O,dc,dd⟩:=bS d0;refine XP (fun f w=>∃(F8:_)(hc:X7)(h5:_),HS w0 F0 w F8 [sb M #[pt G 0,pt G 1,pt G 2] 194,sb G #[vi J.2,vi O.2,vi 0] 32,sb U #[vi 0,vi 0,vi 0] 32,sb Y (Ah I) 23]/\XI F6 F8/\FI f [] [(1,(sv Z)),(2,(pt Y 0)),(4,(pt U 0)),(6,(sL hc O.1 h5)),(7,(pt G 0)),(17,(.slice (sA M) 3 3)),(18,(vi 3)),(19,(vi 1))]/\LC O.1.length h5/\SlA AR F8 hc O.1) ?_ ?_
    ·refine Cd dc (fun de df=>?_) (fun de dg=>?_)
     ·refine sR (rG 7)<|Vs 2 ?_;obtain⟨dh,di,dj⟩:=bS df;obtain⟨dk,hx194'⟩:=Af di;obtain⟨dl,dm,ir,it,iu,rfl,hF203,hE204⟩:=XQ (XL hu h4) hx194';have dn:=hE204 _ _ hx194';refine Ix dk<|Lx 0 (hm.pers _ _ hF203) dn ?_;obtain⟨dp,dq,dr⟩:=bS dj;refine Cl' (cO 165) hm (Fe N db F6 hm.pers (hG.mono (((hk.t h1).trans ht).trans h4)) dh _ dq) ?_;rintro _ F9 iv dt ba rfl;refine Vs 1<|St1 #[vi J.2,vi dp,vi 0] dt (fun iw du=>?_);refine Nt<|Rg [0,1,2]<|Vs 1 ?_;obtain⟨dv,dw,dx⟩:=bS dr;obtain⟨dy,dz,e0,e1,e2⟩:=E0 (P:=Tryz.prog) (T:=AR) (lo:=some (.const (vi 1))) (hi:=none) (mx:=none) (t:=55) (E:=9) (by_:=16) (c:=h3) (a:=some ⟨dl,dm,none⟩) (l:=J.1) (r:=dv) (il:=1) (ih:=(J.1.length:Int)) (im:=0) (by kernel_rfl) (by kernel_rfl) b8 (XL hu (h4.t ba)) (fun h=>by first | rfl | cases h) dw;refine V 43 55 (e2 (x:=.tmp 42) rfl rfl rfl trivial)<|Vs 1<|XE ?_;obtain rfl:=Aa dx;exact .inl ⟨rfl,F9,dy,dz,du,ba,fI,e0,e1⟩
     ·refine Sc ?_;obtain rfl:=Aa dg;exact .inl ⟨rfl,F6,h9,h3,hm,XJ _,fI,b8,XL hu h4⟩
    ·rintro f e3 ⟨F8,hc,h5,hd,bb,⟨_,rfl⟩,bc,hw⟩;refine Aq<|Ab<|Rg [0,1]<|Vs 2<|Nt<|URL.step<|sR [0]<|Vs 1<|Nss<|C1 rT<|Sc<|Ab<|Sq<|Bk<|sR (rG 5) ?_;refine Vs 1<|V 22 0 (Wc (v1:=pt M 2) (by rfl) (Da (t:=200) (x:=.tmp 17) (y:=.tmp 19) (b:=M) (nn:=3) (c:=3) (E:=194) (s:=1) (by_:=8) (j:=2) rfl rfl (by kernel_rfl) (by decide)))<|Ld hd.at0<|Vs 2<|nR (rG 12) ?_;obtain⟨e4,e6,e7⟩:=bS dd;refine XO (kP w0 F0 F8 [sb M #[pt G 0,pt G 1,pt G 2] 194,sb G #[vi J.2,vi O.2,vi 0] 32,sb U #[vi 0,vi 0,vi 0] 32,sb Y (Ah I) 23] [] [(1,(sv Z)),(2,(pt Y 0)),(4,(pt U 0)),(6,(sL hc O.1 h5)),(7,(pt G 0)),(9,(pt G 2)),(17,(.slice (sA M) 3 3)),(18,(vi 3)),(19,(vi 2)),(35,(.bool e4))]) ?_ ?_
     ·refine Ld hd.at3<|Ld hd.at1 ?_;obtain⟨iy,e8,e9⟩:=bS e6;refine Cl' (cO 138) hd (FY N e3 F8 hd.pers (lY I) ({Report:=J.2,Serial:=O.2,Zone:=0}:Ae) _ e8) ?_;rintro _ bd iz hx be ⟨j0,j1,rfl,j2,ea⟩;refine Vs 1 ?_;obtain⟨j3,eb,ec⟩:=bS e9;obtain⟨ed,hx251'⟩:=Af eb;obtain⟨j4,j5,j6,j7,j8,rfl,hF260,hE261⟩:=XQ ea hx251';have ee:=hE261 _ _ hx251';refine Ix ed<|Vs 1<|Lx 0 (hx.pers _ _ hF260) ee<|Vs 1<|Sp ec (fun he ef=>?_) (fun he eg=>?_)
      ·refine Vgs he 3<|Pk1 he ?_;obtain rfl:=Aa ef;exact XE ⟨rfl,bd,hx,be,fI⟩
      ·refine Ss he 3<|Pk0 he ?_;obtain rfl:=Aa eg;exact XE ⟨rfl,bd,hx,be,fI⟩
     ·rintro f eh ⟨h6,hn,hf,⟨_,rfl⟩⟩;refine Ab ?_;obtain⟨h0,ei,ej⟩:=bS e7;refine XP (fun f w=>∃(hg:_)(hy:X7)(hz:_),HS w0 F0 w hg [sb M #[pt G 0,pt G 1,pt G 2] 194,sb G #[vi J.2,vi O.2,vi h0.2] 32,sb U #[vi 0,vi 0,vi 0] 32,sb Y (Ah I) 23]/\XI h6 hg/\FI f [] [(1,(sv Z)),(2,(pt Y 0)),(4,(pt U 0)),(6,(sL hy h0.1 hz)),(7,(pt G 0)),(17,(.slice (sA M) 3 3)),(18,(vi 3)),(19,(vi 2))]/\LC h0.1.length hz/\SlA AR hg hy h0.1) ?_ ?_
      ·refine Cd ei (fun ek el=>?_) (fun ek en=>?_)
       ·refine sR (rG 7)<|Vs 2 ?_;obtain⟨eo,ep,er⟩:=bS el;obtain⟨et,hx286'⟩:=Af ep;obtain⟨eu,ev,j9,ja,jb,rfl,hF295,hE296⟩:=XQ (XL hw hf) hx286';have ew:=hE296 _ _ hx286';refine Ix et<|Lx 0 (hn.pers _ _ hF295) ew ?_;obtain⟨ex,ey,ez⟩:=bS er;refine Cl' (cO 165) hn (Fe N eh h6 hn.pers (hG.mono (((((hk.t h1).trans ht).trans h4).trans bb).trans hf)) eo _ ey) ?_;rintro _ g0 jc g1 bf rfl;refine Vs 1<|St1 #[vi J.2,vi O.2,vi ex] g1 (fun jd g2=>?_);refine Nt<|Rg [0,1,2]<|Vs 1 ?_;obtain⟨g3,g4,g5⟩:=bS ez;obtain⟨g6,g7,g8,g9,ga⟩:=E0 (P:=Tryz.prog) (T:=AR) (lo:=some (.const (vi 1))) (hi:=none) (mx:=none) (t:=55) (E:=9) (by_:=16) (c:=h5) (a:=some ⟨eu,ev,none⟩) (l:=O.1) (r:=g3) (il:=1) (ih:=(O.1.length:Int)) (im:=0) (by kernel_rfl) (by kernel_rfl) bc (XL hw (hf.t bf)) (fun h=>by first | rfl | cases h) g4;refine V 43 55 (ga (x:=.tmp 42) rfl rfl rfl trivial)<|Vs 1<|XE ?_;obtain rfl:=Aa g5;exact .inl ⟨rfl,g0,g6,g7,g2,bf,fI,g8,g9⟩
       ·refine Sc ?_;obtain rfl:=Aa en;exact .inl ⟨rfl,h6,hc,h5,hn,XJ _,fI,bc,XL hw hf⟩
      ·rintro f gh ⟨hg,hy,hz,ho,gi,⟨_,rfl⟩,je,jf⟩;refine Aq<|Ab<|Rg [0,1]<|Vs 2<|Nt<|URL.step<|sR [0] ?_;refine Vs 1<|Nss<|C0 rF<|Ex<|An<|An<|Ay rfl<|Ab<|Sq<|sR (rG 8)<|Ld ho.at3<|Ld ho.at1 ?_;obtain⟨b0,gk,gl⟩:=bS ej;refine Cl' (cO 83) ho (Ej N gh hg ho.pers (hG.mono ((((((hk.t h1).trans ht).trans h4).trans bb).trans hf).trans gi)) (lY I) ({Report:=J.2,Serial:=O.2,Zone:=h0.2}:Ae) _ gk) ?_;rintro _ b1 jg bg jh rfl;refine Vs 5<|nR (rG 7)<|XO (kP w0 F0 b1 [sb G #[vi J.2,vi O.2,vi h0.2] 32,sb U #[vi 0,vi 0,vi 0] 32] [] [(4,(pt U 0)),(7,(pt G 0)),(57,(.bool ((b0.2 !=0)||(b0.1 !=Z))))]) ?_ ?_
       ·refine Vs 3<|XN (b0.2 !=0) (fun h2=>?_) (fun h2=>?_)
        ·refine Ss h2 3<|Pk1 h2 ?_;exact XE ⟨rfl,b1,bg.dr0.dr2,XJ _,fJ ⟨rfl,rfl,congrArg Value.bool (Ft h2 rfl),trivial⟩⟩
        ·refine Vgs h2 3<|Pk0 h2 ?_;exact XE ⟨rfl,b1,bg.dr0.dr2,XJ _,fJ ⟨rfl,rfl,congrArg Value.bool (CC h2 rfl),trivial⟩⟩
       ·rintro f ji ⟨hh,b2,jj,⟨_,rfl⟩⟩;refine Ab<|Cd gl (fun gm gn=>?_) (fun gm go=>?_)
        ·refine sR [0,1,2]<|Vs 1<|St1 #[vi 0,vi 0,vi 0] b2 (fun jk bh=>?_);refine Vs 1<|Nt<|Rt<|Ad ?_;obtain rfl:=Aa gn;exact⟨rfl,.tuple #[.agg #[vi 0,vi 0,vi 0],vi 1],aK [.cell 4 32,.tmp 5] [.agg #[vi 0,vi 0,vi 0],vi 1] ⟨U,0,rfl,aL 32 3 bh.at1,⟨rfl,trivial⟩⟩,.tuple #[.agg #[vi 0,vi 0,vi 0],vi 1],hh,rfl,bh.clear,rfl⟩
        ·refine Sc<|Ab<|sR [0,1,2]<|Ld b2.at0<|St1 #[vi J.2,vi O.2,vi h0.2] b2 (fun jl bi=>?_);refine Vs 1<|Nt<|Rt ?_;obtain rfl:=Aa go;exact⟨rfl,.tuple #[.agg #[vi J.2,vi O.2,vi h0.2],vi 0],aK [.cell 4 32,.tmp 5] [.agg #[vi J.2,vi O.2,vi h0.2],vi 0] ⟨U,0,rfl,aL 32 3 bi.at1,⟨rfl,trivial⟩⟩,.tuple #[.agg #[vi J.2,vi O.2,vi h0.2],vi 0],hh,rfl,bi.clear,rfl⟩

def EL(N:Nat)(G:Int):Option Bool:=
 some ((decide (48<=G))&&(decide (G<=57)))
theorem Hz(N:Nat)(w0:World)(F0:Mem)(hF:X8 w0 F0)(G:Int)(r:Bool)(h:EL N G=some r):
  cA 204 [.int .u8 G] w0 F0 (.bool r):=by
 have J:=XK hF;refine Go 9 Tryz.func204<|sR [0]<|Vs 1<|nR (rG 7)<|XO (kP w0 F0 F0 [] [] [(2,(.bool ((decide (48<=G))&&(decide (G<=57)))))]) ?_ ?_
 ·refine Vs 3<|XN (decide (48<=G)) (fun I=>?_) (fun I=>?_)
  ·refine Vgs I 2<|Pk1 I<|Vs 1 ?_;exact XE ⟨rfl,F0,J,XJ _,fJ ⟨congrArg Value.bool (LZ I rfl),trivial⟩⟩
  ·refine Ss I 2<|Pk0 I<|Vs 1 ?_;exact XE ⟨rfl,F0,J,XJ _,fJ ⟨congrArg Value.bool (L0 I rfl),trivial⟩⟩
 ·rintro f h0 ⟨F1,M,h1,⟨_,rfl⟩⟩;refine Ab<|Rt ?_;obtain rfl:=Aa h;exact Re [.bool ((decide (48<=G))&&(decide (G<=57)))] M rfl



def B8(N:Nat)(I:(List Int))(J:(List Int)):Int->Option (Ba Bool Int):=fun G=>
 (bif(decide (G < (I.length:Int)))then(((idx I G).bind fun M=>((idx J G).bind fun O=>some (M !=O))).bind fun U=>(bif U then some (.ret false)else some (.next (W64 (G + 1)))))else some (.done G))
def BB(N:Nat)(G:(List Int))(I:(List Int)):Option Bool:=
 (bif((G.length:Int)!=(I.length:Int))then some false else((AJ (B8 N G I) N 0).bind fun o=>o.k (fun r=>some r) (fun h0=>some true)))
theorem Iz(N:Nat)(w0:World)(F0:Mem)(hF:X8 w0 F0)(G:(List Int))(M:X7)(O:Nat)(b6:LC G.length O)(h7:SlA AK F0 M G)(I:(List Int))(U:X7)(Y:Nat)(b7:LC I.length Y)(h8:SlA AK F0 U I)(r:Bool)(h:BB N G I=some r):
  cA 118 [sL M G O,sL U I Y] w0 F0 (.bool r):=by
 have h1:=XK hF;refine Go 26 Tryz.func118<|sR [0]<|Vs 1<|Nss<|sR (rG 5)<|Vs 5<|Nt<|Cd h (fun h9 ha=>?_) (fun h9 hb=>?_)
 ·refine sR [0]<|Vs 1<|Nt<|Rt<|Ad ?_;obtain rfl:=Aa ha;exact Re [bF] h1 rfl
 ·refine Sc<|Ab<|Sq<|sR [0,1,2]<|Vs 3<|Nt ?_;obtain⟨h2,hc,h3⟩:=bS hb;refine XP (fun f w=>∃(h4:Int)(F2:_),h2=.done h4/\HS w0 F0 w F2 []/\XI F0 F2/\FI f [] []) ?_ ?_
  ·refine Bk<|XH (by kernel_rfl) (fun m f w=>∃(J:Int)(F1:Mem),AJ (B8 N G I) m J=some h2/\HS w0 F0 w F1 []/\XI F0 F1/\FI f [] [(0,(sL M G O)),(1,(sL U I Y)),(12,(vi (G.length:Int))),(13,(vi J))]) N ⟨0,F0,hc,h1,XJ _,fI⟩ ?_;rintro b8 f b9 ⟨J,F1,hd,h5,Z,⟨_,rfl⟩⟩;obtain⟨he,ba,rfl,hf,h0⟩:=AE hd;refine sR [0]<|Vs 1<|Nss<|Cd hf (fun hg hh=>?_) (fun hg hk=>?_)
   ·refine Sc<|Ab<|Sq<|Bk<|sR [0,1]<|Vs 2<|Nss ?_;obtain⟨hl,hm,hn⟩:=bS hh;refine RD 9 9 [] [] h5 (kP w0 F0 F1 [] [] [(0,(sL M G O)),(1,(sL U I Y)),(12,(vi (G.length:Int))),(13,(vi J)),(24,(.bool hl))]) (fun bb ho=>?_) ?_
    ·refine Dv [0,1] ?_;obtain⟨bc,hp,hr⟩:=bS hm;obtain⟨hs,hx65'⟩:=Af hp;obtain⟨bd,be,bf,bg,bh,rfl,hF74,hE75⟩:=XQ (XL h7 Z) hx65';have ht:=hE75 _ _ hx65';refine Di 2 hs<|Dx 3 0 (fun _ hq=>hq.1.1 _ _ hF74) ht<|Dv [4,5] ?_;obtain⟨bi,hu,hv⟩:=bS hr;obtain⟨hw,hx79'⟩:=Af hu;obtain⟨bj,bk,bl,bm,bn,rfl,hF88,hE89⟩:=XQ (XL h8 Z) hx79';have hx:=hE89 _ _ hx79';refine Di 6 hw<|Dx 7 0 (fun _ hq=>hq.1.1 _ _ hF88) hx<|Dv [8] ?_;obtain rfl:=Aa hv;exact XV (by kernel_rfl) ⟨F1,ho,XJ _,fI⟩
    ·rintro f bo ⟨F3,h6,hy,⟨_,rfl⟩⟩;refine Ab<|Cd hn (fun hz b0=>?_) (fun hz b1=>?_)
     ·refine sR [0]<|Vs 1<|Nt<|Rt<|Ao<|Ad<|Ad<|Ao ?_;have hret:=Bc b0 h0;subst hret;refine .inr<|Ad ?_;obtain rfl:=Aa h3;exact Re [bF] h6 rfl
     ·refine Sc<|Aq<|Ab<|Rg [0,1]<|Vs 2<|XE ?_;have b2:=AC b1 h0;exact⟨he,xF _,W64 (J + 1),F3,b2,h6,Z.t hy,fI⟩
   ·refine Ex<|An<|An<|Ay rfl ?_;have b3:=AF hk h0;exact .inl ⟨rfl,J,F1,b3,h5,Z,fI⟩
  ·rintro f bp ⟨h4,F2,rfl,b4,bq,⟨_,rfl⟩⟩;have b5:=A6 h3;refine Ab<|sR [0]<|Vs 1<|Nt<|Rt ?_;obtain rfl:=Aa b5;exact Re [bT] b4 rfl
def C6(N:Nat)(G:(List X6))(I:X6):Option Bool:=
 ((Co N G I).bind fun J=>some (decide (J>=0)))
theorem Fi(N:Nat)(w0:World)(F0:Mem)(hF:X8 w0 F0)(G:(List X6))(I:X7)(J:Nat)(U:LC G.length J)(Y:SlA AR F0 I G)(M:X6)(r:Bool)(h:C6 N G M=some r):
  cA 122 [sL I G J,sv M] w0 F0 (.bool r):=by
 have O:=XK hF;refine Go 9 Tryz.func122<|sR [0]<|Vs 1<|nR (rG 5)<|Vs 2 ?_;obtain⟨Z,h0,h1⟩:=bS h;refine Cl' (cO 94) O (Dw N w0 F0 O.pers G I J U Y M _ h0) ?_;rintro _ F1 h3 h2 h4 rfl;refine Vs 2<|Nt<|Rt ?_;obtain rfl:=Aa h1;exact Re [.bool (decide (Z>=0))] h2 rfl
def AQ(N:Nat)(x0:List Fix):(Int×Int×List Fix)->Option (Ba (List Fix) (Int×Int×List Fix)):=fun G=>
 (bif(decide (G.1 < G.2.1))then(((idx G.2.2 G.2.1).bind fun I=>((idx G.2.2 G.1).bind fun J=>((idx G.2.2 G.1).bind fun h0=>((idx (G.2.2.set (G.1:Int).toNat I) G.2.1).bind fun h1=>some ((G.2.2.set (G.1:Int).toNat I).set (G.2.1:Int).toNat J))))).bind fun M=>some (.next ((W64 (G.1 + 1)),(W64 (G.2.1 - 1)),M)))else some (.done (G.1,G.2.1,G.2.2)))
def AX(N:Nat)(G:List Fix):Option (List Fix):=
 ((AJ (AQ N G) N (0,(W64 ((G.length:Int) - 1)),G)).bind fun o=>o.k (fun r=>some r) (fun I=>some I.2.2))
theorem Fc(N:Nat){wb w0:World}{Fb F0:Mem}{Lf:Own}(Z:List Fix)(U:X7)(Y:Nat)(e0:oO)(hn:Ak Bx 64 F0 U Y Z e0)(ho:HS wb Fb w0 F0 (e0::Lf))(r:List Fix)(h:AX N Z=some r):
  cP 126 (lA [.slice U Z.length Y]) w0 (fun e w'=>∃ F' e',e=.returned (.tuple #[])/\HS wb Fb w' F' (e'::Lf)/\XI F0 F'/\Ak Bx 64 F' U Y r e'):=by
 refine OA (n:=28) (c:=OJ Tryz.f126) Tryz.func126 (by kernel_rfl) (by kernel_rfl) (by kernel_rfl)<|sR (rG 5)<|Vs 1<|Vs 1<|Vs 1<|Vs 1<|Vs 1<|Nt ?_;obtain⟨o1,hp,h3⟩:=bS h;refine XP (fun f w=>∃(h5:(Int×Int×List Fix))(F2:_)(h6:_),o1=.done h5/\HS wb Fb w F2 (h6::Lf)/\XI F0 F2/\FI f [] []/\Ak Bx 64 F2 U Y h5.2.2 h6) ?_ ?_
 ·refine Bk<|XH (by kernel_rfl) (fun m f w=>∃(J:(Int×Int×List Fix))(F1:Mem)(h2:oO),AJ (AQ N Z) m J=some o1/\HS wb Fb w F1 (h2::Lf)/\XI F0 F1/\FI f [] [(0,(sL U J.2.2 Y)),(2,(vi J.1)),(3,(vi J.2.1))]/\Ak Bx 64 F1 U Y J.2.2 h2) N ⟨(0,(W64 ((Z.length:Int) - 1)),Z),F0,e0,hp,ho,XJ _,fI,hn⟩ ?_;rintro cb f w5 ⟨J,F1,h2,hr,h9,ha,⟨_,rfl⟩,h7⟩;obtain⟨hs,cc,rfl,ht,hb⟩:=AE hr;refine Sq<|sR [0,1,2]<|Vs 1<|Vs 1<|Vs 1<|Nt<|Cd ht (fun hu hv=>?_) (fun hu hw=>?_)
  ·refine Sc<|Ab<|Sq<|Bk ?_;obtain⟨h8,hx,hy⟩:=bS hv;refine RD 15 16 [] [] h9 (fun f w=>∃F3 h4,HS wb Fb w F3 (h4::Lf)/\XI F1 F3/\FI f [] [(0,(sL U h8 Y)),(2,(vi J.1)),(3,(vi J.2.1))]/\Ak Bx 64 F3 U Y h8 h4) (fun cd O=>?_) ?_
   ·refine Dv [0]<|Dv [1]<|Dv [2]<|Dv [3]<|Dv [4]<|Dv [5] ?_;obtain⟨G,hz,b0⟩:=bS hx;obtain⟨b1,hx39'⟩:=Af hz;obtain⟨M,h0,rfl,rfl,hE46⟩:=XZ h7 hx39';have h1:=h7;have hc:=hE46 _ _ hx39';refine Dj 6 b1<|Dv [8]<|Dv [9] ?_;obtain⟨I,b2,hd⟩:=bS b0;obtain⟨b3,hx51'⟩:=Af b2;obtain⟨ce,cf,b4,b5,hE58⟩:=XZ h1 hx51';cases b4;cases b5;have he:=hE58 _ _ hx51';refine Dj 10 b3<|XR (i:=7) (j:=11) (by kernel_rfl) ?_ ?_
    ·refine XS (l':=[tt,tt,tt,tt,tt,tt,tt,tt,tt,tt,tt,ff,ff,ff,ff,ff]) (zd:=false) (by kernel_rfl) (by kernel_rfl) (dst:=some 21) (ty:=64) (g:=none) (by kernel_rfl) rfl (Fq (t:=64) (x:=.tmp 20) (b:=M) (o:=(J.2.1:Int).toNat * 13) (j:=0) (C:=h0) (kk:=13) (cs:=[vi G.Kind,vi G.Num,vi G.Line.Num,vi G.Line.Khz,vi G.Line.Mode,vi G.Line.Minute,sv G.Line.Call,vi G.Line.Sent.Report,vi G.Line.Sent.Serial,vi G.Line.Sent.Zone,vi G.Line.Got.Report,vi G.Line.Got.Serial,vi G.Line.Got.Zone]) (gg:=true) (s:=13) (v:=.agg (Ci G)) rfl (by kernel_rfl) O.at0 hc (by decide) (by exact⟨rfl,trivial⟩) rfl rfl) (A0 O (XJ _) (by simp) (fun _=>by simp)) ?_;refine D1 11<|XS (l':=[tt,tt,tt,tt,tt,tt,tt,tt,tt,tt,tt,tt,ff,ff,ff,ff]) (zd:=false) (by kernel_rfl) (by kernel_rfl) (dst:=some 25) (ty:=64) (g:=none) (by kernel_rfl) rfl (Fq (t:=64) (x:=.tmp 24) (b:=M) (o:=(J.1:Int).toNat * 13) (j:=0) (C:=h0) (kk:=13) (cs:=[vi I.Kind,vi I.Num,vi I.Line.Num,vi I.Line.Khz,vi I.Line.Mode,vi I.Line.Minute,sv I.Line.Call,vi I.Line.Sent.Report,vi I.Line.Sent.Serial,vi I.Line.Sent.Zone,vi I.Line.Got.Report,vi I.Line.Got.Serial,vi I.Line.Got.Zone]) (gg:=true) (s:=13) (v:=.agg (Ci I)) rfl (by kernel_rfl) O.at0 he (by decide) (by exact⟨rfl,trivial⟩) rfl rfl) (A0 O (XJ _) (by simp) (fun _=>by simp)) ?_;obtain⟨cg,b6,b7⟩:=bS hd;obtain⟨b8,hx62'⟩:=Af b6;obtain⟨ch,ci,b9,ba,hE69⟩:=XZ h1 hx62';cases b9;cases ba;have cj:=hE69 _ _ hx62';refine Dj 12 b8<|D1 13<|X0 (l':=[tt,tt,tt,tt,tt,tt,tt,tt,tt,tt,tt,tt,tt,tt,ff,ff]) (zd:=false) (by kernel_rfl) (by kernel_rfl) (ty:=0) (g:=none) (by kernel_rfl) rfl (x:=.tmp 26) (y:=.tmp 21) (t:=64) (v:=.agg (Ci G)) (gg:=true) (b:=M) (j:=(J.1:Int).toNat) (C:=h0) (T:=Bx) (E:=64) (u:=G) rfl rfl (by kernel_rfl) O (k:=0) rfl h1 hx62' rfl rfl (XJ _) (fun _=>by simp) (fun _ _=>by simp) (fun hf bb (bc:HS wb Fb bb F1 ((some M,.cells hf 64 (0,0))::Lf)) hg=>?_);obtain⟨cl,bd,be⟩:=bS b7;obtain⟨bf,hx77'⟩:=Af bd;obtain⟨cm,cn,bg,bh,hE84⟩:=XZ hg hx77';cases bg;cases bh;have co:=hE84 _ _ hx77';refine Df 14 27 0 (.pointer (some ⟨M,(J.2.1:Int).toNat * 13,none⟩)) (fun _ hq=>Da (t:=60) (x:=.tmp 16) (y:=.tmp 17) (b:=M) (E:=64) (s:=13) (by_:=112) (Iq rfl) rfl (by kernel_rfl) bf)<|D1 15<|X0 (l':=[tt,tt,tt,tt,tt,tt,tt,tt,tt,tt,tt,tt,tt,tt,tt,tt]) (zd:=true) (by kernel_rfl) (by kernel_rfl) (ty:=0) (g:=none) (by kernel_rfl) rfl (x:=.tmp 27) (y:=.tmp 25) (t:=64) (v:=.agg (Ci I)) (gg:=true) (b:=M) (j:=(J.2.1:Int).toNat) (C:=hf) (T:=Bx) (E:=64) (u:=I) rfl rfl (by kernel_rfl) bc (k:=0) rfl hg hx77' rfl rfl (XJ _) (fun _=>by simp) (fun e=>by cases e) (fun hh bi (bj:HS wb Fb bi F1 ((some M,.cells hh 64 (0,0))::Lf)) bk=>?_);obtain rfl:=Aa be;exact XV (by kernel_rfl) ⟨F1,(some M,.cells hh 64 (0,0)),bj,XJ _,fJ ⟨Iq (Iq rfl),rfl,rfl,trivial⟩,bk⟩
    ·refine XS (l':=[tt,tt,tt,tt,tt,tt,tt,ff,tt,tt,tt,tt,ff,ff,ff,ff]) (zd:=false) (by kernel_rfl) (by kernel_rfl) (dst:=some 25) (ty:=64) (g:=none) (by kernel_rfl) rfl (Fq (t:=64) (x:=.tmp 24) (b:=M) (o:=(J.1:Int).toNat * 13) (j:=0) (C:=h0) (kk:=13) (cs:=[vi I.Kind,vi I.Num,vi I.Line.Num,vi I.Line.Khz,vi I.Line.Mode,vi I.Line.Minute,sv I.Line.Call,vi I.Line.Sent.Report,vi I.Line.Sent.Serial,vi I.Line.Sent.Zone,vi I.Line.Got.Report,vi I.Line.Got.Serial,vi I.Line.Got.Zone]) (gg:=true) (s:=13) (v:=.agg (Ci I)) rfl (by kernel_rfl) O.at0 he (by decide) (by exact⟨rfl,trivial⟩) rfl rfl) (A0 O (XJ _) (by simp) (fun _=>by simp)) ?_;refine D1 7<|XS (l':=[tt,tt,tt,tt,tt,tt,tt,tt,tt,tt,tt,tt,ff,ff,ff,ff]) (zd:=false) (by kernel_rfl) (by kernel_rfl) (dst:=some 21) (ty:=64) (g:=none) (by kernel_rfl) rfl (Fq (t:=64) (x:=.tmp 20) (b:=M) (o:=(J.2.1:Int).toNat * 13) (j:=0) (C:=h0) (kk:=13) (cs:=[vi G.Kind,vi G.Num,vi G.Line.Num,vi G.Line.Khz,vi G.Line.Mode,vi G.Line.Minute,sv G.Line.Call,vi G.Line.Sent.Report,vi G.Line.Sent.Serial,vi G.Line.Sent.Zone,vi G.Line.Got.Report,vi G.Line.Got.Serial,vi G.Line.Got.Zone]) (gg:=true) (s:=13) (v:=.agg (Ci G)) rfl (by kernel_rfl) O.at0 hc (by decide) (by exact⟨rfl,trivial⟩) rfl rfl) (A0 O (XJ _) (by simp) (fun _=>by simp)) ?_;obtain⟨cp,bl,bm⟩:=bS hd;obtain⟨bn,hx92'⟩:=Af bl;obtain⟨cq,cr,bo,bp,hE99⟩:=XZ h1 hx92';cases bo;cases bp;have ct:=hE99 _ _ hx92';refine Dj 12 bn<|D1 13<|X0 (l':=[tt,tt,tt,tt,tt,tt,tt,tt,tt,tt,tt,tt,tt,tt,ff,ff]) (zd:=false) (by kernel_rfl) (by kernel_rfl) (ty:=0) (g:=none) (by kernel_rfl) rfl (x:=.tmp 26) (y:=.tmp 21) (t:=64) (v:=.agg (Ci G)) (gg:=true) (b:=M) (j:=(J.1:Int).toNat) (C:=h0) (T:=Bx) (E:=64) (u:=G) rfl rfl (by kernel_rfl) O (k:=0) rfl h1 hx92' rfl rfl (XJ _) (fun _=>by simp) (fun _ _=>by simp) (fun hk bq (br:HS wb Fb bq F1 ((some M,.cells hk 64 (0,0))::Lf)) hl=>?_);obtain⟨cu,bs,bt⟩:=bS bm;obtain⟨bu,hx107'⟩:=Af bs;obtain⟨cv,cw,bv,bw,hE114⟩:=XZ hl hx107';cases bv;cases bw;have cx:=hE114 _ _ hx107';refine Df 14 27 0 (.pointer (some ⟨M,(J.2.1:Int).toNat * 13,none⟩)) (fun _ hq=>Da (t:=60) (x:=.tmp 16) (y:=.tmp 17) (b:=M) (E:=64) (s:=13) (by_:=112) (Iq rfl) rfl (by kernel_rfl) bu)<|D1 15<|X0 (l':=[tt,tt,tt,tt,tt,tt,tt,tt,tt,tt,tt,tt,tt,tt,tt,tt]) (zd:=true) (by kernel_rfl) (by kernel_rfl) (ty:=0) (g:=none) (by kernel_rfl) rfl (x:=.tmp 27) (y:=.tmp 25) (t:=64) (v:=.agg (Ci I)) (gg:=true) (b:=M) (j:=(J.2.1:Int).toNat) (C:=hk) (T:=Bx) (E:=64) (u:=I) rfl rfl (by kernel_rfl) br (k:=0) rfl hl hx107' rfl rfl (XJ _) (fun _=>by simp) (fun e=>by cases e) (fun hm bx (bz:HS wb Fb bx F1 ((some M,.cells hm 64 (0,0))::Lf)) c0=>?_);obtain rfl:=Aa bt;exact XV (by kernel_rfl) ⟨F1,(some M,.cells hm 64 (0,0)),bz,XJ _,fJ ⟨Iq (Iq rfl),rfl,rfl,trivial⟩,c0⟩
   ·rintro f cy ⟨F3,h4,c1,c3,⟨_,rfl⟩,c4⟩;refine Aq<|Ab<|Rg (rG 6)<|Vs 1<|Vs 1<|Vs 1<|Vs 1<|Vs 1<|Vs 1<|XE ?_;have c5:=AC hy hb;exact⟨hs,xF _,((W64 (J.1 + 1)),(W64 (J.2.1 - 1)),h8),F3,h4,c5,c1,ha.t c3,fI,c4⟩
  ·refine Ex<|An<|An<|Ay rfl ?_;have c6:=AF hw hb;exact .inl ⟨rfl,(J.1,J.2.1,J.2.2),F1,h2,c6,h9,ha,fI,h7⟩
 ·rintro f cz ⟨h5,F2,h6,rfl,c7,c8,⟨_,rfl⟩,c9⟩;have ca:=A6 h3;have hfin:=Aa ca;subst hfin;exact⟨rfl,.tuple #[],aK [] [] trivial,F2,_,rfl,c7,c8,c9⟩

def Eu(N:Nat)(I:X6):(List X6×Int×Int)->Option (Ba (List X6) (List X6×Int×Int)):=fun G=>
 (bif(decide (G.2.2 < (I.length:Int)))then((K4 I G.2.2).bind fun M=>((bif(M==47)then((K1 I G.2.1 G.2.2).bind fun O=>((Bm G.1 [O]).bind fun U=>some (U,(W64 (G.2.2 + 1)))))else some (G.1,G.2.1)).bind fun J=>some (.next (J.1,J.2,(W64 (G.2.2 + 1))))))else some (.done (G.1,G.2.1,G.2.2)))
def Gp(N:Nat)(G:X6):Option (List X6):=
 ((AJ (Eu N G) N (([]:List X6),0,0)).bind fun o=>o.k (fun r=>some r) (fun I=>((K1 G I.2.1 (G.length:Int)).bind fun J=>((Bm I.1 [J]).bind fun M=>some M))))
theorem OC(N:Nat)(w0:World)(F0:Mem)(hF:X8 w0 F0)(I:X6)(r:(List X6))(h:Gp N I=some r):
  cP 229 (lA [sv I]) w0 (AD w0 F0 fun F' v=>∃(ha:X7)(hb:Nat),v=(sL ha r hb)/\LC r.length hb/\SlA AR F' ha r):=by
 have ho:=XK hF;refine Go 31 Tryz.func229<|sR [0]<|Vs 1<|nR [0]<|Vs 1<|nR [0]<|Vs 1<|Nss<|sR [0]<|Vs 1<|Nt ?_;have hp:=ho.dummy (oc #[] 0);obtain⟨hc,hq,hr⟩:=bS h;refine XP (fun f w=>∃(J:(List X6×Int×Int))(M:_)(h5:X7)(h6:_)(h7:_),hc=.done J/\HS w0 F0 w M [h7]/\XI F0 M/\FI f [] [(0,(sv I)),(3,(sL h5 J.1 h6)),(4,(vi J.2.1))]/\Ak AR 9 M h5 h6 J.1 h7) ?_ ?_
 ·refine Bk<|XH (by kernel_rfl) (fun m f w=>∃(G:(List X6×Int×Int))(F1:Mem)(O:X7)(U:Nat)(Y:oO),AJ (Eu N I) m G=some hc/\HS w0 F0 w F1 [Y]/\XI F0 F1/\FI f [] [(0,(sv I)),(3,(sL O G.1 U)),(4,(vi G.2.1)),(5,(vi G.2.2))]/\Ak AR 9 F1 O U G.1 Y) N ⟨(([]:List X6),0,0),F0,none,0,(none,.cells #[] 0 (0,0)),hq,hp,XJ _,fI,XX AR 9 F0 _⟩ ?_;rintro bz f c0 ⟨G,F1,O,U,Y,hs,h8,hd,⟨_,rfl⟩,h9⟩;obtain⟨ht,c1,rfl,hu,he⟩:=AE hs;refine Sq<|sR (rG 4)<|Vs 4<|Nt<|Cd hu (fun hv hw=>?_) (fun hv hx=>?_)
  ·refine Sc<|Ab<|Sq<|Bk<|sR (rG 4)<|Vs 2 ?_;obtain⟨hy,hz,b0⟩:=bS hw;refine V 14 5 (EU (t:=9) (x:=.tmp 12) (y:=.tmp 13) (a:=I) (k:=.i64) (i:=G.2.2) (v:=hy) rfl rfl (by kernel_rfl) hz)<|Vs 1<|Nt ?_;obtain⟨Z,b1,b2⟩:=bS b0;refine XP (fun f w=>∃(F3:_)(h0:X7)(h1:_)(h2:_),HS w0 F0 w F3 [h2]/\XI F1 F3/\FI f [] [(0,(sv I)),(3,(sL h0 Z.1 h1)),(4,(vi Z.2)),(5,(vi G.2.2))]/\Ak AR 9 F3 h0 h1 Z.1 h2) ?_ ?_
   ·refine Cd b1 (fun b3 b4=>?_) (fun b3 b5=>?_)
    ·refine sR (rG 8)<|Vs 4 ?_;obtain⟨h3,b6,b7⟩:=bS b4;refine V 20 9 (GF (t:=9) (x:=.tmp 17) (lo:=some (.tmp 18)) (hi:=some (.tmp 19)) (a:=I) (il:=G.2.1) (ih:=G.2.2) (v:=h3) rfl (by kernel_rfl) rfl rfl b6)<|Bs 9 [sv h3] h8 (fun hf c3 hg=>?_);have b8:Ak AR 9 F1 (sA hf) 1 [h3] (some hf,.cells (lA [sv h3]) 9 (0,0)):=XY ⟨rfl,rfl⟩ (by simp);obtain⟨c4,b9,ba⟩:=bS b7;refine Ap1 Vp hg h9 (hg.rd0 b8) b9 (fun bb bc bd c5 be bf=>?_);refine Vs 1<|Nt<|Rg [0,1,2]<|Vs 3<|XE ?_;obtain rfl:=Aa ba;exact .inl ⟨rfl,F1,bb,bc,bd,be.dr0,XJ _,fI,bf⟩
    ·refine Sc ?_;obtain rfl:=Aa b5;exact .inl ⟨rfl,F1,O,U,Y,h8,XJ _,fI,h9⟩
   ·rintro f c6 ⟨F3,h0,h1,h2,bg,bh,⟨_,rfl⟩,bi⟩;refine Aq<|Ab<|Rg [0,1,2]<|Vs 3<|XE ?_;have bj:=AC b2 he;exact⟨ht,xF _,(Z.1,Z.2,(W64 (G.2.2 + 1))),F3,h0,h1,h2,bj,bg,hd.t bh,fI,bi⟩
  ·refine Ex<|An<|An<|Ay rfl ?_;have bk:=AF hx he;exact .inl ⟨rfl,(G.1,G.2.1,G.2.2),F1,O,U,Y,bk,h8,hd,fI,h9⟩
 ·rintro f c7 ⟨J,M,h5,h6,h7,rfl,bl,c8,⟨_,rfl⟩,bm⟩;have bn:=A6 hr;refine Ab<|sR (rG 7)<|Vs 3 ?_;obtain⟨h4,bo,bp⟩:=bS bn;refine V 28 9 (GF (t:=9) (x:=.tmp 26) (lo:=some (.tmp 27)) (hi:=none) (a:=I) (il:=J.2.1) (ih:=(I.length:Int)) (v:=h4) rfl (by kernel_rfl) rfl rfl bo)<|Bs 9 [sv h4] bl (fun hh c9 hk=>?_);have bq:Ak AR 9 M (sA hh) 1 [h4] (some hh,.cells (lA [sv h4]) 9 (0,0)):=XY ⟨rfl,rfl⟩ (by simp);obtain⟨br,bs,bt⟩:=bS bp;refine Ap1 Vp hk bm (hk.rd0 bq) bs (fun hl hm ca cb bu hn=>?_);refine Vs 1<|Nt<|Rt ?_;have bv:=XW hn;obtain⟨F4,bw,cc,bx⟩:=bu.fr1 hn;obtain rfl:=Aa bt;exact Re [sL hl br hm] bw ⟨hl,hm,rfl,bv,bx⟩
def Gq(N:Nat)(I:X6):(Int×Int)->Option (Ba Int (Int×Int)):=fun G=>
 (bif(decide (G.2 < (I.length:Int)))then((K4 I G.2).bind fun J=>((EL N J).bind fun M=>some (.next ((bif M then(W64 (G.2 + 1))else G.1),(W64 (G.2 + 1))))))else some (.done (G.1,G.2)))
def HH(N:Nat)(G:X6):Option Int:=
 ((AJ (Gq N G) N (0,0)).bind fun o=>o.k (fun r=>some r) (fun I=>some I.1))
theorem MO(N:Nat)(w0:World)(F0:Mem)(hF:X8 w0 F0)(I:X6)(r:Int)(h:HH N I=some r):
  cA 267 [sv I] w0 F0 (vi r):=by
 have h6:=XK hF;refine Go 18 Tryz.func267<|sR [0]<|Vs 1<|nR [0]<|Vs 1<|Nss<|sR [0]<|Vs 1<|Nt ?_;obtain⟨h1,h7,h8⟩:=bS h;refine XP (fun f w=>∃(J:(Int×Int))(O:_),h1=.done J/\HS w0 F0 w O []/\XI F0 O/\FI f [] [(3,(vi J.1))]) ?_ ?_
 ·refine Bk<|XH (by kernel_rfl) (fun m f w=>∃(G:(Int×Int))(F1:Mem),AJ (Gq N I) m G=some h1/\HS w0 F0 w F1 []/\XI F0 F1/\FI f [] [(0,(sv I)),(3,(vi G.1)),(4,(vi G.2))]) N ⟨(0,0),F0,h7,h6,XJ _,fI⟩ ?_;rintro ht f h9 ⟨G,F1,ha,U,h2,⟨_,rfl⟩⟩;obtain⟨hb,hu,rfl,hc,h3⟩:=AE ha;refine Sq<|sR (rG 4)<|Vs 4<|Nt<|Cd hc (fun hd he=>?_) (fun hd hf=>?_)
  ·refine Sc<|Ab<|Sq<|Bk<|sR (rG 4)<|Vs 2 ?_;obtain⟨h4,hg,hh⟩:=bS he;refine V 13 5 (EU (t:=9) (x:=.tmp 11) (y:=.tmp 12) (a:=I) (k:=.i64) (i:=G.2) (v:=h4) rfl rfl (by kernel_rfl) hg) ?_;obtain⟨Y,hk,hl⟩:=bS hh;refine Cl' (cO 204) U (Hz N h9 F1 U.pers h4 _ hk) ?_;rintro _ Z hv h5 hm rfl;refine Nt<|XP (kP w0 F0 Z [] [] [(0,(sv I)),(3,(vi (bif Y then(W64 (G.2 + 1))else G.1))),(4,(vi G.2))]) ?_ ?_
   ·refine Cp Y (fun h0=>?_) (fun h0=>?_)
    ·refine Rg [0,1,2]<|Vs 3<|XE ?_;exact .inl ⟨rfl,Z,h5,XJ _,fJ ⟨rfl,congrArg (Value.int .i64) (Ia h0 rfl),rfl,trivial⟩⟩
    ·refine Sc ?_;exact .inl ⟨rfl,Z,h5,XJ _,fJ ⟨rfl,congrArg (Value.int .i64) (JK h0 rfl),rfl,trivial⟩⟩
   ·rintro f hw ⟨M,hn,ho,⟨_,rfl⟩⟩;refine Aq<|Ab<|Rg [0,1,2]<|Vs 3<|XE ?_;have hp:=AC hl h3;exact⟨hb,xF _,((bif Y then(W64 (G.2 + 1))else G.1),(W64 (G.2 + 1))),M,hp,hn,(h2.t hm).trans ho,fI⟩
  ·refine Ex<|An<|An<|Ay rfl ?_;have hq:=AF hf h3;exact .inl ⟨rfl,(G.1,G.2),F1,hq,U,h2,fI⟩
 ·rintro f hx ⟨J,O,rfl,hr,hy,⟨_,rfl⟩⟩;have hs:=A6 h8;refine Ab<|sR [0,1]<|Vs 2<|Nt<|Rt ?_;obtain rfl:=Aa hs;exact Re [vi J.1] hr rfl
def EZ(N:Nat)(G:Int):Option Bool:=
 some ((decide (65<=G))&&(decide (G<=90)))
theorem JE(N:Nat)(w0:World)(F0:Mem)(hF:X8 w0 F0)(G:Int)(r:Bool)(h:EZ N G=some r):
  cA 286 [.int .u8 G] w0 F0 (.bool r):=by
 have J:=XK hF;refine Go 9 Tryz.func286<|sR [0]<|Vs 1<|nR (rG 7)<|XO (kP w0 F0 F0 [] [] [(2,(.bool ((decide (65<=G))&&(decide (G<=90)))))]) ?_ ?_
 ·refine Vs 3<|XN (decide (65<=G)) (fun I=>?_) (fun I=>?_)
  ·refine Vgs I 2<|Pk1 I<|Vs 1 ?_;exact XE ⟨rfl,F0,J,XJ _,fJ ⟨congrArg Value.bool (LZ I rfl),trivial⟩⟩
  ·refine Ss I 2<|Pk0 I<|Vs 1 ?_;exact XE ⟨rfl,F0,J,XJ _,fJ ⟨congrArg Value.bool (L0 I rfl),trivial⟩⟩
 ·rintro f h0 ⟨F1,M,h1,⟨_,rfl⟩⟩;refine Ab<|Rt ?_;obtain rfl:=Aa h;exact Re [.bool ((decide (65<=G))&&(decide (G<=90)))] M rfl
def CT(N:Nat)(I:X6):Int->Option (Ba Bool Int):=fun G=>
 (bif(decide (G < (I.length:Int)))then(((K4 I G).bind fun J=>((EZ N J).bind fun M=>bif(!M)then((K4 I G).bind fun O=>((EL N O).bind fun U=>some (!U)))else some false)).bind fun Y=>(bif Y then some (.ret false)else some (.next (W64 (G + 1)))))else some (.done G))
def EK(N:Nat)(G:X6):Option Bool:=
 ((AJ (CT N G) N 0).bind fun o=>o.k (fun r=>some r) (fun h0=>some true))
theorem Hy(N:Nat)(w0:World)(F0:Mem)(hF:X8 w0 F0)(J:X6)(r:Bool)(h:EK N J=some r):
  cA 268 [sv J] w0 F0 (.bool r):=by
 have h8:=XK hF;refine Go 22 Tryz.func268<|sR [0]<|Vs 1<|Nss<|sR [0]<|Vs 1<|Nt ?_;obtain⟨h0,h9,h1⟩:=bS h;refine XP (fun f w=>∃(h2:Int)(O:_),h0=.done h2/\HS w0 F0 w O []/\XI F0 O/\FI f [] []) ?_ ?_
 ·refine Bk<|XH (by kernel_rfl) (fun m f w=>∃(G:Int)(F1:Mem),AJ (CT N J) m G=some h0/\HS w0 F0 w F1 []/\XI F0 F1/\FI f [] [(0,(sv J)),(3,(vi G))]) N ⟨0,F0,h9,h8,XJ _,fI⟩ ?_;rintro b7 f ha ⟨G,F1,hb,U,h3,⟨_,rfl⟩⟩;obtain⟨hc,b8,rfl,hd,Y⟩:=AE hb;refine Sq<|sR (rG 4)<|Vs 4<|Nt<|Cd hd (fun he hf=>?_) (fun he hg=>?_)
  ·refine Sc<|Ab<|Sq<|Bk<|sR (rG 12) ?_;obtain⟨hh,hk,hl⟩:=bS hf;refine XO (kP w0 F0 F1 [] [] [(0,(sv J)),(3,(vi G)),(21,(.bool hh))]) ?_ ?_
   ·refine Vs 2 ?_;obtain⟨h4,hm,hn⟩:=bS hk;refine V 12 5 (EU (t:=9) (x:=.tmp 10) (y:=.tmp 11) (a:=J) (k:=.i64) (i:=G) (v:=h4) rfl rfl (by kernel_rfl) hm) ?_;obtain⟨b9,ho,hp⟩:=bS hn;refine Cl' (cO 286) U (JE N ha F1 U.pers h4 _ ho) ?_;rintro _ F4 hq Z h5 rfl;refine Vs 2<|Sp hp (fun I hr=>?_) (fun I hs=>?_)
    ·refine Vgs I 2 ?_;obtain⟨h6,ht,hu⟩:=bS hr;refine Vg 18 5 5 true 15 I (EU (t:=9) (x:=.tmp 16) (y:=.tmp 17) (a:=J) (k:=.i64) (i:=G) (v:=h6) rfl rfl (by kernel_rfl) ht) ?_;obtain⟨ba,hv,hw⟩:=bS hu;refine Cg I (cO 204) Z (Hz N hq F4 Z.pers h6 _ hv) ?_;rintro _ F5 bb hx hy rfl;refine Vgs I 1<|Pk1 I ?_;obtain rfl:=Aa hw;exact XE ⟨rfl,F5,hx,h5.t hy,fI⟩
    ·refine Ss I 5<|Pk0 I ?_;obtain rfl:=Aa hs;exact XE ⟨rfl,F4,Z,h5,fI⟩
   ·rintro f bc ⟨M,h7,hz,⟨_,rfl⟩⟩;refine Ab<|Cd hl (fun b0 b1=>?_) (fun b0 b2=>?_)
    ·refine sR [0]<|Vs 1<|Nt<|Rt<|Ao<|Ad<|Ad<|Ao ?_;have hret:=Bc b1 Y;subst hret;refine .inr<|Ad ?_;obtain rfl:=Aa h1;exact Re [bF] h7 rfl
    ·refine Sc<|Aq<|Ab<|Rg [0,1,2]<|Vs 3<|XE ?_;have b3:=AC b2 Y;exact⟨hc,xF _,W64 (G + 1),M,b3,h7,h3.t hz,fI⟩
  ·refine Ex<|An<|An<|Ay rfl ?_;have b4:=AF hg Y;exact .inl ⟨rfl,G,F1,b4,U,h3,fI⟩
 ·rintro f bd ⟨h2,O,rfl,b5,be,⟨_,rfl⟩⟩;have b6:=A6 h1;refine Ab<|sR [0]<|Vs 1<|Nt<|Rt ?_;obtain rfl:=Aa b6;exact Re [bT] b5 rfl
def B9(N:Nat)(I:X6):Int->Option (Ba Bool Int):=fun G=>
 (bif(decide (G < (I.length:Int)))then((K4 I G).bind fun J=>((EZ N J).bind fun M=>(bif M then some (.ret true)else some (.next (W64 (G + 1))))))else some (.done G))
def DR(N:Nat)(G:X6):Option Bool:=
 ((AJ (B9 N G) N 0).bind fun o=>o.k (fun r=>some r) (fun h0=>some false))
theorem HZ(N:Nat)(w0:World)(F0:Mem)(hF:X8 w0 F0)(I:X6)(r:Bool)(h:DR N I=some r):
  cA 269 [sv I] w0 F0 (.bool r):=by
 have h3:=XK hF;refine Go 14 Tryz.func269<|sR [0]<|Vs 1<|Nss<|sR [0]<|Vs 1<|Nt ?_;obtain⟨U,h4,Y⟩:=bS h;refine XP (fun f w=>∃(Z:Int)(J:_),U=.done Z/\HS w0 F0 w J []/\XI F0 J/\FI f [] []) ?_ ?_
 ·refine Bk<|XH (by kernel_rfl) (fun m f w=>∃(G:Int)(F1:Mem),AJ (B9 N I) m G=some U/\HS w0 F0 w F1 []/\XI F0 F1/\FI f [] [(0,(sv I)),(3,(vi G))]) N ⟨0,F0,h4,h3,XJ _,fI⟩ ?_;rintro hq f h5 ⟨G,F1,h6,M,h0,⟨_,rfl⟩⟩;obtain⟨h7,hr,rfl,h8,O⟩:=AE h6;refine Sq<|sR (rG 4)<|Vs 4<|Nt<|Cd h8 (fun h9 ha=>?_) (fun h9 hb=>?_)
  ·refine Sc<|Ab<|Sq<|Bk<|sR (rG 4)<|Vs 2 ?_;obtain⟨h1,hc,hd⟩:=bS ha;refine V 12 5 (EU (t:=9) (x:=.tmp 10) (y:=.tmp 11) (a:=I) (k:=.i64) (i:=G) (v:=h1) rfl rfl (by kernel_rfl) hc) ?_;obtain⟨hs,he,hf⟩:=bS hd;refine Cl' (cO 286) M (JE N h5 F1 M.pers h1 _ he) ?_;rintro _ F3 ht h2 hg rfl;refine Nt<|Cd hf (fun hh hk=>?_) (fun hh hl=>?_)
   ·refine sR [0]<|Vs 1<|Nt<|Rt<|Ao<|Ad<|Ad<|Ao ?_;have hret:=Bc hk O;subst hret;refine .inr<|Ad ?_;obtain rfl:=Aa Y;exact Re [bT] h2 rfl
   ·refine Sc<|Aq<|Ab<|Rg [0,1,2]<|Vs 3<|XE ?_;have hm:=AC hl O;exact⟨h7,xF _,W64 (G + 1),F3,hm,h2,h0.t hg,fI⟩
  ·refine Ex<|An<|An<|Ay rfl ?_;have hn:=AF hb O;exact .inl ⟨rfl,G,F1,hn,M,h0,fI⟩
 ·rintro f hu ⟨Z,J,rfl,ho,hv,⟨_,rfl⟩⟩;have hp:=A6 Y;refine Ab<|sR [0]<|Vs 1<|Nt<|Rt ?_;obtain rfl:=Aa hp;exact Re [bF] ho rfl
def EC(N:Nat)(G:X6):Option Bool:=
 ((HH N G).bind fun I=>(((EK N G).bind fun J=>(bif J then((Db N I 1 4).bind fun M=>(bif M then((K1 G 0 I).bind fun O=>((DR N O).bind fun U=>(bif U then((Db N (W64 ((G.length:Int) - I)) 1 4).bind fun Y=>some Y)else some false)))else some false))else some false)).bind fun Z=>some Z))
theorem Gt(N:Nat)(w0:World)(F0:Mem)(hF:X8 w0 F0)(I:X6)(r:Bool)(h:EC N I=some r):
  cA 230 [sv I] w0 F0 (.bool r):=by
 have h3:=XK hF;refine Go 25 Tryz.func230<|sR [0]<|Vs 1<|nR [0,1,2]<|Vs 1 ?_;obtain⟨U,h8,h9⟩:=bS h;refine Cl' (cO 267) h3 (MO N w0 F0 h3.pers I _ h8) ?_;rintro _ F1 ha h4 b1 rfl;refine Vs 1<|nR (rG 20) ?_;obtain⟨h5,hb,hc⟩:=bS h9;refine XO (kP w0 F0 F1 [] [] [(2,(.bool h5))]) ?_ ?_
 ·refine Vs 1 ?_;obtain⟨b2,hd,he⟩:=bS hb;refine Cl' (cO 268) h4 (Hy N ha F1 h4.pers I _ hd) ?_;rintro _ F3 hf Z O rfl;refine Vs 1<|Sp he (fun J hg=>?_) (fun J hh=>?_)
  ·refine Vgs J 1 ?_;obtain⟨b3,hk,hl⟩:=bS hg;refine Cg J (cO 150) Z (DX N hf F3 Z.pers U 1 4 _ hk) ?_;rintro _ F4 hm h0 h1 rfl;refine Pk1 J<|Vs 1<|Sp hl (fun G hn=>?_) (fun G ho=>?_)
   ·refine Vgs G 2 ?_;obtain⟨h6,hp,hq⟩:=bS hn;refine Vg 15 9 6 true 12 G (GF (t:=9) (x:=.tmp 13) (lo:=none) (hi:=some (.tmp 14)) (a:=I) (il:=0) (ih:=U) (v:=h6) rfl (by kernel_rfl) rfl rfl hp) ?_;obtain⟨b4,hr,hs⟩:=bS hq;refine Cg G (cO 269) h0 (HZ N hm F4 h0.pers h6 _ hr) ?_;rintro _ F5 ht h2 h7 rfl;refine Pk1 G<|Vs 1<|Sp hs (fun M hu=>?_) (fun M hv=>?_)
    ·refine Vgs M 4 ?_;obtain⟨b5,hw,hx⟩:=bS hu;refine Cg M (cO 150) h2 (DX N ht F5 h2.pers (W64 ((I.length:Int) - U)) 1 4 _ hw) ?_;rintro _ F6 b6 hy hz rfl;refine Pk1 M<|Vs 1 ?_;obtain rfl:=Aa hx;exact XE ⟨rfl,F6,hy,((O.t h1).trans h7).trans hz,fI⟩
    ·refine Ss M 5<|Pk0 M<|Vs 1 ?_;obtain rfl:=Aa hv;exact XE ⟨rfl,F5,h2,(O.t h1).trans h7,fI⟩
   ·refine Ss G 4<|Pk0 G<|Vs 1<|Ss rF 5<|Pk0 rF<|Vs 1 ?_;obtain rfl:=Aa ho;exact XE ⟨rfl,F4,h0,O.t h1,fI⟩
  ·refine Ss J 2<|Pk0 J<|Vs 1<|Ss rF 4<|Pk0 rF<|Vs 1<|Ss rF 5<|Pk0 rF<|Vs 1 ?_;obtain rfl:=Aa hh;exact XE ⟨rfl,F3,Z,O,fI⟩
 ·rintro f b7 ⟨Y,b0,b8,⟨_,rfl⟩⟩;refine Ab<|Rt ?_;obtain rfl:=Aa hc;exact Re [.bool h5] b0 rfl
def GG(N:Nat)(G:X6):Option Bool:=
 (((EK N G).bind fun I=>(bif I then((Db N (G.length:Int) 1 4).bind fun J=>(bif J then((DR N G).bind fun M=>some M)else some false))else some false)).bind fun O=>some O)
theorem LO(N:Nat)(w0:World)(F0:Mem)(hF:X8 w0 F0)(J:X6)(r:Bool)(h:GG N J=some r):
  cA 231 [sv J] w0 F0 (.bool r):=by
 have Y:=XK hF;refine Go 14 Tryz.func231<|sR [0]<|Vs 1<|nR (rG 12) ?_;obtain⟨Z,h1,h2⟩:=bS h;refine XO (kP w0 F0 F0 [] [] [(2,(.bool Z))]) ?_ ?_
 ·refine Vs 1 ?_;obtain⟨hk,h3,h4⟩:=bS h1;refine Cl' (cO 268) Y (Hy N w0 F0 Y.pers J _ h3) ?_;rintro _ F2 h5 M O rfl;refine Vs 1<|Sp h4 (fun G h6=>?_) (fun G h7=>?_)
  ·refine Vgs G 2 ?_;obtain⟨hl,h8,h9⟩:=bS h6;refine Cg G (cO 150) M (DX N h5 F2 M.pers (J.length:Int) 1 4 _ h8) ?_;rintro _ F3 ha U h0 rfl;refine Pk1 G<|Vs 1<|Sp h9 (fun I hb=>?_) (fun I hc=>?_)
   ·refine Vgs I 1 ?_;obtain⟨hm,hd,he⟩:=bS hb;refine Cg I (cO 269) U (HZ N ha F3 U.pers J _ hd) ?_;rintro _ F4 hn hf hg rfl;refine Pk1 I<|Vs 1 ?_;obtain rfl:=Aa he;exact XE ⟨rfl,F4,hf,(O.t h0).trans hg,fI⟩
   ·refine Ss I 2<|Pk0 I<|Vs 1 ?_;obtain rfl:=Aa hc;exact XE ⟨rfl,F3,U,O.t h0,fI⟩
  ·refine Ss G 3<|Pk0 G<|Vs 1<|Ss rF 2<|Pk0 rF<|Vs 1 ?_;obtain rfl:=Aa h7;exact XE ⟨rfl,F2,M,O,fI⟩
 ·rintro f ho ⟨F1,hh,hp,⟨_,rfl⟩⟩;refine Ab<|Rt ?_;obtain rfl:=Aa h2;exact Re [.bool Z] hh rfl
def EY(N:Nat)(G:X6):Option Bool:=
 ((bif((G.length:Int)==1)then((K4 G 0).bind fun I=>((EL N I).bind fun J=>some J))else some false).bind fun M=>(bif M then some true else(((EK N G).bind fun O=>(bif O then((Db N (G.length:Int) 1 4).bind fun U=>(bif U then((HH N G).bind fun Y=>some (Y==0))else some false))else some false)).bind fun Z=>some Z)))
theorem JD(N:Nat)(w0:World)(F0:Mem)(hF:X8 w0 F0)(G:X6)(r:Bool)(h:EY N G=some r):
  cA 232 [sv G] w0 F0 (.bool r):=by
 have O:=XK hF;refine Go 23 Tryz.func232<|sR [0]<|Vs 1<|Nss<|sR (rG 8) ?_;obtain⟨h5,h6,h7⟩:=bS h;refine XO (kP w0 F0 F0 [] [] [(0,(sv G)),(10,(.bool h5))]) ?_ ?_
 ·refine Vs 4<|Sp h6 (fun I h8=>?_) (fun I h9=>?_)
  ·refine Vgs I 1 ?_;obtain⟨h2,ha,hb⟩:=bS h8;refine Vg 8 5 3 true 6 I (EU (t:=9) (x:=.tmp 7) (y:=.const (vi 0)) (a:=G) (k:=.i64) (i:=0) (v:=h2) rfl rfl (by kernel_rfl) ha) ?_;obtain⟨b3,hc,hd⟩:=bS hb;refine Cg I (cO 204) O (Hz N w0 F0 O.pers h2 _ hc) ?_;rintro _ F2 b4 he hf rfl;refine Pk1 I ?_;obtain rfl:=Aa hd;exact XE ⟨rfl,F2,he,hf,fI⟩
  ·refine Ss I 3<|Pk0 I ?_;obtain rfl:=Aa h9;exact XE ⟨rfl,F0,O,XJ _,fI⟩
 ·rintro f hg ⟨F1,U,b5,⟨_,rfl⟩⟩;refine Ab<|Cd h7 (fun hh hk=>?_) (fun hh hl=>?_)
  ·refine sR [0]<|Vs 1<|Nt<|Rt<|Ad ?_;obtain rfl:=Aa hk;exact Re [bT] U rfl
  ·refine Sc<|Ab<|sR (rG 13) ?_;obtain⟨h3,hm,hn⟩:=bS hl;refine XO (kP w0 F0 F1 [] [] [(2,(.bool h3))]) ?_ ?_
   ·refine Vs 1 ?_;obtain⟨b6,ho,hp⟩:=bS hm;refine Cl' (cO 268) U (Hy N hg F1 U.pers G _ ho) ?_;rintro _ F4 hq Z h0 rfl;refine Vs 1<|Sp hp (fun M hr=>?_) (fun M hs=>?_)
    ·refine Vgs M 2 ?_;obtain⟨b7,ht,hu⟩:=bS hr;refine Cg M (cO 150) Z (DX N hq F4 Z.pers (G.length:Int) 1 4 _ ht) ?_;rintro _ F5 hv h1 h4 rfl;refine Pk1 M<|Vs 1<|Sp hu (fun J hw=>?_) (fun J hx=>?_)
     ·refine Vgs J 1 ?_;obtain⟨b8,hy,hz⟩:=bS hw;refine Cg J (cO 267) h1 (MO N hv F5 h1.pers G _ hy) ?_;rintro _ F6 b9 b0 b1 rfl;refine Vgs J 1<|Pk1 J<|Vs 1 ?_;obtain rfl:=Aa hz;exact XE ⟨rfl,F6,b0,(h0.t h4).trans b1,fI⟩
     ·refine Ss J 3<|Pk0 J<|Vs 1 ?_;obtain rfl:=Aa hx;exact XE ⟨rfl,F5,h1,h0.t h4,fI⟩
    ·refine Ss M 3<|Pk0 M<|Vs 1<|Ss rF 3<|Pk0 rF<|Vs 1 ?_;obtain rfl:=Aa hs;exact XE ⟨rfl,F4,Z,h0,fI⟩
   ·rintro f ba ⟨Y,b2,bb,⟨_,rfl⟩⟩;refine Ab<|Rt ?_;obtain rfl:=Aa hn;exact Re [.bool h3] b2 rfl
def G3(N:Nat)(J:X6):Option (X6×X6×X6×Bool):=
 (bif(decide ((J.length:Int) > 16))then some (([]:X6),([]:X6),([]:X6),false)else((Gp N J).bind fun G=>((bif((G.length:Int)==1)then((idx G 0).bind fun U=>((EC N U).bind fun Y=>some Y))else some false).bind fun Z=>(bif Z then(((idx G 0).bind fun h0=>some h0).bind fun h1=>some (([]:X6),h1,([]:X6),true))else((bif((G.length:Int)==2)then((idx G 0).bind fun h2=>((GG N h2).bind fun h3=>(bif h3 then((idx G 1).bind fun h4=>((EC N h4).bind fun h5=>(bif h5 then((idx G 0).bind fun h6=>((idx G 1).bind fun h7=>some (decide ((h6.length:Int) < (h7.length:Int)))))else some false)))else some false)))else some false).bind fun h8=>(bif h8 then(((idx G 0).bind fun h9=>((idx G 1).bind fun ha=>some (h9,ha))).bind fun M=>some (M.1,M.2,([]:X6),true))else((bif((G.length:Int)==2)then((idx G 0).bind fun hb=>((EC N hb).bind fun hc=>(bif hc then((idx G 1).bind fun hd=>((EY N hd).bind fun he=>some he))else some false)))else some false).bind fun hf=>(bif hf then(((idx G 0).bind fun hg=>((idx G 1).bind fun hh=>some (hg,hh))).bind fun O=>some (([]:X6),O.1,O.2,true))else((bif((G.length:Int)==3)then((idx G 0).bind fun hk=>((GG N hk).bind fun hl=>(bif hl then((idx G 1).bind fun hm=>((EC N hm).bind fun hn=>(bif hn then((idx G 2).bind fun ho=>((EY N ho).bind fun hp=>some hp))else some false)))else some false)))else some false).bind fun hq=>(bif hq then(((idx G 0).bind fun hr=>((idx G 1).bind fun hs=>((idx G 2).bind fun ht=>some (hr,hs,ht)))).bind fun I=>some (I.1,I.2.1,I.2.2,true))else some (([]:X6),([]:X6),([]:X6),false)))))))))))
theorem O3(N:Nat)(w0:World)(F0:Mem)(hF:X8 w0 F0)(x0:X6)(r:(X6×X6×X6×Bool))(h:G3 N x0=some r):
  cA 185 [sv x0] w0 F0 (.tuple #[sv r.1,sv r.2.1,sv r.2.2.1,.bool r.2.2.2]):=by
 have hp:=XK hF;refine Go 107 Tryz.func185<|sR (rG 4)<|Vs 4<|Nss<|sR [0,1,2]<|Vs 3<|Nt<|Cd h (fun b9 ba=>?_) (fun b9 bb=>?_)
 ·refine sR (rG 4)<|Vs 4<|Nt<|Rt<|Ad ?_;obtain rfl:=Aa ba;exact Re [sE,sE,sE,bF] hp rfl
 ·refine Sc<|Ab<|sR [0,1,2]<|Vs 1 ?_;obtain⟨M,bc,bd⟩:=bS bb;refine Cl' (cO 229) hp (OC N w0 F0 hp.pers x0 _ bc) ?_;rintro _ F1 be hh iw ⟨hb,O,rfl,iy,U⟩;refine Vs 1<|Nss<|sR (rG 9) ?_;obtain⟨bf,bg,bh⟩:=bS bd;refine XO (kP w0 F0 F1 [] [] [(6,(sL hb M O)),(20,(.bool bf))]) ?_ ?_
  ·refine Vs 4<|Sp bg (fun Z bi=>?_) (fun Z bj=>?_)
   ·refine Vgs Z 1 ?_;obtain⟨bk,bl,bm⟩:=bS bi;obtain⟨bn,hx45'⟩:=Af bl;obtain⟨iz,j0,j1,j2,j3,rfl,hF54,hE55⟩:=XQ U hx45';have bo:=hE55 _ _ hx45';refine Ixg Z bn<|Lxg Z 0 (hh.pers _ _ hF54) bo ?_;obtain⟨j4,bp,bq⟩:=bS bm;refine Cg Z (cO 230) hh (Gt N be F1 hh.pers bk _ bp) ?_;rintro _ F3 j5 br bs rfl;refine Pk1 Z ?_;obtain rfl:=Aa bq;exact XE ⟨rfl,F3,br,bs,fI⟩
   ·refine Ss Z 4<|Pk0 Z ?_;obtain rfl:=Aa bj;exact XE ⟨rfl,F1,hh,XJ _,fI⟩
  ·rintro f j6 ⟨Y,b1,h7,⟨_,rfl⟩⟩;refine Ab<|Cd bh (fun bt bu=>?_) (fun bt bv=>?_)
   ·refine Sq ?_;obtain⟨b2,bw,bx⟩:=bS bu;refine RD 7 7 [] [] b1 (kP w0 F0 Y [] [] [(2,sE),(3,(sv b2)),(4,sE),(5,bT)]) (fun j7 bz=>?_) ?_
    ·refine Dv [0] ?_;obtain⟨j8,c0,c1⟩:=bS bw;obtain⟨c3,hx83'⟩:=Af c0;obtain⟨j9,ja,jb,jc,jd,rfl,hF92,hE93⟩:=XQ (XL U h7) hx83';have c4:=hE93 _ _ hx83';refine Di 1 c3<|Dx 2 0 (fun _ hq=>hq.1.1 _ _ hF92) c4<|Dv [3,4,5,6] ?_;obtain rfl:=Aa c1;exact XV (by kernel_rfl) ⟨Y,bz,XJ _,fI⟩
    ·rintro f je ⟨F4,c5,jf,⟨_,rfl⟩⟩;refine Ab<|Rt<|Ad ?_;obtain rfl:=Aa bx;exact Re [sE,sv b2,sE,bT] c5 rfl
   ·refine Sc<|Ab<|Sq<|Sq ?_;obtain⟨c6,c7,c8⟩:=bS bv;refine RD 26 26 [] [] b1 (kP w0 F0 Y [] [] [(6,(sL hb M O)),(49,(.bool c6))]) (fun c9 hr=>?_) ?_
    ·refine Dvl [0,1,2,3] (tf 4 22)<|Sd c7 (fun h0 ca=>?_) (fun h0 cb=>?_)
     ·refine Dgl 4 28 55 _ (tf 5 21) 3 true 27 h0 (fun _ hq=>mv 6 (sL hb M O)) ?_;obtain⟨hs,cc,cd⟩:=bS ca;obtain⟨ce,hx111'⟩:=Af cc;obtain⟨I,J,jg,jh,ji,rfl,hF120,hE121⟩:=XQ (XL U h7) hx111';have cf:=hE121 _ _ hx111';refine Dgl 5 29 0 (.pointer (some ⟨I,J + (0:Int).toNat * 1,none⟩)) (tf 6 20) 3 true 27 h0 (fun _ hq=>BN (t:=55) (x:=.tmp 28) (y:=.const (vi 0)) (b:=I) (o:=J) (E:=9) (s:=1) (by_:=16) rfl rfl (by kernel_rfl) ce)<|Dgl 6 30 9 _ (tf 7 19) 3 true 27 h0 (fun _ hq=>lx 9 29 0 1 false 1 (sv hs) (hq.1.1 _ _ hF120) cf)<|D1 7 ?_;obtain⟨cg,ch,ci⟩:=bS cd;refine XU (l':=[tt,tt,tt,tt,tt,tt,tt,tt,ff,ff,ff,ff,ff,ff,ff,ff,ff,ff,ff,ff,ff,ff,ff,ff,ff,ff]) (zd:=true) (by kernel_rfl) (by kernel_rfl) (by kernel_rfl) (dst:=some 31) (ty:=4) (g:=some (3,true)) (by kernel_rfl) (Hp (d:=27) (by kernel_rfl) rfl h0) (f0:=.func 231) (aos:=#[.tmp 30]) (ats:=#[9]) (fid:=231) (first:=#[]) (cap:=#[]) (args:=[sv hs]) rfl (cO 231) rfl hr (LO N c9 Y hr.pers hs _ ch) ?_;rintro _ F6 cj ht hu rfl;refine Dtl 8 32 4 _ (tf 9 17) (fun _ hq=>p1 27 (.tmp 31) (.const bF) (.bool cg) h0)<|Dvl [9] (tf 10 16)<|Sd ci (fun h1 cl=>?_) (fun h1 cm=>?_)
      ·refine Dgl 10 34 55 _ (tf 11 15) 9 true 33 h1 (fun _ hq=>mv 6 (sS I J M O)) ?_;obtain⟨hv,cn,co⟩:=bS cl;obtain⟨cp,hx136'⟩:=Af cn;have cq:=hE121 _ _ hx136';refine Dgl 11 35 0 (.pointer (some ⟨I,J + (1:Int).toNat * 1,none⟩)) (tf 12 14) 9 true 33 h1 (fun _ hq=>BN (t:=55) (x:=.tmp 34) (y:=.const (vi 1)) (b:=I) (o:=J) (E:=9) (s:=1) (by_:=16) rfl rfl (by kernel_rfl) cp)<|Dgl 12 36 9 _ (tf 13 13) 9 true 33 h1 (fun _ hq=>lx 9 35 0 1 false 1 (sv hv) (hq.1.1 _ _ hF120) cq)<|D1 13 ?_;obtain⟨cr,ct,cu⟩:=bS co;refine XU (l':=[tt,tt,tt,tt,tt,tt,tt,tt,tt,tt,tt,tt,tt,tt,ff,ff,ff,ff,ff,ff,ff,ff,ff,ff,ff,ff]) (zd:=true) (by kernel_rfl) (by kernel_rfl) (by kernel_rfl) (dst:=some 37) (ty:=4) (g:=some (9,true)) (by kernel_rfl) (Hp (d:=33) (by kernel_rfl) rfl h1) (f0:=.func 230) (aos:=#[.tmp 36]) (ats:=#[9]) (fid:=230) (first:=#[]) (cap:=#[]) (args:=[sv hv]) rfl (cO 230) rfl ht (Gt N cj F6 ht.pers hv _ ct) ?_;rintro _ F7 jj b3 b4 rfl;refine Dtl 14 38 4 _ (tf 15 11) (fun _ hq=>p1 33 (.tmp 37) (.const bF) (.bool cr) h1)<|Dvl [15] (tf 16 10)<|Sd cu (fun G cv=>?_) (fun G cw=>?_)
       ·refine Dgl 16 40 55 _ (tf 17 9) 15 true 39 G (fun _ hq=>mv 6 (sS I J M O)) ?_;obtain⟨h8,cx,cy⟩:=bS cv;obtain⟨cz,hx153'⟩:=Af cx;have d0:=hE121 _ _ hx153';refine Dgl 17 41 0 (.pointer (some ⟨I,J + (0:Int).toNat * 1,none⟩)) (tf 18 8) 15 true 39 G (fun _ hq=>BN (t:=55) (x:=.tmp 40) (y:=.const (vi 0)) (b:=I) (o:=J) (E:=9) (s:=1) (by_:=16) rfl rfl (by kernel_rfl) cz)<|Dgl 18 42 9 _ (tf 19 7) 15 true 39 G (fun _ hq=>lx 9 41 0 1 false 1 (sv h8) (hq.1.1 _ _ hF120) d0)<|Dgl 19 43 3 (vi (h8.length:Int)) (tf 20 6) 15 true 39 G (fun _ hq=>I7 (x:=.tmp 42) (ats:=#[9]) (t:=9) (a:=h8) rfl rfl (by kernel_rfl))<|Dgl 20 44 55 _ (tf 21 5) 15 true 39 G (fun _ hq=>mv 6 (sS I J M O)) ?_;obtain⟨h9,d1,d2⟩:=bS cy;obtain⟨d3,hx159'⟩:=Af d1;have d4:=hE121 _ _ hx159';refine Dgl 21 45 0 (.pointer (some ⟨I,J + (1:Int).toNat * 1,none⟩)) (tf 22 4) 15 true 39 G (fun _ hq=>BN (t:=55) (x:=.tmp 44) (y:=.const (vi 1)) (b:=I) (o:=J) (E:=9) (s:=1) (by_:=16) rfl rfl (by kernel_rfl) d3)<|Dgl 22 46 9 _ (tf 23 3) 15 true 39 G (fun _ hq=>lx 9 45 0 1 false 1 (sv h9) (hq.1.1 _ _ hF120) d4)<|Dgl 23 47 3 (vi (h9.length:Int)) (tf 24 2) 15 true 39 G (fun _ hq=>I7 (x:=.tmp 46) (ats:=#[9]) (t:=9) (a:=h9) rfl rfl (by kernel_rfl))<|Dgl 24 48 4 (.bool (decide ((h8.length:Int) < (h9.length:Int)))) (tf 25 1) 15 true 39 G (fun _ hq=>DF (t:=3) (t':=3) (x:=.tmp 43) (y:=.tmp 47) (k:=.i64) (a:=(h8.length:Int)) (b:=(h9.length:Int)) rfl rfl)<|Dtl 25 49 4 _ (tf 26 0) (fun _ hq=>p1 39 (.tmp 48) (.const bF) (.bool (decide ((h8.length:Int) < (h9.length:Int)))) G) ?_;obtain rfl:=Aa d2;exact XV (by kernel_rfl) ⟨F7,b3,hu.t b4,fI⟩
       ·refine Dkl [(16,40),(17,41),(18,42),(19,43),(20,44),(21,45)] 15 true 39 G (tf 22 4)<|Dkl [(22,46),(23,47),(24,48)] 15 true 39 G (tf 25 1)<|Dtl 25 49 4 _ (tf 26 0) (fun _ hq=>p0 39 (.tmp 48) (.const bF) bF G) ?_;obtain rfl:=Aa cw;exact XV (by kernel_rfl) ⟨F7,b3,hu.t b4,fI⟩
      ·refine Dkl [(10,34),(11,35),(12,36),(13,37)] 9 true 33 h1 (tf 14 12)<|Dtl 14 38 4 _ (tf 15 11) (fun _ hq=>p0 33 (.tmp 37) (.const bF) bF h1)<|Dvl [15] (tf 16 10)<|Dkl [(16,40),(17,41),(18,42),(19,43),(20,44),(21,45)] 15 true 39 rfl (tf 22 4)<|Dkl [(22,46),(23,47),(24,48)] 15 true 39 rfl (tf 25 1)<|Dtl 25 49 4 _ (tf 26 0) (fun _ hq=>p0 39 (.tmp 48) (.const bF) bF rfl) ?_;obtain rfl:=Aa cm;exact XV (by kernel_rfl) ⟨F6,ht,hu,fI⟩
     ·refine Dkl [(4,28),(5,29),(6,30),(7,31)] 3 true 27 h0 (tf 8 18)<|Dtl 8 32 4 _ (tf 9 17) (fun _ hq=>p0 27 (.tmp 31) (.const bF) bF h0)<|Dvl [9] (tf 10 16)<|Dkl [(10,34),(11,35),(12,36),(13,37)] 9 true 33 rfl (tf 14 12)<|Dtl 14 38 4 _ (tf 15 11) (fun _ hq=>p0 33 (.tmp 37) (.const bF) bF rfl)<|Dvl [15] (tf 16 10)<|Dkl [(16,40),(17,41),(18,42),(19,43),(20,44),(21,45)] 15 true 39 rfl (tf 22 4)<|Dkl [(22,46),(23,47),(24,48)] 15 true 39 rfl (tf 25 1)<|Dtl 25 49 4 _ (tf 26 0) (fun _ hq=>p0 39 (.tmp 48) (.const bF) bF rfl) ?_;obtain rfl:=Aa cb;exact XV (by kernel_rfl) ⟨Y,hr,XJ _,fI⟩
    ·rintro f d6 ⟨F5,hc,hd,⟨_,rfl⟩⟩;refine Ab<|Cd c8 (fun d7 d8=>?_) (fun d7 d9=>?_)
     ·refine Sq ?_;obtain⟨hk,da,db⟩:=bS d8;refine RD 10 10 [] [] hc (kP w0 F0 F5 [] [] [(2,(sv hk.1)),(3,(sv hk.2)),(4,sE),(5,bT)]) (fun jk dc=>?_) ?_
      ·refine Dv [0] ?_;obtain⟨jl,dd,de⟩:=bS da;obtain⟨df,hx181'⟩:=Af dd;obtain⟨jm,jo,jp,jq,jr,rfl,hF190,hE191⟩:=XQ (XL U (h7.t hd)) hx181';have dg:=hE191 _ _ hx181';refine Di 1 df<|Dx 2 0 (fun _ hq=>hq.1.1 _ _ hF190) dg<|Dv [3] ?_;obtain⟨js,dh,di⟩:=bS de;obtain⟨dj,hx195'⟩:=Af dh;have dk:=hE191 _ _ hx195';refine Di 4 dj<|Dx 5 0 (fun _ hq=>hq.1.1 _ _ hF190) dk<|Dv [6,7,8,9] ?_;obtain rfl:=Aa di;exact XV (by kernel_rfl) ⟨F5,dc,XJ _,fI⟩
      ·rintro f jt ⟨F8,dl,ju,⟨_,rfl⟩⟩;refine Ab<|Rt<|Ad ?_;obtain rfl:=Aa db;exact Re [sv hk.1,sv hk.2,sE,bT] dl rfl
     ·refine Sc<|Ab<|Sq<|sR (rG 15) ?_;obtain⟨dm,dn,dp⟩:=bS d9;refine XO (kP w0 F0 F5 [] [] [(6,(sL hb M O)),(70,(.bool dm))]) ?_ ?_
      ·refine Vs 4<|Sp dn (fun h2 dq=>?_) (fun h2 dr=>?_)
       ·refine Vgs h2 1 ?_;obtain⟨dt,du,dv⟩:=bS dq;obtain⟨dw,hx213'⟩:=Af du;obtain⟨jv,jw,jx,jy,jz,rfl,hF222,hE223⟩:=XQ (XL U (h7.t hd)) hx213';have dx:=hE223 _ _ hx213';refine Ixg h2 dw<|Lxg h2 0 (hc.pers _ _ hF222) dx ?_;obtain⟨k0,dy,dz⟩:=bS dv;refine Cg h2 (cO 230) hc (Gt N d6 F5 hc.pers dt _ dy) ?_;rintro _ b5 e0 hl hw rfl;refine Pk1 h2<|Vs 1<|Sp dz (fun h3 e1=>?_) (fun h3 e2=>?_)
        ·refine Vgs h3 1 ?_;obtain⟨e3,e4,e6⟩:=bS e1;obtain⟨e7,hx238'⟩:=Af e4;have e8:=hE223 _ _ hx238';refine Ixg h3 e7<|Lxg h3 0 (hl.pers _ _ (hw _ _ hF222)) e8 ?_;obtain⟨k1,e9,ea⟩:=bS e6;refine Cg h3 (cO 232) hl (JD N e0 b5 hl.pers e3 _ e9) ?_;rintro _ eb k2 ec ed rfl;refine Pk1 h3 ?_;obtain rfl:=Aa ea;exact XE ⟨rfl,eb,ec,hw.t ed,fI⟩
        ·refine Ss h3 4<|Pk0 h3 ?_;obtain rfl:=Aa e2;exact XE ⟨rfl,b5,hl,hw,fI⟩
       ·refine Ss h2 4<|Pk0 h2<|Vs 1<|Ss rF 4<|Pk0 rF ?_;obtain rfl:=Aa dr;exact XE ⟨rfl,F5,hc,XJ _,fI⟩
      ·rintro f ee ⟨F9,he,hx,⟨_,rfl⟩⟩;refine Ab<|Cd dp (fun ef eg=>?_) (fun ef eh=>?_)
       ·refine Sq ?_;obtain⟨hm,ei,ej⟩:=bS eg;refine RD 10 10 [] [] he (kP w0 F0 F9 [] [] [(2,sE),(3,(sv hm.1)),(4,(sv hm.2)),(5,bT)]) (fun k3 ek=>?_) ?_
        ·refine Dv [0] ?_;obtain⟨k4,el,en⟩:=bS ei;obtain⟨eo,hx268'⟩:=Af el;obtain⟨k5,k6,k7,k8,k9,rfl,hF277,hE278⟩:=XQ (XL U ((h7.t hd).trans hx)) hx268';have ep:=hE278 _ _ hx268';refine Di 1 eo<|Dx 2 0 (fun _ hq=>hq.1.1 _ _ hF277) ep<|Dv [3] ?_;obtain⟨ka,er,et⟩:=bS en;obtain⟨eu,hx282'⟩:=Af er;have ev:=hE278 _ _ hx282';refine Di 4 eu<|Dx 5 0 (fun _ hq=>hq.1.1 _ _ hF277) ev<|Dv [6,7,8,9] ?_;obtain rfl:=Aa et;exact XV (by kernel_rfl) ⟨F9,ek,XJ _,fI⟩
        ·rintro f kb ⟨hy,ew,kc,⟨_,rfl⟩⟩;refine Ab<|Rt<|Ad ?_;obtain rfl:=Aa ej;exact Re [sE,sv hm.1,sv hm.2,bT] ew rfl
       ·refine Sc<|Ab<|Sq<|sR (rG 21) ?_;obtain⟨ex,ey,ez⟩:=bS eh;refine XO (kP w0 F0 F9 [] [] [(6,(sL hb M O)),(97,(.bool ex))]) ?_ ?_
        ·refine Vs 4<|Sp ey (fun h4 g0=>?_) (fun h4 g1=>?_)
         ·refine Vgs h4 1 ?_;obtain⟨g2,g3,g4⟩:=bS g0;obtain⟨g5,hx300'⟩:=Af g3;obtain⟨kd,ke,kf,kg,kh,rfl,hF309,hE310⟩:=XQ (XL U ((h7.t hd).trans hx)) hx300';have g6:=hE310 _ _ hx300';refine Ixg h4 g5<|Lxg h4 0 (he.pers _ _ hF309) g6 ?_;obtain⟨ki,g7,g8⟩:=bS g4;refine Cg h4 (cO 231) he (LO N ee F9 he.pers g2 _ g7) ?_;rintro _ b6 g9 hn hg rfl;refine Pk1 h4<|Vs 1<|Sp g8 (fun h5 ga=>?_) (fun h5 gh=>?_)
          ·refine Vgs h5 1 ?_;obtain⟨gi,gk,gl⟩:=bS ga;obtain⟨gm,hx325'⟩:=Af gk;have gn:=hE310 _ _ hx325';refine Ixg h5 gm<|Lxg h5 0 (hn.pers _ _ (hg _ _ hF309)) gn ?_;obtain⟨kj,go,gp⟩:=bS gl;refine Cg h5 (cO 230) hn (Gt N g9 b6 hn.pers gi _ go) ?_;rintro _ b7 gr ho hz rfl;refine Pk1 h5<|Vs 1<|Sp gp (fun h6 gs=>?_) (fun h6 gu=>?_)
           ·refine Vgs h6 1 ?_;obtain⟨gv,gw,gx⟩:=bS gs;obtain⟨gy,hx342'⟩:=Af gw;have gz:=hE310 _ _ hx342';refine Ixg h6 gy<|Lxg h6 0 (ho.pers _ _ ((hg.t hz) _ _ hF309)) gz ?_;obtain⟨kl,i0,i1⟩:=bS gx;refine Cg h6 (cO 232) ho (JD N gr b7 ho.pers gv _ i0) ?_;rintro _ i2 km i3 i4 rfl;refine Pk1 h6 ?_;obtain rfl:=Aa i1;exact XE ⟨rfl,i2,i3,(hg.t hz).trans i4,fI⟩
           ·refine Ss h6 4<|Pk0 h6 ?_;obtain rfl:=Aa gu;exact XE ⟨rfl,b7,ho,hg.t hz,fI⟩
          ·refine Ss h5 4<|Pk0 h5<|Vs 1<|Ss rF 4<|Pk0 rF ?_;obtain rfl:=Aa gh;exact XE ⟨rfl,b6,hn,hg,fI⟩
         ·refine Ss h4 4<|Pk0 h4<|Vs 1<|Ss rF 4<|Pk0 rF<|Vs 1<|Ss rF 4<|Pk0 rF ?_;obtain rfl:=Aa g1;exact XE ⟨rfl,F9,he,XJ _,fI⟩
        ·rintro f kn ⟨hf,b8,i5,⟨_,rfl⟩⟩;refine Ab<|Cd ez (fun i6 i7=>?_) (fun i6 i8=>?_)
         ·refine Sq ?_;obtain⟨ha,i9,ia⟩:=bS i7;refine RD 13 13 [] [] b8 (kP w0 F0 hf [] [] [(2,(sv ha.1)),(3,(sv ha.2.1)),(4,(sv ha.2.2)),(5,bT)]) (fun ko ib=>?_) ?_
          ·refine Dv [0] ?_;obtain⟨kp,ic,ie⟩:=bS i9;obtain⟨ig,hx372'⟩:=Af ic;obtain⟨kr,ks,kt,ku,kw,rfl,hF381,hE382⟩:=XQ (XL U (((h7.t hd).trans hx).trans i5)) hx372';have ii:=hE382 _ _ hx372';refine Di 1 ig<|Dx 2 0 (fun _ hq=>hq.1.1 _ _ hF381) ii<|Dv [3] ?_;obtain⟨ky,ij,ik⟩:=bS ie;obtain⟨io,hx386'⟩:=Af ij;have ip:=hE382 _ _ hx386';refine Di 4 io<|Dx 5 0 (fun _ hq=>hq.1.1 _ _ hF381) ip<|Dv [6] ?_;obtain⟨kz,iq,ir⟩:=bS ik;obtain⟨it,hx392'⟩:=Af iq;have iu:=hE382 _ _ hx392';refine Di 7 it<|Dx 8 0 (fun _ hq=>hq.1.1 _ _ hF381) iu<|Dv [9,10,11,12] ?_;obtain rfl:=Aa ir;exact XV (by kernel_rfl) ⟨hf,ib,XJ _,fI⟩
          ·rintro f l0 ⟨b0,iv,l1,⟨_,rfl⟩⟩;refine Ab<|Rt<|Ad ?_;obtain rfl:=Aa ia;exact Re [sv ha.1,sv ha.2.1,sv ha.2.2,bT] iv rfl
         ·refine Sc<|Ab<|sR (rG 4)<|Vs 4<|Nt<|Rt ?_;obtain rfl:=Aa i8;exact Re [sE,sE,sE,bF] b8 rfl
def Ev(N:Nat)(G:X6):Option Bool:=
 ((G3 N G).bind fun I=>some I.2.2.2)
theorem LP(N:Nat)(w0:World)(F0:Mem)(hF:X8 w0 F0)(G:X6)(r:Bool)(h:Ev N G=some r):
  cA 144 [sv G] w0 F0 (.bool r):=by
 have I:=XK hF;refine Go 15 Tryz.func144<|sR [0]<|Vs 1<|nR (rG 11)<|Vs 1 ?_;obtain⟨J,M,O⟩:=bS h;refine Cl' (cO 185) I (O3 N w0 F0 I.pers G _ M) ?_;rintro _ F1 h0 U h1 rfl;refine Vs 9<|nR [0,1]<|Vs 2<|Nt<|Rt ?_;obtain rfl:=Aa O;exact Re [.bool J.2.2.2] U rfl
def AO(N:Nat)(J:(List Line))(M:Int)(O:(Line->Int->Option Int)):(Int×Int)->Option (Ba (Int×Bool) (Int×Int)):=fun G=>
 (bif(decide (G.1 < G.2))then((idx J (W64 (Int.fdiv (IntKind.u64.wrap (W64 (G.1 + G.2))) (2 ^ min (1:Int).toNat IntKind.u64.bits)))).bind fun U=>((O U M).bind fun I=>some (.next ((bif(decide (I < 0))then(W64 ((W64 (Int.fdiv (IntKind.u64.wrap (W64 (G.1 + G.2))) (2 ^ min (1:Int).toNat IntKind.u64.bits))) + 1))else G.1),(bif(decide (I < 0))then G.2 else(W64 (Int.fdiv (IntKind.u64.wrap (W64 (G.1 + G.2))) (2 ^ min (1:Int).toNat IntKind.u64.bits))))))))else some (.done (G.1,G.2)))
def A5(N:Nat)(G:(List Line))(J:Int)(M:(Line->Int->Option Int)):Option (Int×Bool):=
 ((AJ (AO N G J M) N (0,(G.length:Int))).bind fun o=>o.k (fun r=>some r) (fun I=>((bif(decide (I.1 < (G.length:Int)))then((idx G I.1).bind fun O=>((M O J).bind fun U=>some (U==0)))else some false).bind fun Y=>some (I.1,Y))))
theorem CN(N:Nat)(w0:World)(F0:Mem)(hF:X8 w0 F0)(I:(List Line))(h4:X7)(h0:Nat)(bm:LC I.length h0)(h9:SlA Av F0 h4 I)(J:Int)(Y:FuncId)(O U:List Value)(x2:Line->Int->Option Int)(ha:Ag Tryz.prog Y)(hb:S2 F0 Y O U x2)(r:(Int×Bool))(h:A5 N I J x2=some r):
  cA 252 [sL h4 I h0,vi J,.func (.func Y) O.toArray U.toArray] w0 F0 (.tuple #[vi r.1,.bool r.2]):=by
 have hh:=XK hF;refine Go 49 Tryz.func252<|sR [0,1]<|Vs 2<|nR [0,1,2]<|Vs 3<|nR [0,1,2]<|Vs 3<|Nss ?_;obtain⟨hc,hk,hl⟩:=bS h;refine XP (fun f w=>∃(h1:(Int×Int))(Z:_),hc=.done h1/\HS w0 F0 w Z []/\XI F0 Z/\FI f [] [(0,(sL h4 I h0)),(1,(vi J)),(2,(.func (.func Y) O.toArray U.toArray)),(8,(vi (I.length:Int))),(9,(vi h1.1))]) ?_ ?_
 ·refine Bk<|XH (by kernel_rfl) (fun m f w=>∃(G:(Int×Int))(F1:Mem),AJ (AO N I J x2) m G=some hc/\HS w0 F0 w F1 []/\XI F0 F1/\FI f [] [(0,(sL h4 I h0)),(1,(vi J)),(2,(.func (.func Y) O.toArray U.toArray)),(8,(vi (I.length:Int))),(9,(vi G.1)),(10,(vi G.2))]) N ⟨(0,(I.length:Int)),F0,hk,hh,XJ _,fI⟩ ?_;rintro bn f hm ⟨G,F1,hn,h5,h6,⟨_,rfl⟩⟩;obtain⟨ho,bo,rfl,hp,hd⟩:=AE hn;refine Sq<|sR [0,1,2]<|Vs 3<|Nt<|Cd hp (fun hq hr=>?_) (fun hq hs=>?_)
  ·refine Sc<|Ab<|Bk<|sR (rG 7)<|Vs 4<|V 22 222 (U1 (t:=222) (t':=222) (x:=.tmp 21) (y:=.const (.int .u64 1)) (k:=.u64) (q:=.u64) (a:=IntKind.u64.wrap (W64 (G.1 + G.2))) (b:=1) rfl rfl (by decide))<|Vs 2<|nR (rG 8)<|Vs 3 ?_;obtain⟨ht,hu,hv⟩:=bS hr;obtain⟨hw,hx55'⟩:=Af hu;obtain⟨hx,hy,bp,bq,br,rfl,hF64,hE65⟩:=XQ (XL h9 h6) hx55';have hz:=hE65 _ _ hx55';refine Ix hw<|Lx 0 (h5.pers _ _ hF64) hz<|Vs 1 ?_;obtain⟨h2,b0,b1⟩:=bS hv;refine Cq ha h5 (hb hm F1 ht J _ h6 h5.pers b0) ?_;rintro _ F3 bs he b2 rfl;refine Vs 1<|Nt<|XP (kP w0 F0 F3 [] [] [(0,(sS hx hy I h0)),(1,(vi J)),(2,(.func (.func Y) O.toArray U.toArray)),(8,(vi (I.length:Int))),(9,(vi (bif(decide (h2 < 0))then(W64 ((W64 (Int.fdiv (IntKind.u64.wrap (W64 (G.1 + G.2))) (2 ^ min (1:Int).toNat IntKind.u64.bits))) + 1))else G.1))),(10,(vi (bif(decide (h2 < 0))then G.2 else(W64 (Int.fdiv (IntKind.u64.wrap (W64 (G.1 + G.2))) (2 ^ min (1:Int).toNat IntKind.u64.bits))))))]) ?_ ?_
   ·refine Cp (decide (h2 < 0)) (fun h3=>?_) (fun h3=>?_)
    ·refine Rg [0,1,2]<|Vs 3<|XE ?_;exact .inl ⟨rfl,F3,he,XJ _,fJ ⟨rfl,rfl,rfl,rfl,congrArg (Value.int .i64) (Ia h3 rfl),congrArg (Value.int .i64) (Ia h3 rfl),trivial⟩⟩
    ·refine Rg [0,1]<|Vs 2<|XE ?_;exact .inl ⟨rfl,F3,he,XJ _,fJ ⟨rfl,rfl,rfl,rfl,congrArg (Value.int .i64) (JK h3 rfl),congrArg (Value.int .i64) (JK h3 rfl),trivial⟩⟩
   ·rintro f bt ⟨F4,b3,b4,⟨_,rfl⟩⟩;refine Aq ?_;have b5:=AC b1 hd;exact⟨ho,xF _,((bif(decide (h2 < 0))then(W64 ((W64 (Int.fdiv (IntKind.u64.wrap (W64 (G.1 + G.2))) (2 ^ min (1:Int).toNat IntKind.u64.bits))) + 1))else G.1),(bif(decide (h2 < 0))then G.2 else(W64 (Int.fdiv (IntKind.u64.wrap (W64 (G.1 + G.2))) (2 ^ min (1:Int).toNat IntKind.u64.bits))))),F4,b5,b3,(h6.t b2).trans b4,fI⟩
  ·refine Ex<|An<|An<|Ay rfl ?_;have b6:=AF hs hd;exact .inl ⟨rfl,(G.1,G.2),F1,b6,h5,h6,fI⟩
 ·rintro f b7 ⟨h1,Z,rfl,h7,hf,⟨_,rfl⟩⟩;have b8:=A6 hl;refine Ab<|sR (rG 16) ?_;obtain⟨hg,b9,ba⟩:=bS b8;refine XO (kP w0 F0 Z [] [] [(6,(vi h1.1)),(7,(.bool hg))]) ?_ ?_
  ·refine Vs 5<|Sp b9 (fun M bb=>?_) (fun M bc=>?_)
   ·refine Vgs M 3 ?_;obtain⟨h8,bd,be⟩:=bS bb;obtain⟨bf,hx103'⟩:=Af bd;obtain⟨bu,bv,bw,bx,bz,rfl,hF112,hE113⟩:=XQ (XL h9 hf) hx103';have bg:=hE113 _ _ hx103';refine Ixg M bf<|Lxg M 0 (h7.pers _ _ hF112) bg<|Vgs M 1 ?_;obtain⟨c0,bh,bi⟩:=bS be;refine RWP.call (dst:=some 46) (ty:=3) (g:=some (4,true)) (by kernel_rfl) (Hp (d:=39) (by kernel_rfl) rfl M) (f0:=.tmp 40) (aos:=#[.tmp 44,.tmp 45]) (ats:=#[34,3]) (fid:=Y) (first:=O.toArray) (cap:=U.toArray) (args:=O++(([.agg (Bo h8),vi J]:List Value)++U)) rfl ha (EN (l:=[.agg (Bo h8),vi J]) (fi:=O) (k:=U) rfl) h7 (hb b7 Z h8 J _ hf h7.pers bh) ?_;rintro _ F6 c1 bj bk rfl;refine Vgs M 1<|Pk1 M<|Vs 2 ?_;obtain rfl:=Aa bi;exact XE ⟨rfl,F6,bj,bk,fI⟩
   ·refine Ss M 8<|Pk0 M<|Vs 2 ?_;obtain rfl:=Aa bc;exact XE ⟨rfl,Z,h7,XJ _,fI⟩
  ·rintro f c3 ⟨F5,bl,c4,⟨_,rfl⟩⟩;refine Ab<|Rt ?_;obtain rfl:=Aa ba;exact Re [vi h1.1,.bool hg] bl rfl
def FK(N:Nat)(G:Int):Option Bool:=
 some (G !=G)
theorem IU(N:Nat)(w0:World)(F0:Mem)(hF:X8 w0 F0)(G:Int)(r:Bool)(h:FK N G=some r):
  cA 281 [vi G] w0 F0 (.bool r):=by
 have I:=XK hF;refine Go 6 Tryz.func281<|sR [0]<|Vs 1<|nR (rG 4)<|Vs 4<|Nt<|Rt ?_;obtain rfl:=Aa h;exact Re [.bool (G !=G)] I rfl
def Gf(N:Nat)(G I:Int):Option Int:=
 ((FK N G).bind fun M=>((FK N I).bind fun J=>(bif M then(bif J then some 0 else some (-1))else(bif J then some 1 else(bif(decide (G < I))then some (-1)else(bif(decide (G > I))then some 1 else some 0))))))
theorem LV(N:Nat)(w0:World)(F0:Mem)(hF:X8 w0 F0)(I J r:Int)(h:Gf N I J=some r):
  cA 254 [vi I,vi J] w0 F0 (vi r):=by
 have M:=XK hF;refine Go 20 Tryz.func254<|sR [0]<|Vs 1<|nR [0,1,2]<|Vs 1 ?_;obtain⟨hh,U,Y⟩:=bS h;refine Cl' (cO 281) M (IU N w0 F0 M.pers I _ U) ?_;rintro _ F1 Z O hk rfl;refine Vs 1<|nR [0,1,2]<|Vs 1 ?_;obtain⟨hl,h0,h1⟩:=bS Y;refine Cl' (cO 281) O (IU N Z F1 O.pers J _ h0) ?_;rintro _ F2 hm G hn rfl;refine Vs 1<|Nss<|sR [0]<|Vs 1<|Nt<|Cd h1 (fun h2 h3=>?_) (fun h2 h4=>?_)
 ·refine Sq<|sR [0]<|Vs 1<|Nt<|Cd h3 (fun h5 h6=>?_) (fun h5 h7=>?_)
  ·refine sR [0]<|Vs 1<|Nt<|Rt<|Ad<|Ad ?_;obtain rfl:=Aa h6;exact Re [vi 0] G rfl
  ·refine Sc<|Ab<|sR [0]<|Vs 1<|Nt<|Rt<|Ad ?_;obtain rfl:=Aa h7;exact Re [vi (-1)] G rfl
 ·refine Sc<|Ab<|Sq<|sR [0]<|Vs 1<|Nt<|Cd h4 (fun h8 h9=>?_) (fun h8 ha=>?_)
  ·refine sR [0]<|Vs 1<|Nt<|Rt<|Ad ?_;obtain rfl:=Aa h9;exact Re [vi 1] G rfl
  ·refine Sc<|Ab<|Sq<|sR [0,1,2]<|Vs 3<|Nt<|Cd ha (fun hb hc=>?_) (fun hb hd=>?_)
   ·refine sR [0]<|Vs 1<|Nt<|Rt<|Ad ?_;obtain rfl:=Aa hc;exact Re [vi (-1)] G rfl
   ·refine Sc<|Ab<|Sq<|sR [0,1,2]<|Vs 3<|Nt<|Cd hd (fun he hf=>?_) (fun he hg=>?_)
    ·refine sR [0]<|Vs 1<|Nt<|Rt<|Ad ?_;obtain rfl:=Aa hf;exact Re [vi 1] G rfl
    ·refine Sc<|Ab<|sR [0]<|Vs 1<|Nt<|Rt ?_;obtain rfl:=Aa hg;exact Re [vi 0] G rfl

end Go.Proofs.YthljkpeimofbbaaGreatDoor
namespace Go.Proofs.YthljkpeimofbbaaGreatDoor
open Go.Lib (decDigits)
def isL(b:UInt8):Bool:=decide (65<=b.toNat)&&decide (b.toNat<=90)
def isD(b:UInt8):Bool:=decide (48<=b.toNat)&&decide (b.toNat<=57)
def isE(b:UInt8):Bool:=isL b||isD b
theorem Un{b:UInt8}(h:128<=b.toNat):isL b=false:=by unfold isL;simp;omega
theorem Uo{b:UInt8}(h:128<=b.toNat):isD b=false:=by unfold isD;simp;omega
theorem Wu{b:UInt8}(h:128<=b.toNat):isE b=false:=by unfold isE;rw[Un h,Uo h];rfl
theorem Qe{b:UInt8}(h:isE b=true):b.toNat < 128:=by unfold isE isL isD at h;simp at h;omega
theorem Xs{b:UInt8}(h:isL b=true):isD b=false:=by unfold isL at h;unfold isD;simp at h ⊢;omega
theorem QX(N:Nat)(b:UInt8):B2 N (b.toNat:Int)=some (isL b):=by
 unfold B2 isL;congr 2 <;> (rw[decide_eq_decide];omega)
theorem SM(N:Nat)(b:UInt8):Bn N (b.toNat:Int)=some (isD b):=by
 unfold Bn isD;congr 2 <;> (rw[decide_eq_decide];omega)
theorem Pr(N:Nat)(b:UInt8):EZ N (b.toNat:Int)=some (isL b):=by
 unfold EZ isL;congr 2 <;> (rw[decide_eq_decide];omega)
theorem N3(N:Nat)(b:UInt8):EL N (b.toNat:Int)=some (isD b):=by
 unfold EL isD;congr 2 <;> (rw[decide_eq_decide];omega)
theorem Li(N:Nat){n:Nat}(h:128<=n):B2 N (n:Int)=some false:=by
 unfold B2;have:decide ((n:Int)<=90)=false:=by rw[decide_eq_false_iff_not];omega
 rw[this,wQ]
theorem MH(N:Nat){n:Nat}(h:128<=n):Bn N (n:Int)=some false:=by
 unfold Bn;have:decide ((n:Int)<=57)=false:=by rw[decide_eq_false_iff_not];omega
 rw[this,wQ]
theorem Ud(N:Nat)(b:UInt8):D5 N (b.toNat:Int)=some (isE b):=by
 unfold D5 isE;rw[QX,SM];cases isL b <;> rfl
theorem P4(N:Nat){n:Nat}(h:128<=n):D5 N (n:Int)=some false:=by
 unfold D5;rw[Li N h,MH N h];rfl
theorem N2(N:Nat)(a b c:Int):GT N a b c=some (decide (b<=a)&&decide (a<=c)):=rfl
theorem HJ(N:Nat)(a b c:Int):Db N a b c=some (decide (b<=a)&&decide (a<=c)):=rfl
structure GY(p:Int->Option Bool)(P:UInt8->Bool):Prop where
 lo:∀ b:UInt8,b.toNat < 128->p (b.toNat:Int)=some (P b)
 hi:∀ n:Nat,128<=n->p (n:Int)=some false
 big:∀ b:UInt8,128<=b.toNat->P b=false
theorem T0(N:Nat):GY (fun G=>B2 N G) isL:=⟨fun b _=>QX N b,fun _ h=>Li N h,fun _ h=>Un h⟩
theorem SG(N:Nat):GY (fun G=>Bn N G) isD:=⟨fun b _=>SM N b,fun _ h=>MH N h,fun _ h=>Uo h⟩
theorem WX(N:Nat):GY (fun G=>D5 N G) isE:=⟨fun b _=>Ud N b,fun _ h=>P4 N h,fun _ h=>Wu h⟩
theorem GY.some{p:Int->Option Bool}{P:UInt8->Bool}(h:GY p P)(n:Nat):(p (n:Int)).isSome=true:=by
 rcases xM n 128 with h' | h'
 ·have:=h.lo (UInt8.ofNat n) (by rw[UInt8.toNat_ofNat'];omega);have e:(UInt8.ofNat n).toNat=n:=by rw[UInt8.toNat_ofNat'];omega
  rw[e]at this;rw[this];rfl
 ·rw[h.hi n h'];rfl
theorem GY.all{p:Int->Option Bool}{P:UInt8->Bool}(h:GY p P):K9 p=true:=Ja.2 fun n _=>h.some n
theorem HI{p:Int->Option Bool}{P:UInt8->Bool}(hp:GY p P){N:Nat}(s:X6)(most:Int)(hN:s.length < N):
  Gb N s most p=some (s.all P&&(decide (1<=(s.length:Int))&&decide ((s.length:Int)<=most))):=by
 have key:=D8 (body:=Ga N s most p) s.length (fun i (st:Nat)=>st=i/\(s.take i).all P=true)
  (fun o=>(s.all P=true/\o=.done s.length)\/(s.all P=false/\o=.ret false)) (by
   rintro i st hi ⟨rfl,hall⟩;by_cases h:st < s.length
   ·have hget:s[st]? =some s[st]:=xB h;unfold Ga;simp only[h,decide_true,cT];have htake:s.take (st + 1)=s.take st++[s[st]]:=by rw[zP,hget];rfl
    have hfalse:P s[st]=false->s.all P=false:=fun hP=>by
     rw[List.all_eq_false];exact⟨s[st],yL h,by rw[hP];simp⟩
    rcases xM s[st].toNat 128 with hb | hb
    ·rw[NN hget hb,hp.lo _ hb];simp only[oS];cases hP:P s[st]with
     | true=>exact .inl ⟨st + 1,rfl,⟨rfl,by rw[htake,zI,hall];simp[hP]⟩,trivial⟩
     | false=>exact .inr ⟨.ret false,rfl,(fun _ e=>by cases e),.inr ⟨hfalse hP,rfl⟩⟩
    ·have hs:=RI hget hb;rw[hp.hi _ hs.1];simp only[oS];exact .inr ⟨.ret false,rfl,(fun _ e=>by cases e),.inr ⟨hfalse (hp.big _ hb),rfl⟩⟩
   ·have:st=s.length:=by omega
    subst this;unfold Ga;simp only[Nat.lt_irrefl,decide_false,cF];exact .inr ⟨_,rfl,(fun _ e=>by cases e),.inl ⟨by simpa using hall,rfl⟩⟩) s.length N 0 0 (by omega) ⟨rfl,rfl⟩ hN
 obtain⟨o,ho,hR⟩:=key;unfold Gb;rw[ho];rcases hR with⟨G,rfl⟩ | ⟨G,rfl⟩
 ·simp only[oS,Ba.k,N2,G,yM]
 ·simp only[oS,Ba.k,G,Bool.false_and]
theorem Pl{p:Int->Option Bool}{P:UInt8->Bool}(hp:GY p P){b:UInt8}(h:b.toNat < 128):Gd p b.toNat=P b:=by unfold Gd;rw[hp.lo b h];rfl
theorem Lp{p:Int->Option Bool}{P:UInt8->Bool}(hp:GY p P)(s:X6)(ha:∀ b,b∈s->b.toNat < 128):∀(f i:Nat),s.length<=i + f->i<=s.length->
  (0<=Go.Lib.idxFuncFrom (Gd p) true ⟨s.toArray⟩ f i ↔ (s.drop i).any P=true)
 | 0,i,G,I=>by
  have:i=s.length:=by omega
  subst this;simp[Go.Lib.idxFuncFrom]
 | f + 1,i,G,I=>by
  unfold Go.Lib.idxFuncFrom;have hsz:(⟨s.toArray⟩:ByteArray).size=s.length:=by simp[ByteArray.size]
  rw[hsz];by_cases h:i < s.length
  ·rw[if_pos h];have hget:s[i]? =some s[i]:=xB h;have hd:Utf8.decode ⟨s.toArray⟩ i=(s[i].toNat,1):=NN hget (ha _ (yL h));rw[hd];simp only;rw[Pl hp (ha _ (yL h)),xS h,List.any_cons];cases hP:P s[i]with
   | true=>simp
   | false=>
    simp only[xR,if_false,zQ];exact Lp hp s ha f (i + 1) (by omega) (by omega)
  ·have:i=s.length:=by omega
   subst this;simp
theorem Tr{p:Int->Option Bool}{P:UInt8->Bool}(hp:GY p P){N:Nat}(s:X6)(ha:∀ b,b∈s->b.toNat < 128):∃ r,CI N s p=some r/\decide (r>=0)=s.any P:=by
 refine⟨_,by unfold CI;rw[if_pos hp.all],?_⟩;have:=Lp hp s ha s.length 0 (by omega) (by omega);have hsz:(⟨s.toArray⟩:ByteArray).size=s.length:=by simp[ByteArray.size]
 unfold Go.Lib.idxFunc;rw[hsz];rw[zY]at this;cases hs:s.any P with
 | true=>rw[hs]at this;exact decide_eq_true (this.2 rfl)
 | false=>
  rw[hs]at this;exact decide_eq_false fun h=>by have:=this.1 h;cases this
def J0:X6->Nat
 | []=>0
 | b::r=>if isD b then r.length + 1 else J0 r
def Br(s:X6):Nat:=J0 s.reverse
theorem Rj:Br []=0:=rfl
theorem PA(l:X6)(b:UInt8):Br (l++[b])=if isD b then l.length + 1 else Br l:=by
 unfold Br;rw[List.reverse_append];simp[J0]
theorem NB:∀ l:X6,J0 l<=l.length
 | []=>xN _
 | b::r=>by
  unfold J0;split
  ·exact xN _
  ·exact wW (NB r)
theorem Qm(s:X6):Br s<=s.length:=by unfold Br;have:=NB s.reverse;simpa using this
theorem Pz:∀ l:X6,∀ b,b∈l.take (l.length - J0 l)->isD b=false
 | [],b,h=>by simp at h
 | c::r,b,h=>by
  unfold J0 at h;split at h
  ·simp at h
  ·rename_i hc;have hc':isD c=false:=by simpa using hc
   have:=NB r;rw[show(c::r).length - J0 r=(r.length - J0 r) + 1 by simp;omega,List.take_succ_cons]at h;rcases xL.1 h with rfl | h
   ·exact hc'
   ·exact Pz r b h
theorem PB(s:X6):∀ b,b∈s.drop (Br s)->isD b=false:=by
 intro b hb;have h:=Pz s.reverse b;have e:s.reverse.take (s.reverse.length - J0 s.reverse)=(s.drop (Br s)).reverse:=by
  rw[List.reverse_drop,List.length_reverse];rfl
 rw[e]at h;exact h (by simpa using hb)
theorem SV:∀ l:X6,0 < J0 l->∃ b,l[l.length - J0 l]? =some b/\isD b=true
 | [],h=>by simp[J0]at h
 | c::r,h=>by
  unfold J0 at h ⊢;by_cases hc:isD c=true
  ·rw[if_pos hc];exact⟨c,by simp,hc⟩
  ·rw[if_neg hc]at h ⊢;obtain⟨b,G,I⟩:=SV r h;have:=NB r;refine⟨b,?_,I⟩;rw[show(c::r).length - J0 r=(r.length - J0 r) + 1 by simp;omega,yC];exact G
theorem VR(s:X6)(h:0 < Br s):∃ b,s[Br s - 1]? =some b/\isD b=true:=by
 obtain⟨b,G,I⟩:=SV s.reverse h;refine⟨b,?_,I⟩;have hle:=Qm s;rw[List.length_reverse,List.getElem?_reverse (by show s.length - Br s < s.length;omega)]at G;rw[<-G];congr 1;show Br s - 1=s.length - 1 - (s.length - Br s);omega
theorem Kl(N:Nat)(s:X6)(ha:∀ b,b∈s->b.toNat < 128):∀(f i:Nat),i<=f->i<=s.length->
  Go.Lib.lastIdxFuncFrom (Gd fun J=>Bn N J) true ⟨s.toArray⟩ f i + 1=(Br (s.take i):Int)
 | 0,i,G,I=>by
  have:i=0:=by omega
  subst this;simp[Go.Lib.lastIdxFuncFrom,Rj]
 | f + 1,0,G,I=>by simp[Go.Lib.lastIdxFuncFrom,Rj]
 | f + 1,i + 1,G,I=>by
  unfold Go.Lib.lastIdxFuncFrom;rw[if_pos (Nat.succ_pos i)];have h:i < s.length:=by omega
  have htake:s.take (i + 1)=s.take i++[s[i]]:=by rw[zP,xB h];rfl
  have hb:=ha _ (yL h);have hdl:Go.Lib.decodeLastL (s.take (i + 1))=(s[i].toNat,1):=by
   unfold Go.Lib.decodeLastL;rw[if_neg (fun e=>by have M:=congrArg List.length e;rw[yG,List.length_nil]at M;omega)];have hlen:(s.take (i + 1)).length - 1=i:=by rw[yG];omega
   have hg:(s.take (i + 1)).getD i 0=s[i]:=by
    rw[wL,wF,if_pos (by omega),xB h];rfl
   rw[hlen,hg,if_pos hb]
  simp only[List.toList_toArray]at *
  rw[hdl];simp only;rw[Pl (SG N) hb,htake,PA];cases hP:isD s[i]with
  | true=>
   simp only[if_true];rw[yG,zN (by omega)];simp
  | false=>
   simp only[xR,if_false];rw[show i + 1 - 1=i by omega];exact Kl N s ha f i (by omega) (by omega)
theorem DL(i:Nat)(h:i < 4611686018427387904):W64 ((i:Int) + 1)=((i + 1:Nat):Int):=by
 rw[D6 (by omega) (by omega)];omega
def pcs(c:UInt8):X6->List X6
 | []=>[[]]
 | b::s=>if b=c then[]::pcs c s else match pcs c s with
  | p::r=>(b::p)::r
  | []=>[[b]]
theorem T3(c:UInt8):∀ s,pcs c s≠[]
 | []=>by simp[pcs]
 | b::s=>by
  unfold pcs;split
  ·simp
  ·split <;> simp
theorem Jb{c:UInt8}:∀{a:X6},c∉a->pcs c a=[a]
 | [],_=>rfl
 | b::s,h=>by
  have G:¬ b=c:=fun e=>h (by rw[e];exact yD);have I:c∉s:=fun hm=>h (xD _ hm);unfold pcs;rw[if_neg G,Jb I]
theorem Lb{c:UInt8}:∀{a t:X6},c∉a->pcs c (a++c::t)=a::pcs c t
 | [],t,_=>by simp[pcs]
 | b::s,t,h=>by
  have G:¬ b=c:=fun e=>h (by rw[e];exact yD);have I:c∉s:=fun hm=>h (xD _ hm);rw[wS]
  conv=>lhs;unfold pcs
  rw[if_neg G,Lb I]
theorem ET{c:UInt8}:∀{s:X6},c∈s->∃ a t,s=a++c::t/\c∉a
 | b::s,h=>by
  by_cases hb:b=c
  ·exact⟨[],s,by rw[hb];rfl,by simp⟩
  ·rcases xL.1 h with e | h
   ·exact absurd e.symm hb
   ·obtain⟨a,t,G,I⟩:=ET h;exact⟨b::a,t,by rw[G];rfl,fun hm=>by
     rcases xL.1 hm with e | hm
     ·exact hb e.symm
     ·exact I hm⟩
theorem Jm{c:UInt8}:∀{s:X6},c∉s->Go.Lib.index s [c]= -1
 | [],_=>rfl
 | b::s,h=>by
  have G:¬ c=b:=fun e=>h (by rw[e];exact yD);have I:c∉s:=fun hm=>h (xD _ hm);unfold Go.Lib.index;rw[if_neg (by simp[List.isPrefixOf];exact G),Jm I];rfl
theorem Jl{c:UInt8}:∀{a t:X6},c∉a->Go.Lib.index (a++c::t) [c]=(a.length:Int)
 | [],t,_=>by
  show Go.Lib.index (c::t) [c]=0;unfold Go.Lib.index;rw[if_pos (by simp[List.isPrefixOf])]
 | b::s,t,h=>by
  have G:¬ c=b:=fun e=>h (by rw[e];exact yD);have I:c∉s:=fun hm=>h (xD _ hm);rw[wS];unfold Go.Lib.index;rw[if_neg (by simp[List.isPrefixOf];exact G),Jl I,if_neg (by simp <;> omega)];simp
theorem NL{c:UInt8}:∀(n f:Nat)(s:X6),s.length<=n->s.length < f->Go.Lib.splitK [c] 0 (Go.Lib.countFrom [c] f s) s=pcs c s
 | _,0,s,_,h=>by omega
 | n,f + 1,s,G,I=>by
  by_cases hc:c∈s
  ·obtain⟨a,t,rfl,ha⟩:=ET hc;have hi:=Jl (t:=t) ha;unfold Go.Lib.countFrom;rw[hi,if_neg (by simp <;> omega),wU 1];unfold Go.Lib.splitK;rw[hi,if_neg (by simp <;> omega)];have hdrop:(a++c::t).drop ((a.length:Int).toNat + [c].length)=t:=by
    simp
   have htake:(a++c::t).take ((a.length:Int).toNat + 0)=a:=by simp
   rw[hdrop,htake,Lb ha];have hl:t.length < n:=by simp at G;omega
   obtain⟨n',rfl⟩:∃ n',n=n' + 1:=⟨n - 1,by omega⟩;rw[NL n' f t (by omega) (by simp at I;omega)]
  ·rw[Jb hc];unfold Go.Lib.countFrom;rw[Jm hc,if_pos (by simp)];rfl
theorem QJ(c:UInt8)(s:X6):PN s [c]=pcs c s:=by
 unfold PN;rw[Go.Lib.splitB_data];have:Go.Lib.countB ⟨s.toArray⟩ ⟨[c].toArray⟩=Go.Lib.countFrom [c] (s.length + 1) s:=by
  rfl
 rw[this];exact NL s.length (s.length + 1) s (xN _) (xF _)
theorem SN{N:Nat}{s:X6}(c:UInt8)(h:s.length < 4294967281):strings_Split N s [c]=some (pcs c s):=by
 unfold strings_Split;rw[if_pos ⟨h,by simp⟩,QJ]
theorem UD{c:UInt8}{s:X6}(h:c∉s):Go.Lib.cut s [c]=(s,[],false):=by
 unfold Go.Lib.cut;rw[Jm h,if_neg (by decide)]
theorem UC{c:UInt8}{a t:X6}(h:c∉a):Go.Lib.cut (a++c::t) [c]=(a,t,true):=by
 unfold Go.Lib.cut;rw[Jl h,if_pos (by omega)];simp only[yN,zB];rw[List.drop_append];simp
theorem VU(b c:UInt8)(z:Int)(h:z=(c.toNat:Int)):((b.toNat:Int)==z)=decide (b=c):=by
 subst h;rw[yS];simp only[beq_iff_eq,decide_eq_true_eq];constructor
 ·intro h;exact UInt8.toNat_inj.1 (by omega)
 ·rintro rfl;rfl
theorem Tn{N:Nat}(s:X6)(hs:s.length < 4294967290)(hN:s.length < N):Gp N s=some (pcs 47 s):=by
 have key:=D8 (body:=Eu N s) s.length (fun i st=>∃(out:List X6)(fr:Nat),st=(out,(fr:Int),(i:Int))/\fr<=i/\out.length<=i/\pcs 47 s=out++pcs 47 (s.drop fr)/\(47:UInt8)∉(s.drop fr).take (i - fr))
  (fun o=>∃(out:List X6)(fr:Nat),o=.done (out,(fr:Int),(s.length:Int))/\fr<=s.length/\out.length<=s.length/\pcs 47 s=out++[s.drop fr]) (by
   rintro i st hi ⟨out,fr,rfl,I,M,G,J⟩;unfold Eu;simp only;by_cases h:i < s.length
   ·have hget:s[i]? =some s[i]:=xB h;have U:decide ((i:Int) < (s.length:Int))=true:=decide_eq_true (by omega);rw[U,cT,GE h,oS,VU _ 47 47 rfl,DL i (by omega)];have hdi:s.drop fr=(s.drop fr).take (i - fr)++s[i]::s.drop (i + 1):=by
     have O:s.drop fr=(s.drop fr).take (i - fr)++(s.drop fr).drop (i - fr):=(wK _ _).symm;rw[zW,show fr + (i - fr)=i by omega,xS h]at O;exact O
    by_cases hc:s[i]=47
    ·rw[decide_eq_true hc,cT,I4 I (by omega),oS,QB (by simp;omega),oS,oS];refine .inl ⟨_,rfl,⟨out++[(s.drop fr).take (i - fr)],i + 1,rfl,by omega,by simp;omega,?_,by simp⟩,h⟩;rw[G]
     conv=>lhs;rw[hdi,hc,Lb J]
     simp
    ·rw[decide_eq_false hc,cF,oS];refine .inl ⟨_,rfl,⟨out,fr,rfl,by omega,by omega,G,?_⟩,h⟩;rw[show i + 1 - fr=(i - fr) + 1 by omega,zP,yR,show fr + (i - fr)=i by omega,hget];intro hm;rcases yF.1 hm with hm | hm
     ·exact J hm
     ·simp at hm;exact hc hm.symm
   ·have:i=s.length:=by omega
    subst this;rw[decide_eq_false (by omega),cF];refine .inr ⟨_,rfl,(fun _ e=>by cases e),out,fr,rfl,I,M,?_⟩;rw[G,Jb];rw[wR (by simp)]at J;exact J) s.length N 0 ([],0,0) (by omega) ⟨[],0,rfl,xN _,xN _,by simp,by simp⟩ hN
 obtain⟨o,ho,out,fr,rfl,I,M,G⟩:=key;unfold Gp;rw[ho];simp only[oS,Ba.k];rw[I4 I (xN _),oS,QB (by simp;omega),G,wR (by simp)];rfl
theorem JV{α ρ τ:Type}{body:Int->Option (Ba ρ Int)}{l:List α}(ok:α->Bool)(bad:ρ)(hb:∀ i (h:i < l.length),body (i:Int)=some (bif ok l[i]then .next ((i + 1:Nat):Int)else .ret bad))
  (he:body (l.length:Int)=some (.done (l.length:Int))) {N:Nat} (hN:l.length < N) (fd:Int->Option τ) (fr:ρ->Option τ):((AJ body N 0).bind fun o=>o.k fr fd)=bif l.all ok then fd l.length else fr bad:=by
 obtain⟨o,ho,hR⟩:=D8 (body:=body) l.length (fun i s=>s=(i:Int)/\(l.take i).all ok=true) (fun o=>(l.all ok=true/\o=.done (l.length:Int))\/(l.all ok=false/\o=.ret bad)) (by
  rintro i s hi ⟨rfl,hk⟩;by_cases h:i < l.length
  ·rw[hb i h];cases e:ok l[i]with
   | true=>exact .inl ⟨_,rfl,⟨rfl,by rw[zP,xB h,zI,hk];simp[e]⟩,h⟩
   | false=>exact .inr ⟨_,rfl,(fun _ h=>by cases h),.inr ⟨by rw[List.all_eq_false];exact⟨l[i],yL h,by rw[e];simp⟩,rfl⟩⟩
  ·have:i=l.length:=by omega
   subst this;rw[he];exact .inr ⟨_,rfl,(fun _ h=>by cases h),.inl ⟨by simpa using hk,rfl⟩⟩) l.length N 0 0 (by omega) ⟨rfl,rfl⟩ hN
 rw[ho];rcases hR with⟨G,rfl⟩ | ⟨G,rfl⟩ <;> rw[G] <;> rfl
section
variable {N:Nat} {s:X6}
theorem BZ{i n:Nat}(h:i < n):decide ((i:Int) < (n:Int))=true:=decide_eq_true (by omega)
theorem Cz{n:Nat}:decide ((n:Int) < (n:Int))=false:=decide_eq_false (by omega)
theorem P3(hs:s.length < 4611686018427387904)(hN:s.length < N):EK N s=some (s.all isE):=by
 have hb:∀ i (h:i < s.length),CT N s (i:Int)=some (bif isE s[i]then .next ((i + 1:Nat):Int)else .ret false):=fun i h=>by
  unfold CT;rw[BZ h,cT,GE h,oS,Pr,oS,DL i (by omega),oS,N3];unfold isE;cases isL s[i] <;> cases isD s[i] <;> rfl
 have he:CT N s (s.length:Int)=some (.done (s.length:Int)):=by
  unfold CT;rw[Cz,cF]
 unfold EK;rw[JV (l:=s) isE false hb he hN];cases s.all isE <;> rfl
theorem SY:∀ s:X6,s.all (fun b=>!isL b)= !s.any isL
 | []=>rfl
 | b::s=>by rw[yX,List.any_cons,SY s];cases isL b <;> rfl
theorem N6(hs:s.length < 4611686018427387904)(hN:s.length < N):DR N s=some (s.any isL):=by
 have hb:∀ i (h:i < s.length),B9 N s (i:Int)=some (bif(!isL s[i])then .next ((i + 1:Nat):Int)else .ret true):=fun i h=>by
  unfold B9;rw[BZ h,cT,GE h,oS,Pr,oS,DL i (by omega)];cases isL s[i] <;> rfl
 have he:B9 N s (s.length:Int)=some (.done (s.length:Int)):=by
  unfold B9;rw[Cz,cF]
 unfold DR;rw[JV (l:=s) (fun b=>!isL b) true hb he hN];rw[SY];cases s.any isL <;> rfl
theorem V4(hs:s.length < 4611686018427387904)(hN:s.length < N):HH N s=some (Br s:Int):=by
 obtain⟨o,ho,rfl⟩:=D8 (body:=Gq N s) s.length (fun i st=>st=((Br (s.take i):Int),(i:Int))) (fun o=>o=.done ((Br s:Int),(s.length:Int))) (by
  rintro i st hi rfl;unfold Gq;simp only;by_cases h:i < s.length
  ·rw[BZ h,cT,GE h,oS,N3,oS,DL i (by omega)];refine .inl ⟨_,rfl,?_,h⟩;rw[zP,xB h];show _=(((Br (s.take i++[s[i]]):Nat):Int),_);rw[PA,yG,zN (by omega)];cases isD s[i] <;> rfl
  ·have:i=s.length:=by omega
   subst this;rw[Cz,cF,yW];exact .inr ⟨_,rfl,(fun _ e=>by cases e),rfl⟩) s.length N 0 (0,0) (by omega) rfl hN
 unfold HH;rw[ho];rfl
def wiB(n lo hi:Nat):Bool:=decide (lo<=n)&&decide (n<=hi)
def Fo(s:X6):Bool:=s.all isE&&wiB s.length 1 4&&s.any isL
def BJ(s:X6):Bool:=s.all isE&&wiB (Br s) 1 4&&(s.take (Br s)).any isL&&wiB (s.length - Br s) 1 4
def DE(s:X6):Bool:=(s.all isL&&wiB s.length 1 4)||(s.all isD&&wiB s.length 1 1)
theorem GD(n lo hi:Nat):(decide (((lo:Nat):Int)<=(n:Int))&&decide ((n:Int)<=((hi:Nat):Int)))=wiB n lo hi:=by
 unfold wiB;congr 1 <;> (rw[decide_eq_decide];omega)
theorem w14(n:Nat):(decide ((1:Int)<=(n:Int))&&decide ((n:Int)<=(4:Int)))=wiB n 1 4:=GD n 1 4
theorem w11(n:Nat):(decide ((1:Int)<=(n:Int))&&decide ((n:Int)<=(1:Int)))=wiB n 1 1:=GD n 1 1
theorem RZ(hs:s.length < 4611686018427387904)(hN:s.length < N):Gc N s=some (Fo s):=by
 unfold Gc Fo;rw[HI (WX N) s 4 hN,oS,w14];cases h:(s.all isE&&wiB s.length 1 4)with
 | false=>rfl
 | true=>
  rw[xA]at h;obtain⟨r,G,I⟩:=Tr (N:=N) (T0 N) s (fun b hb=>Qe (xQ.1 h.1 b hb));rw[cT,G,oS,I];rfl
theorem SK(hs:s.length < 4611686018427387904)(hN:s.length < N):GG N s=some (Fo s):=by
 unfold GG Fo;rw[P3 hs hN,oS,N6 hs hN,HJ,w14];cases s.all isE <;> cases wiB s.length 1 4 <;> rfl
theorem QW(hs:s.length < 4611686018427387904)(hN:s.length < N):EH N s=some (DE s):=by
 unfold EH DE;rw[HI (T0 N) s 4 hN,HI (SG N) s 1 hN,w14,w11];cases s.all isL&&wiB s.length 1 4 <;> rfl
theorem Tv:∀{s:X6},Br s=0 ↔ s.any isD=false:=by
 intro s;constructor
 ·intro h;have:=PB s;rw[h,zY]at this;rw[List.any_eq_false];intro b hb;rw[this b hb];simp
 ·intro h;rcases wD (Br s)with G | G
  ·exact G
  ·obtain⟨b,I,J⟩:=VR s G;rw[List.any_eq_false]at h;exact absurd J (h b (yH I))
theorem ON(s:X6):s.all isL=(s.all isE&& !s.any isD):=by
 induction s with
 | nil=>rfl
 | cons b s ih=>
  simp only[yX,List.any_cons,ih,isE];cases hL:isL b with
  | true=>rw[Xs hL];simp
  | false=>cases isD b <;> cases s.all isE <;> cases s.any isD <;> rfl
theorem Pq(hs:s.length < 4611686018427387904)(hN:s.length < N):EY N s=some (DE s):=by
 unfold EY DE;rw[P3 hs hN,HJ,w14,V4 hs hN,ON];have hz:((Br s:Int)==0)= !s.any isD:=by
  rw[yS];simp only[beq_iff_eq,Bool.not_eq_true',<-Tv];omega
 match s with
 | []=>rfl
 | [b]=>
  have G:(([b]:X6).length:Int)==1:=rfl;rw[G,cT,show K4 [b] 0=some (b.toNat:Int)from rfl,oS,N3,oS,oS];simp only[oS,hz];simp only[yX,List.all_nil,List.any_cons,List.any_nil,isE,Bool.and_true,Bool.or_false];cases isL b <;> cases isD b <;> rfl
 | b::c::t=>
  have G:(((b::c::t).length:Int)==1)=false:=by rw[beq_eq_false_iff_ne];simp;omega
  simp only[G,cF,oS,hz];have I:wiB (b::c::t).length 1 1=false:=by unfold wiB;simp
  rw[I,wQ,Bool.or_false];cases(b::c::t).all isE <;> cases wiB (b::c::t).length 1 4 <;> cases(b::c::t).any isD <;> rfl
theorem Nx(hs:s.length < 4611686018427387904)(hN:s.length < N):EC N s=some (BJ s):=by
 have hk:=Qm s;unfold EC BJ;rw[V4 hs hN,oS,P3 hs hN,oS,HJ,w14];have G:K1 s 0 (Br s:Int)=some (s.take (Br s)):=by
  have:=I4 (a:=s) (lo:=0) (hi:=Br s) (xV _) hk
  simpa using this
 have I:W64 ((s.length:Int) - (Br s:Int))=((s.length - Br s:Nat):Int):=by rw[D6 (by omega) (by omega)];omega
 rw[G,I,HJ,w14];have J:=N6 (N:=N) (s:=s.take (Br s)) (by rw[yG];omega) (by rw[yG];omega);simp only[oS,J];cases s.all isE <;> cases wiB (Br s) 1 4 <;> cases(s.take (Br s)).any isL <;> rfl
theorem Uk(p:Nat->Bool)(tr:Bool)(s:X6):∀(f i:Nat),i<=s.length->Go.Lib.lastIdxFuncFrom p tr ⟨s.toArray⟩ f i= -1\/(0<=Go.Lib.lastIdxFuncFrom p tr ⟨s.toArray⟩ f i/\Go.Lib.lastIdxFuncFrom p tr ⟨s.toArray⟩ f i < (i:Int))
 | 0,_,_=>.inl rfl
 | f + 1,i,hi=>by
  unfold Go.Lib.lastIdxFuncFrom;split
  ·rename_i h0;have hw:=Go.Lib.decodeLastL_width (s.take i) (by rw[yG];omega);simp only[List.toList_toArray]at *
   split
   ·exact .inr ⟨by omega,by omega⟩
   ·rcases Uk p tr s f (i - (Go.Lib.decodeLastL (s.take i)).2) (by omega)with h | h
    ·exact .inl h
    ·exact .inr ⟨h.1,by omega⟩
  ·exact .inl rfl
theorem Wm(hs:s.length < 4611686018427387904)(hN:s.length < N):∃ x y,L1 N s=some (x,y,BJ s)/\(BJ s=true->x=s.take (Br s)/\y=s.drop (Br s)):=by
 have hr:∃ k:Nat,BU N s (fun G=>Bn N G)=some ((k:Int) - 1)/\k<=s.length/\((∀ b,b∈s->b.toNat < 128)->k=Br s):=by
  have hsz:(⟨s.toArray⟩:ByteArray).size=s.length:=by simp[ByteArray.size]
  have e:BU N s (fun G=>Bn N G)=some (Go.Lib.lastIdxFunc (Gd fun G=>Bn N G) true ⟨s.toArray⟩):=by
   unfold BU Cy;rw[if_pos ⟨(SG N).all,by omega⟩];rfl
  rw[e];unfold Go.Lib.lastIdxFunc;rw[hsz];have hrange:=Uk (Gd fun G=>Bn N G) true s s.length s.length (xN _);refine⟨(Go.Lib.lastIdxFuncFrom (Gd fun G=>Bn N G) true ⟨s.toArray⟩ s.length s.length + 1).toNat,?_,?_,fun ha=>?_⟩
  ·exact congrArg some (by rcases hrange with h | ⟨h,_⟩ <;> omega)
  ·rcases hrange with h | ⟨M,J⟩
   ·omega
   ·omega
  ·have:=Kl N s ha s.length s.length (xN _) (xN _);rw[yW]at this;omega
 obtain⟨k,M,J,O⟩:=hr;have U:W64 ((k:Int) - 1 + 1)=(k:Int):=by rw[D6 (by omega) (by omega)];omega
 have Y:K1 s 0 (k:Int)=some (s.take k):=by
  have:=I4 (a:=s) (lo:=0) (hi:=k) (xV _) J
  simpa using this
 have Z:K1 s (k:Int) (s.length:Int)=some (s.drop k):=by
  rw[I4 J (xN _),wR (by simp)]
 have e4:=RZ (N:=N) (s:=s.take k) (by rw[yG];omega) (by rw[yG];omega);have e5:=HI (T0 N) (s.drop k) 4 (N:=N) (by rw[yK];omega);refine⟨s.take k,s.drop k,?_,?_⟩
 ·unfold L1;rw[M,oS,U,Y,oS,Z,oS,oS,e4,oS,e5,w14];have hbase:(decide ((k:Int) > 0)&&(Fo (s.take k)&&((s.drop k).all isL&&wiB (s.drop k).length 1 4)))=BJ s:=by
   by_cases ha:s.all isE=true
   ·have hk:k=Br s:=O fun b hb=>Qe (xQ.1 ha b hb);subst hk;have hle:=Qm s;have e6:(s.take (Br s)).all isE=true:=xQ.2 fun b hb=>xQ.1 ha b (List.mem_of_mem_take hb);have e7:(s.drop (Br s)).all isL=true:=by
     rw[ON];rw[xA];refine⟨xQ.2 fun b hb=>xQ.1 ha b (List.mem_of_mem_drop hb),?_⟩;rw[Bool.not_eq_true',List.any_eq_false];intro b hb;rw[PB s b hb];simp
    unfold Fo BJ;rw[ha,e6,e7,yG,zN hle,yK];have e8:(decide ((Br s:Int) > 0)&&wiB (Br s) 1 4)=wiB (Br s) 1 4:=by
     unfold wiB;cases hd:decide (1<=Br s)with
     | false=>simp
     | true=>rw[decide_eq_true (by have:=of_decide_eq_true hd;omega)];rfl
    rw[<-e8];cases decide ((Br s:Int) > 0) <;> cases wiB (Br s) 1 4 <;> cases(s.take (Br s)).any isL <;> rfl
   ·have ha':s.all isE=false:=by simpa using ha
    unfold Fo BJ;rw[ha'];have I:(s.take k).all isE=false\/(s.drop k).all isL=false:=by
     rw[<-wK k s,zI]at ha';cases h5:(s.take k).all isE with
     | false=>exact .inl rfl
     | true=>
      right
      rw[h5,yM]at ha';rw[ON,ha'];rfl
    rcases I with I | I <;> rw[I] <;> simp
  rw[<-hbase];cases decide ((k:Int) > 0) <;> cases Fo (s.take k) <;> rfl
 ·intro hb;have ha:s.all isE=true:=by
   unfold BJ at hb;simp only[xA]at hb;exact hb.1.1.1
  rw[O fun b hb=>Qe (xQ.1 ha b hb)];exact⟨rfl,rfl⟩
end
theorem R3{α ρ τ:Type}{body:Int->Option (Ba ρ Int)}{l:List α}(f:α->Option ρ)(hb:∀ i (h:i < l.length),body (i:Int)=some ((f l[i]).elim (.next ((i + 1:Nat):Int)) .ret))
  (he:body (l.length:Int)=some (.done (l.length:Int))) {N:Nat} (hN:l.length < N) (fd:Int->Option τ) (fr:ρ->Option τ):((AJ body N 0).bind fun o=>o.k fr fd)=(l.findSome? f).elim (fd l.length) fr:=by
 obtain⟨o,ho,hR⟩:=D8 (body:=body) l.length (fun i s=>s=(i:Int)/\l.findSome? f=(l.drop i).findSome? f) (fun o=>(l.findSome? f=none/\o=.done (l.length:Int))\/ ∃ r,l.findSome? f=some r/\o=.ret r) (by
  rintro i s hi ⟨rfl,hk⟩;by_cases h:i < l.length
  ·rw[hb i h];rw[xS h,wC]at hk;cases e:f l[i]with
   | some r=>rw[e]at hk;exact .inr ⟨_,rfl,(fun _ h=>by cases h),.inr ⟨r,hk,rfl⟩⟩
   | none=>rw[e]at hk;exact .inl ⟨_,rfl,⟨rfl,hk⟩,h⟩
  ·have:i=l.length:=by omega
   subst this;rw[he];rw[List.drop_length]at hk;exact .inr ⟨_,rfl,(fun _ h=>by cases h),.inl ⟨hk,rfl⟩⟩) l.length N 0 0 (by omega) ⟨rfl,by rw[zY]⟩ hN
 rw[ho];rcases hR with⟨G,rfl⟩ | ⟨r,G,rfl⟩ <;> rw[G] <;> rfl
theorem P0(c:UInt8):∀ s p,p∈pcs c s->p.length<=s.length
 | [],p,h=>by simp[pcs]at h;subst h;simp
 | b::s,p,h=>by
  have ih:=P0 c s;unfold pcs at h;by_cases hb:b=c
  ·rw[if_pos hb]at h;rcases xL.1 h with rfl | h
   ·simp
   ·exact wW (ih p h)
  ·rw[if_neg hb]at h;cases hp:pcs c s with
   | nil=>exact absurd hp (T3 c s)
   | cons q r=>
    rw[hp]at h ih;simp only at h;rcases xL.1 h with rfl | h
    ·exact Nat.succ_le_succ (ih q yD)
    ·exact wW (ih p (xD _ h))
def zp:Bl:={Area:=[],Prefix:=[],Suffix:=[],Stroke:=[]}
abbrev Tri:=X6×X6×X6
def Kf(ws:List X6):Option Tri:=match ws with
 | [w]=>if BJ w then some ([],w,[])else none
 | [a,b]=>if Fo a&&BJ b&&decide (a.length < b.length)then some (a,b,[])else if BJ a&&DE b then some ([],a,b)else none
 | [a,b,c]=>if Fo a&&BJ b&&DE c then some (a,b,c)else none
 | _=>none
def callB(s:X6):Option Tri:=if s.length<=16 then Kf (pcs 47 s)else none
def SI(t:Tri):Bl:={Area:=t.1,Prefix:=t.2.1.take (Br t.2.1),Suffix:=t.2.1.drop (Br t.2.1),Stroke:=t.2.2}
def RF(s:X6):Bl×Bool:=match callB s with
 | some t=>(SI t,true)
 | none=>(zp,false)
section
variable {N:Nat}
theorem Lj{w:X6}(hs:w.length < 4611686018427387904)(hN:w.length < N):∃ x y,AM N w=some ({Area:=[],Prefix:=x,Suffix:=y,Stroke:=[]},BJ w)/\(BJ w=true->x=w.take (Br w)/\y=w.drop (Br w)):=by
 obtain⟨x,y,G,I⟩:=Wm hs hN;exact⟨x,y,by unfold AM;rw[G];rfl,I⟩
theorem WD{w:X6}{z0:X6->Option (Bl×Bool)}{p:Bl}{ok:Bool}(G:z0 w=some (p,ok)):D4 N [w] z0=some (p,ok):=by
 unfold D4;have I:idx [w] 0=some w:=rfl;simp only[I,oS,G]
theorem WC{a b:X6}{z0:X6->Option (Bl×Bool)}{x y u v:X6}{A ok:Bool}(G:z0 b=some ({Area:=u,Prefix:=x,Suffix:=y,Stroke:=v},ok))(I:Gc N a=some A):D3 N [a,b] z0=some ({Area:=a,Prefix:=x,Suffix:=y,Stroke:=v},ok&&A&&decide (a.length < b.length)):=by
 unfold D3;have e:decide ((a.length:Int) < (b.length:Int))=decide (a.length < b.length):=by rw[decide_eq_decide];omega
 have J:idx [a,b] 0=some a:=rfl;have M:idx [a,b] 1=some b:=rfl;rw[J,M];simp only[oS,G,I];clear G I;rw[e];generalize decide (a.length < b.length)=D;cases ok <;> cases A <;> rfl
theorem WB{a b:X6}{z0:X6->Option (Bl×Bool)}{x y u v:X6}{A ok:Bool}(G:z0 a=some ({Area:=u,Prefix:=x,Suffix:=y,Stroke:=v},ok))(I:EH N b=some A):D2 N [a,b] z0=some ({Area:=u,Prefix:=x,Suffix:=y,Stroke:=b},ok&&A):=by
 unfold D2;have J:idx [a,b] 0=some a:=rfl;have M:idx [a,b] 1=some b:=rfl;rw[J,M];simp only[oS,G,I];clear G I;cases ok <;> cases A <;> rfl
theorem WA{a b c:X6}{z0:X6->Option (Bl×Bool)}{x y u v:X6}{A B ok:Bool}(G:z0 b=some ({Area:=u,Prefix:=x,Suffix:=y,Stroke:=v},ok))(I:Gc N a=some A)(J:EH N c=some B):D0 N [a,b,c] z0=some ({Area:=a,Prefix:=x,Suffix:=y,Stroke:=c},ok&&A&&B):=by
 unfold D0;have M:idx [a,b,c] 0=some a:=rfl;have O:idx [a,b,c] 1=some b:=rfl;have U:idx [a,b,c] 2=some c:=rfl;rw[M,O,U];simp only[oS,G,I,J];clear G I J;cases ok <;> cases A <;> cases B <;> rfl
theorem VC{w:X6}(hs:w.length<=16)(hN:16 < N):∃ x y,D4 N [w] (fun G=>AM N G)=some ({Area:=[],Prefix:=x,Suffix:=y,Stroke:=[]},BJ w)/\(BJ w=true->x=w.take (Br w)/\y=w.drop (Br w)):=by
 obtain⟨x,y,I,J⟩:=Lj (w:=w) (N:=N) (by omega) (by omega);exact⟨x,y,WD (z0:=fun G=>AM N G) I,J⟩
theorem VB{a b:X6}(ha:a.length<=16)(hb:b.length<=16)(hN:16 < N):∃ x y,D3 N [a,b] (fun G=>AM N G)=some ({Area:=a,Prefix:=x,Suffix:=y,Stroke:=[]},BJ b&&Fo a&&decide (a.length < b.length))/\(BJ b=true->x=b.take (Br b)/\y=b.drop (Br b)):=by
 obtain⟨x,y,I,J⟩:=Lj (w:=b) (N:=N) (by omega) (by omega);exact⟨x,y,WC (z0:=fun G=>AM N G) I (RZ (N:=N) (s:=a) (by omega) (by omega)),J⟩
theorem VA{a b:X6}(ha:a.length<=16)(hb:b.length<=16)(hN:16 < N):∃ x y,D2 N [a,b] (fun G=>AM N G)=some ({Area:=[],Prefix:=x,Suffix:=y,Stroke:=b},BJ a&&DE b)/\(BJ a=true->x=a.take (Br a)/\y=a.drop (Br a)):=by
 obtain⟨x,y,I,J⟩:=Lj (w:=a) (N:=N) (by omega) (by omega);exact⟨x,y,WB (z0:=fun G=>AM N G) I (QW (N:=N) (s:=b) (by omega) (by omega)),J⟩
theorem Vz{a b c:X6}(ha:a.length<=16)(hb:b.length<=16)(hc:c.length<=16)(hN:16 < N):∃ x y,D0 N [a,b,c] (fun G=>AM N G)=some ({Area:=a,Prefix:=x,Suffix:=y,Stroke:=c},BJ b&&Fo a&&DE c)/\(BJ b=true->x=b.take (Br b)/\y=b.drop (Br b)):=by
 obtain⟨x,y,I,J⟩:=Lj (w:=b) (N:=N) (by omega) (by omega);exact⟨x,y,WA (z0:=fun G=>AM N G) I (RZ (N:=N) (s:=a) (by omega) (by omega)) (QW (N:=N) (s:=c) (by omega) (by omega)),J⟩
def RC(ws:List X6)(fm:BK):Option (Bl×Bool):=if fm.words_=(ws.length:Int)then match fm.split_ ws with
 | some (p,true)=>some (p,true)
 | _=>none
 else none
theorem RE{s:X6}{ws:List X6}(hle:∀ w,w∈ws->w.length<=16)(hN:4 < N)(J M O U:List X6->Option (Bl×Bool))
  (H2:∀ w:X6,w.length<=16->∃ x y,J [w]=some ({Area:=[],Prefix:=x,Suffix:=y,Stroke:=[]},BJ w)/\(BJ w=true->x=w.take (Br w)/\y=w.drop (Br w)))
  (H3:∀ a b:X6,a.length<=16->b.length<=16->∃ x y,M [a,b]=some ({Area:=a,Prefix:=x,Suffix:=y,Stroke:=[]},BJ b&&Fo a&&decide (a.length < b.length))/\(BJ b=true->x=b.take (Br b)/\y=b.drop (Br b)))
  (H4:∀ a b:X6,a.length<=16->b.length<=16->∃ x y,O [a,b]=some ({Area:=[],Prefix:=x,Suffix:=y,Stroke:=b},BJ a&&DE b)/\(BJ a=true->x=a.take (Br a)/\y=a.drop (Br a)))
  (H5:∀ a b c:X6,a.length<=16->b.length<=16->c.length<=16->∃ x y,U [a,b,c]=some ({Area:=a,Prefix:=x,Suffix:=y,Stroke:=c},BJ b&&Fo a&&DE c)/\(BJ b=true->x=b.take (Br b)/\y=b.drop (Br b))):
  ((AJ (Do N s ws [({words_:=1,split_:=J}:BK),{words_:=2,split_:=M},{words_:=2,split_:=O},{words_:=3,split_:=U}]) N 0).bind fun o=>o.k (fun r=>some r) (fun _=>some (zp,false)))=some (match Kf ws with | some t=>(SI t,true) | none=>(zp,false)):=by
 generalize hF:([_,_,_,_]:List BK)=F;have htot:∀ fm,fm∈F->fm.words_=(ws.length:Int)->∃ r,fm.split_ ws=some r:=by
  subst hF;intro fm hfm hw;simp only[xL,List.not_mem_nil,or_false]at hfm;rcases hfm with rfl | rfl | rfl | rfl <;> simp only at hw ⊢
  ·match ws,hw with
   | [w],_=>obtain⟨_,_,h,_⟩:=H2 w (hle w (by simp));exact⟨_,h⟩
  ·match ws,hw with
   | [a,b],_=>obtain⟨_,_,h,_⟩:=H3 a b (hle a (by simp)) (hle b (by simp));exact⟨_,h⟩
  ·match ws,hw with
   | [a,b],_=>obtain⟨_,_,h,_⟩:=H4 a b (hle a (by simp)) (hle b (by simp));exact⟨_,h⟩
  ·match ws,hw with
   | [a,b,c],_=>obtain⟨_,_,h,_⟩:=H5 a b c (hle a (by simp)) (hle b (by simp)) (hle c (by simp));exact⟨_,h⟩
 have hlen:F.length=4:=by subst hF;rfl
 have hb:∀ i (h:i < F.length),Do N s ws F (i:Int)=some ((RC ws F[i]).elim (.next ((i + 1:Nat):Int)) .ret):=by
  intro i h;unfold Do;have hi:idx F (i:Int)=some F[i]:=by unfold idx;rw[if_pos (by omega)];simp[h]
  rw[BZ h,cT,hi,oS,DL i (by omega)];have htt:=htot _ (yL h);generalize F[i]=fm at htt;unfold RC;by_cases hw:fm.words_=(ws.length:Int)
  ·obtain⟨⟨p,ok⟩,hr⟩:=htt hw;rw[if_pos hw,show(fm.words_ !=(ws.length:Int))=false by simp[hw],cF,hr];cases ok <;> rfl
  ·rw[if_neg hw,show(fm.words_ !=(ws.length:Int))=true by simp[hw],cT];rfl
 have he:Do N s ws F (F.length:Int)=some (.done (F.length:Int)):=by
  unfold Do;rw[Cz,cF]
 rw[R3 (l:=F) (RC ws) hb he (by omega)];subst hF
 match ws,hle with
 | [],_=>rfl
 | [w],hle=>
  obtain⟨x,y,G,I⟩:=H2 w (hle w (by simp));unfold Kf;have e:(([w]:List X6).length:Int)=1:=rfl;simp only[wC,wO,RC,e,G];cases hB:BJ w with
  | false=>rfl
  | true=>obtain⟨rfl,rfl⟩:=I hB;rfl
 | [a,b],hle=>
  have ha:=hle a (by simp);have hb:=hle b (by simp);obtain⟨x,y,G,I⟩:=H3 a b ha hb;obtain⟨x',y',Y,Z⟩:=H4 a b ha hb;unfold Kf;have e:(([a,b]:List X6).length:Int)=2:=rfl;simp only[wC,wO,RC,e,G,Y];clear G Y H2 H3 H4 H5 htot hlen hb he;generalize decide (a.length < b.length)=D;generalize Fo a=A;generalize DE b=S;cases hB:BJ b with
  | false=>
   cases hA:BJ a with
   | false=>cases A <;> cases D <;> rfl
   | true=>
    obtain⟨rfl,rfl⟩:=Z hA;cases A <;> cases D <;> cases S <;> rfl
  | true=>
   obtain⟨rfl,rfl⟩:=I hB;cases hA:BJ a with
   | false=>cases A <;> cases D <;> rfl
   | true=>
    obtain⟨rfl,rfl⟩:=Z hA;cases A <;> cases D <;> cases S <;> rfl
 | [a,b,c],hle=>
  have ha:=hle a (by simp);have hb:=hle b (by simp);have hc:=hle c (by simp);obtain⟨x,y,G,I⟩:=H5 a b c ha hb hc;unfold Kf;have e:(([a,b,c]:List X6).length:Int)=3:=rfl;simp only[wC,wO,RC,e,G];clear G H2 H3 H4 H5 htot hlen hb he;generalize Fo a=A;generalize DE c=S;cases hB:BJ b with
  | false=>cases A <;> cases S <;> rfl
  | true=>
   obtain⟨rfl,rfl⟩:=I hB;cases A <;> cases S <;> rfl
 | a::b::c::d::t,_=>
  unfold Kf;have e:∀ k:Int,k<=3->¬ k=((a::b::c::d::t).length:Int):=by intro k hk;simp only[xO];omega
  simp only[wC,wO,RC,if_neg (e 1 (by decide)),if_neg (e 2 (by decide)),if_neg (e 3 (by decide))];rfl
theorem Vw(s:X6)(hN:4294967300 < N):JY N s=some (RF s):=by
 unfold JY RF callB;by_cases hl:s.length<=16
 ·rw[decide_eq_false (by omega),cF,if_pos hl,SN 47 (by omega),oS];have hle:=P0 47 s;generalize pcs 47 s=ws at hle;unfold Mx;rw[oS];exact RE (fun w h=>wJ (hle w h) hl) (by omega) _ _ _ _ (fun w h=>VC h (by omega)) (fun a b h h'=>VB h h' (by omega)) (fun a b h h'=>VA h h' (by omega)) (fun a b c h h' h''=>Vz h h' h'' (by omega))
 ·rw[decide_eq_true (by omega),cT,if_neg hl];rfl
def Wa(s:X6):X6×X6×X6×Bool:=match callB s with
 | some t=>(t.1,t.2.1,t.2.2,true)
 | none=>([],[],[],false)
theorem Ua(s:X6)(hN:4294967300 < N):G3 N s=some (Wa s):=by
 unfold G3 Wa callB;by_cases hl:s.length<=16
 ·rw[decide_eq_false (by omega),cF,if_pos hl,Tn s (by omega) (by omega),oS];have hle:=P0 47 s;generalize pcs 47 s=ws at hle
  match ws,hle with
  | [],_=>rfl
  | [w],hle=>
   have hw:=hle w (by simp);have G:=Nx (N:=N) (s:=w) (by omega) (by omega);simp only[show((([w]:List X6).length:Int)==1)=true from rfl,show((([w]:List X6).length:Int)==2)=false from rfl,show((([w]:List X6).length:Int)==3)=false from rfl,cT,cF,show idx [w] 0=some w from rfl,oS,G,Kf];cases BJ w <;> rfl
  | [a,b],hle=>
   have ha:=hle a (by simp);have hb:=hle b (by simp);have G:=Nx (N:=N) (s:=a) (by omega) (by omega);have I:=Nx (N:=N) (s:=b) (by omega) (by omega);have J:=SK (N:=N) (s:=a) (by omega) (by omega);have M:=Pq (N:=N) (s:=b) (by omega) (by omega);have e:decide ((a.length:Int) < (b.length:Int))=decide (a.length < b.length):=by rw[decide_eq_decide];omega
   simp only[show((([a,b]:List X6).length:Int)==1)=false from rfl,show((([a,b]:List X6).length:Int)==2)=true from rfl,show((([a,b]:List X6).length:Int)==3)=false from rfl,cT,cF,show idx [a,b] 0=some a from rfl,show idx [a,b] 1=some b from rfl,oS,G,I,J,M,e,Kf];cases Fo a <;> cases BJ b <;> cases decide (a.length < b.length) <;> cases BJ a <;> cases DE b <;> rfl
  | [a,b,c],hle=>
   have ha:=hle a (by simp);have hb:=hle b (by simp);have hc:=hle c (by simp);have I:=Nx (N:=N) (s:=b) (by omega) (by omega);have J:=SK (N:=N) (s:=a) (by omega) (by omega);have M:=Pq (N:=N) (s:=c) (by omega) (by omega);simp only[show((([a,b,c]:List X6).length:Int)==1)=false from rfl,show((([a,b,c]:List X6).length:Int)==2)=false from rfl,show((([a,b,c]:List X6).length:Int)==3)=true from rfl,cT,cF,show idx [a,b,c] 0=some a from rfl,show idx [a,b,c] 1=some b from rfl,show idx [a,b,c] 2=some c from rfl,oS,I,J,M,Kf];cases Fo a <;> cases BJ b <;> cases DE c <;> rfl
  | a::b::c::d::t,_=>
   have e:∀ k:Int,k<=3->(((a::b::c::d::t).length:Int)==k)=false:=by intro k hk;rw[beq_eq_false_iff_ne];simp;omega
   simp only[e 1 (by decide),e 2 (by decide),e 3 (by decide),cF,oS,Kf]
 ·rw[decide_eq_true (by omega),cT,if_neg hl]
end
section
def Tk(a:Nat)(l:X6):Nat:=l.foldl (fun a b=>10 * a + (b.toNat - 48)) a
def MW(l:X6):Nat:=Tk 0 l
theorem Pp(a:Nat)(b:UInt8)(l:X6):Tk a (b::l)=Tk (10 * a + (b.toNat - 48)) l:=by unfold Tk;rw[List.foldl_cons]
theorem VH{b:UInt8}(h:isD b=true):48<=b.toNat/\b.toNat<=57:=by
 unfold isD at h
 simpa only [xA,decide_eq_true_eq]using h
theorem Vt(l:X6):∀(a k:Nat),l.all isD=true->a < 10 ^ k->Tk a l < 10 ^ (k + l.length):=by
 induction l with
 | nil=>intro a k _ h;exact h
 | cons b l ih=>
  intro a k hd h;rw[Pp];simp only[yX,xA]at hd;have hb:=VH hd.1;have hp:10 ^ (k + 1)=10 ^ k * 10:=Nat.pow_succ ..
  have:=ih (10 * a + (b.toNat - 48)) (k + 1) hd.2 (by omega);rw[xO,show k + (l.length + 1)=k + 1 + l.length by omega];exact this
theorem Vq{l:X6}(h:l.all isD=true):MW l < 10 ^ l.length:=by
 have:=Vt l 0 0 h (by decide)
 simpa [MW]using this
theorem dig{b:UInt8}(h:isD b=true):Go.Lib.digitVal b=some (b.toNat - 48):=by
 unfold isD at h;simp only[xA,decide_eq_true_eq]at h;unfold Go.Lib.digitVal;rw[if_pos h]
theorem Lt:∀(l:X6)(a:Nat),l.all isD=true->Go.Lib.decFrom a l=some (Tk a l)
 | [],a,_=>rfl
 | b::l,a,h=>by
  simp only[yX,xA]at h;unfold Go.Lib.decFrom;rw[dig h.1,Pp,Nat.mul_comm 10 a];exact Lt l _ h.2
theorem UK{l:X6}(h:l.all isD=true)(hn:1<=l.length):Go.Lib.atoi l=some (MW l:Int):=by
 match l,h,hn with
 | b::r,h,_=>
  have hb:=h;simp only[yX,xA]at hb;have G:(b==45)=false:=by rw[beq_eq_false_iff_ne];rintro rfl;exact absurd hb.1 (by decide)
  have I:(b==43)=false:=by rw[beq_eq_false_iff_ne];rintro rfl;exact absurd hb.1 (by decide)
  unfold Go.Lib.atoi;simp only[G,I,xR,if_false];unfold Go.Lib.decNat;simp only[List.isEmpty_cons,xR,if_false];rw[Lt _ _ h];rfl
def Ma(s:X6):Bool:=s.all isD&&wiB s.length 1 9
def Vr(s:X6):Int:=if Ma s=true then(MW s:Int)else -1
theorem Vm{k:Nat}(h:k<=9):10 ^ k<=1000000000:=wJ (Nat.pow_le_pow_right (by decide) h) (by decide)
theorem Nw{s:X6}(h:Ma s=true):MW s < 1000000000/\1<=s.length/\s.length<=9/\s.all isD=true:=by
 unfold Ma wiB at h;simp only[xA,decide_eq_true_eq]at h;exact⟨zC (Vq h.1) (Vm h.2.2),h.2.1,h.2.2,h.1⟩
section
variable {N:Nat} {s:X6}
theorem N5(hN:s.length < N):Cx N s=some (Vr s):=by
 unfold Cx Vr;rw[HI (SG N) s 9 hN,oS,show(decide ((1:Int)<=(s.length:Int))&&decide ((s.length:Int)<=(9:Int)))=wiB s.length 1 9 from GD _ 1 9];have e:(s.all isD&&wiB s.length 1 9)=Ma s:=rfl;rw[e];cases h:Ma s with
 | false=>rfl
 | true=>
  have hl:=Nw h;rw[xP,cF,if_pos rfl];unfold ES;rw[if_pos (by omega),Go.Lib.atoiAll_short s (by omega),UK hl.2.2.2 hl.2.1];rfl
end
def Ri(d:Nat):UInt8:=UInt8.ofNat (48 + d)
theorem Rh{d:Nat}(h:d < 10):(Ri d).toNat=48 + d:=by unfold Ri;rw[UInt8.toNat_ofNat'];omega
theorem SU{d:Nat}(h:d < 10):isD (Ri d)=true:=by unfold isD;rw[Rh h];simp;omega
theorem Lv{u:Nat}(h:u < 10):decDigits u=[Ri u]:=by rw[decDigits,dif_pos h];rfl
theorem Sb{u:Nat}(h:¬ u < 10):decDigits u=decDigits (u / 10)++[Ri (u % 10)]:=by
 conv=>lhs;rw[decDigits,dif_neg h]
 rfl
theorem WG(u:Nat):1<=(decDigits u).length:=by
 by_cases h:u < 10
 ·rw[Lv h];simp
 ·rw[Sb h];simp
theorem WH(u:Nat):(decDigits u).all isD=true:=by
 induction u using Nat.strongRecOn with
 | _ u ih=>
  by_cases h:u < 10
  ·rw[Lv h];simp[SU h]
  ·rw[Sb h,zI,ih (u / 10) (by omega)];simp[SU (Nat.mod_lt u (by decide:0 < 10))]
theorem Qk:∀(k u:Nat),u < 10 ^ (k + 1)->(decDigits u).length<=k + 1
 | 0,u,h=>by rw[Lv (by simpa using h)];simp
 | k + 1,u,h=>by
  by_cases hu:u < 10
  ·rw[Lv hu];simp
  ·rw[Sb hu,xJ];have:=Qk k (u / 10) (by rw[Nat.pow_succ]at h;omega);simp;omega
def dP(k u:Nat):X6:=List.replicate (k - (decDigits u).length) 48++decDigits u
theorem Se(k u:Nat):(dP k u).all isD=true:=by
 unfold dP;rw[zI,WH,Bool.and_true,xQ];intro b hb;rw[List.eq_of_mem_replicate hb];decide
theorem Ql(k u:Nat):k<=(dP k u).length/\1<=(dP k u).length:=by
 unfold dP;have:=WG u;rw[xJ,wT];omega
theorem Lw{k j u:Nat}(h:u < 10 ^ (j + 1)):(dP k u).length<=max k (j + 1):=by
 unfold dP;have:=Qk j u h;rw[xJ,wT];omega
theorem Sz:∀ n,Go.Lib.repeatL [48] n=List.replicate n 48
 | 0=>rfl
 | n + 1=>by unfold Go.Lib.repeatL;rw[Sz n];rfl
section
variable {N:Nat}
theorem Uf(u:Nat)(h:u<=1000000000):strconv_Itoa N (u:Int)=some (decDigits u):=by
 unfold strconv_Itoa;rw[if_pos (by omega),Go.Lib.itoa_nonneg]
theorem N4(u k:Nat)(h:u<=1000000000)(hk:k<=100):B1 N (u:Int) (k:Int)=some (dP k u):=by
 unfold B1;rw[Uf u h,oS];have hl:(decDigits u).length<=10:=Qk 9 u (by omega);rw[D6 (by omega) (by omega)];have e:max (0:Int) ((k:Int) - ((decDigits u).length:Int))=((k - (decDigits u).length:Nat):Int):=by omega
 rw[e];unfold strings_Repeat;rw[if_pos (by simp;omega),oS,yN,Sz];rw[JO (by simp;omega)];rfl
end
end
section
def VY(u:Nat):X6:=decDigits (u / 1440 + 1)++32::(dP 2 (u / 60 % 24)++dP 2 (u % 60))
def Ik(x:Int):X6×Int:=if 0<=x/\x<=20000 then(VY x.toNat,0)else([],1)
theorem TI(u k:Nat)(h:u < 4611686018427387904):W64 (Int.tdiv (u:Int) (k:Int))=((u / k:Nat):Int):=by
 have:Int.tdiv (u:Int) (k:Int)=((u / k:Nat):Int):=by rw[Int.tdiv_eq_ediv_of_nonneg (by omega)];rfl
 have G:u / k<=u:=Nat.div_le_self _ _;rw[this];generalize u / k=v at G;rw[D6 (by omega) (by omega)]
theorem TH(u k:Nat):Int.tmod (u:Int) (k:Int)=((u % k:Nat):Int):=by
 rw[Int.tmod_eq_emod_of_nonneg (by omega)];rfl
theorem VQ{u:Nat}(h:u < 100000):(decDigits u).length<=5:=Qk 4 u (by omega)
theorem ST{u:Nat}(h:u < 100):(dP 2 u).length=2:=by
 have h1:=Ql 2 u;have h2:=Lw (k:=2) (j:=1) (u:=u) (by omega);omega
section
variable {N:Nat}
theorem QK(x:Int):Dy N x=some (Ik x):=by
 unfold Dy Ik;rw[N2,oS];by_cases h:0<=x/\x<=20000
 ·rw[if_pos h,decide_eq_true h.1,decide_eq_true h.2];obtain⟨u,rfl⟩:∃ u:Nat,x=u:=⟨x.toNat,by omega⟩;have hu:u<=20000:=by omega
  simp only[Bool.and_self,xP,cF];have G:=TI u 1440 (by omega);have I:=TI u 60 (by omega);simp only[wP]at G I;have J:=TH (u / 60) 24;have M:=TH u 60;simp only[wP]at J M;rw[G,I,J,M,DL (u / 1440) (by omega),Uf _ (by omega),oS];have h0:=VQ (u:=u / 1440 + 1) (by omega);have h1:=ST (u:=u / 60 % 24) (by omega);have h2:=ST (u:=u % 60) (by omega);have p1:=N4 (N:=N) (u / 60 % 24) 2 (by omega) (by omega);have O:=N4 (N:=N) (u % 60) 2 (by omega) (by omega);simp only[wP]at p1 O;rw[JO (by simp;omega),oS,p1,oS,JO (by simp;omega),oS,O,oS,JO (by simp;omega),oS];unfold VY;simp
 ·rw[if_neg h];have:(decide (0<=x)&&decide (x<=20000))=false:=by
   rw[Bool.and_eq_false_iff,decide_eq_false_iff_not,decide_eq_false_iff_not];omega
  rw[this];rfl
def OO(p q:Nat):Nat:=(p - 1) * 1440 + q / 100 * 60 + q % 100
theorem UX{p q:Nat}(h1:1<=p)(hp:p < 1000000000)(hq:q < 1000000000):W64 ((W64 ((W64 ((W64 ((p:Int) - 1)) * 1440)) + (W64 ((W64 (Int.tdiv (q:Int) 100)) * 60)))) + (Int.tmod (q:Int) 100))=(OO p q:Int):=by
 have G:=TI q 100 (by omega);have I:=TH q 100;simp only[wP]at G I;rw[G,I,D6 (n:=(p:Int) - 1) (by omega) (by omega),D6 (n:=((p:Int) - 1) * 1440) (by omega) (by omega),D6 (n:=((q / 100:Nat):Int) * 60) (by omega) (by omega)];rw[D6 (n:=((p:Int) - 1) * 1440 + ((q / 100:Nat):Int) * 60) (by omega) (by omega),D6 (by omega) (by omega)];unfold OO;omega
def NX(s a b:X6):Int×Int:=if Ma a&&Ma b&&decide (1<=MW a)&&decide (Ik (OO (MW a) (MW b))=(s,0))then((OO (MW a) (MW b):Int),0)else(0,13)
def RX(s:X6):Int×Int:=match pcs 32 s with
 | [a,b]=>NX s a b
 | _=>(0,13)
theorem Tl{s:X6}(h:(32:UInt8)∈s):Ma s=false:=by
 cases hh:Ma s with
 | false=>rfl
 | true=>
  have:=xQ.1 (Nw hh).2.2.2 _ h
  revert this;decide
theorem T8:Ma []=false:=rfl
theorem T6(s t:X6)(e:Int):((e !=0)||(t !=s))= !decide ((t,e)=(s,0)):=by
 by_cases G:e=0
 ·by_cases I:t=s
  ·subst G;subst I;simp
  ·rw[decide_eq_false (fun h=>I (by injection h))];simp[I]
 ·rw[decide_eq_false (fun h=>G (by injection h))];simp[G]
theorem Pn(s a b:X6)(ha:a.length < N)(hb:b.length < N):
  ((Cx N a).bind fun I=>((Cx N b).bind fun G=>(bif((decide (I < 1))||((decide (I > 20000))||(decide (G < 0))))then some ((0:Int),(13:Int))else((Dy N (W64 ((W64 ((W64 ((W64 (I - 1)) * 1440)) + (W64 ((W64 (Int.tdiv G 100)) * 60)))) + (Int.tmod G 100)))).bind fun O=>(bif((O.2 !=0)||(O.1 !=s))then some (0,13)else some ((W64 ((W64 ((W64 ((W64 (I - 1)) * 1440)) + (W64 ((W64 (Int.tdiv G 100)) * 60)))) + (Int.tmod G 100))),0))))))=some (NX s a b):=by
 rw[N5 ha,N5 hb,oS,oS];unfold Vr NX;cases hA:Ma a with
 | false=>
  simp only[xR,if_false,Bool.false_and];rfl
 | true=>
  cases hB:Ma b with
  | false=>
   simp only[xR,if_false,if_true,wQ,Bool.false_and];rw[show decide ((-1:Int) < 0)=true from rfl,wX,wX];rfl
  | true=>
   simp only[if_true,Bool.and_self,yM];have hp:=Nw hA;have hq:=Nw hB;generalize MW a=p at hp ⊢;generalize MW b=q at hq ⊢;by_cases J:1<=p
   ·rw[decide_eq_false (show ¬ (p:Int) < 1 by omega),decide_eq_true J,decide_eq_false (show ¬ (q:Int) < 0 by omega),zQ,Bool.or_false,yM,UX J hp.1 hq.1];by_cases U:p<=20000
    ·rw[decide_eq_false (show ¬ (p:Int) > 20000 by omega),cF,QK,oS,T6];have:((Ik (OO p q:Int)).1,(Ik (OO p q:Int)).2)=Ik (OO p q:Int):=rfl;rw[this];by_cases M:Ik (OO p q:Int)=(s,0)
     ·rw[decide_eq_true M,if_pos rfl];rfl
     ·rw[decide_eq_false M];rfl
    ·rw[decide_eq_true (show(p:Int) > 20000 by omega),cT];have M:¬ Ik (OO p q:Int)=(s,0):=by
      unfold Ik OO;rw[if_neg (by omega)];intro h;injection h with J U;exact absurd U (by decide)
     rw[decide_eq_false M];rfl
   ·rw[decide_eq_true (show(p:Int) < 1 by omega),decide_eq_false J];rfl
theorem NW{s a b:X6}(h:Ma b=false):NX s a b=(0,13):=by unfold NX;rw[h];simp
theorem QL(s:X6)(hs:s.length < 4294967281)(hN:4294967300 < N):GV N s=some (RX s):=by
 unfold GV;have hc:strings_Cut N s [32]=some (Go.Lib.cut s [32]):=by unfold strings_Cut;rw[if_pos hs]
 rw[hc,oS];unfold RX;by_cases h:(32:UInt8)∈s
 ·obtain⟨a,t,rfl,ha⟩:=ET h;simp only[xJ,xO]at hs;rw[UC ha,Lb ha];simp only;rw[Pn _ a t (by omega) (by omega)];by_cases ht:(32:UInt8)∈t
  ·obtain⟨a',t',rfl,ha'⟩:=ET ht;rw[Lb ha',NW (Tl ht)];cases hp:pcs 32 t' with
   | nil=>exact absurd hp (T3 32 t')
   | cons x l=>rfl
  ·rw[Jb ht]
 ·rw[UD h,Jb h];simp only;rw[Pn _ s [] (by omega) (by simp;omega),NW T8]
end
end
theorem Q4{ρ:Type}{body:Int->Option (Ba ρ Int)}{n:Nat}(ok:Nat->Bool)(bad:Nat->ρ)
  (hb:∀ i,i < n->body (i:Int)=some (bif ok i then .next ((i + 1:Nat):Int)else .ret (bad i))) (he:body (n:Int)=some (.done (n:Int))) {N:Nat} (hN:n < N):
  ((∀ i,i < n->ok i=true)/\AJ body N 0=some (.done (n:Int)))\/(∃ i,i < n/\ok i=false/\(∀ k,k < i->ok k=true)/\AJ body N 0=some (.ret (bad i))):=by
 obtain⟨o,ho,hR⟩:=D8 (body:=body) n (fun i s=>s=(i:Int)/\ ∀ k,k < i->ok k=true) (fun o=>((∀ i,i < n->ok i=true)/\o=.done (n:Int))\/(∃ i,i < n/\ok i=false/\(∀ k,k < i->ok k=true)/\o=.ret (bad i))) (by
  rintro i s hi ⟨rfl,hk⟩;by_cases h:i < n
  ·rw[hb i h];cases e:ok i with
   | true=>
    refine .inl ⟨_,rfl,⟨rfl,fun k hk'=>?_⟩,h⟩;by_cases hki:k=i
    ·subst hki;exact e
    ·exact hk k (by omega)
   | false=>exact .inr ⟨_,rfl,(fun _ h=>by cases h),.inr ⟨i,h,e,hk,rfl⟩⟩
  ·have:i=n:=by omega
   subst this;rw[he];exact .inr ⟨_,rfl,(fun _ h=>by cases h),.inl ⟨hk,rfl⟩⟩) n N 0 0 (by omega) ⟨rfl,fun k hk=>by omega⟩ hN
 rcases hR with⟨G,rfl⟩ | ⟨i,G,I,J,rfl⟩
 ·exact .inl ⟨G,ho⟩
 ·exact .inr ⟨i,G,I,J,ho⟩
theorem UW(i:Nat)(h:i < 4611686018427387904)(h0:0 < i):W64 ((i:Int) - 1)=((i - 1:Nat):Int):=by
 rw[D6 (by omega) (by omega)];omega
section
theorem SJ(s:X6):(s !=[])= !decide (s=[]):=by
 cases s <;> rfl
def jn(l:List X6):X6:=Go.Lib.join l [32]
theorem Wt:jn []=[]:=rfl
theorem Ws(x:X6):jn [x]=x:=Go.Lib.join_one x [32]
section
variable {N:Nat}
theorem W2(a b:X6)(hN:4294967300 < N):FL N [a,b]=some (if a=[]then b else a):=by
 obtain⟨M,rfl⟩:∃ M,N=M + 3:=⟨N - 3,by omega⟩;unfold FL;by_cases ha:a=[]
 ·rw[if_pos ha];by_cases hb:b=[]
  ·subst ha;subst hb;rfl
  ·have G:CX (M + 3) [a,b] 0=some (.next 1):=by subst ha;rfl
   have I:CX (M + 3) [a,b] 1=some (.ret b):=by
    show(bif(b !=([]:X6))then some (.ret b)else some (.next (W64 (1 + 1))))=some (Ba.ret b);rw[SJ,decide_eq_false hb];rfl
   rw[AJ,G];simp only;rw[AJ,I];rfl
 ·rw[if_neg ha];have G:CX (M + 3) [a,b] 0=some (.ret a):=by
   show(bif(a !=([]:X6))then some (.ret a)else some (.next (W64 (0 + 1))))=some (Ba.ret a);rw[SJ,decide_eq_false ha];rfl
  rw[AJ,G];rfl
theorem MX{l:List AV}{p:AV->Option Bool}(F:AV->Bool)(hp:∀ x,x∈l->p x=some (F x))(hl:l.length < 4000000000)(hN:4294967300 < N):A3 N l p=some (l.any F):=by
 unfold A3 Bz;rcases Q4 (body:=AU N l p) (n:=l.length) (fun i=>!((l[i]?.map F).getD false)) (fun i=>(i:Int)) (by
   intro i hi;unfold AU;rw[BZ hi,cT,AN hi,oS,hp _ (yL hi),oS,DL i (by omega),xB hi];simp only[wM,Option.getD_some];cases F l[i] <;> rfl) (by
   unfold AU;rw[Cz,cF]) (N:=N) (by omega)with⟨G,I⟩ | ⟨i,hi,G,_,I⟩
 ·rw[I];have:l.any F=false:=by
   rw[List.any_eq_false];intro x hx;obtain⟨i,hi,rfl⟩:=List.getElem_of_mem hx;have:=G i hi;rw[xB hi]at this
   simpa using this
  rw[this];rfl
 ·rw[I];have:l.any F=true:=by
   rw[List.any_eq_true];rw[xB hi]at G;exact⟨l[i],yL hi,by simpa using G⟩
  rw[this];show some (decide ((i:Int)>=0))=some true;rw[decide_eq_true (by omega)]
def Ni(h:Bool)(n m:Int):Bool:=bif h then(decide (1<=n)&&decide (n<=m))else n==0
def Dz(L:Ac)(E:Ae):Bool:=Ni L.Report E.Report 599&&(Ni L.Serial E.Serial 99999&&Ni L.Zone E.Zone 99)
theorem Wk(P:AV):Cj N P=some (!Ni P.has_ P.n_ P.most_):=by
 unfold Cj Ni;rw[N2,oS];obtain⟨h,n,m,d⟩:=P;simp only;cases h with
 | true=>cases(decide (1<=n)&&decide (n<=m)) <;> rfl
 | false=>
  by_cases hn:n=0
  ·subst hn;rw[show(decide ((1:Int)<=0)&&decide (0<=m))=false by rw[decide_eq_false (by omega)];rfl];rfl
  ·have G:(n !=0)=true:=by simpa using hn
   have I:(n==0)=false:=by simpa using hn
   rw[G,I];cases(decide (1<=n)&&decide (n<=m)) <;> rfl
theorem I6(L:Ac)(E:Ae)(hN:4294967300 < N):Cb N L E=some (Dz L E):=by
 unfold Cb;unfold C3;rw[oS,MX (fun P=>!Ni P.has_ P.n_ P.most_) (fun x _=>Wk x) (by simp) hN,oS];unfold Dz;simp
theorem JP(L:Ac)(E:Ae):Cf N L E=some (Dz L E):=by
 unfold Cf Dz;have h:∀(b:Bool)(n m:Int),Gz N b n m=some (Ni b n m):=by
  intro b n m;unfold Gz Ni;rw[HJ];cases b <;> rfl
 rw[h,h,h];cases Ni L.Report E.Report 599 <;> cases Ni L.Serial E.Serial 99999 <;> cases Ni L.Zone E.Zone 99 <;> rfl
def fs(L:Ac)(E:Ae):List X6:=(if L.Report=true then[dP 1 E.Report.toNat]else[])++((if L.Serial=true then[dP 3 E.Serial.toNat]else[])++(if L.Zone=true then[dP 2 E.Zone.toNat]else[]))
def VX(L:Ac)(E:Ae):X6:=if fs L E=[]then[45]else jn (fs L E)
def NV(L:Ac)(E:Ae):X6×Int:=if Dz L E=true then(VX L E,0)else([],1)
structure OkE(L:Ac)(E:Ae):Prop where
 r:if L.Report=true then 1<=E.Report/\E.Report<=599 else E.Report=0
 s:if L.Serial=true then 1<=E.Serial/\E.Serial<=99999 else E.Serial=0
 z:if L.Zone=true then 1<=E.Zone/\E.Zone<=99 else E.Zone=0
theorem okE{L:Ac}{E:Ae}(h:Dz L E=true):OkE L E:=by
 unfold Dz Ni at h;simp only[xA]at h;obtain⟨G,I,J⟩:=h;constructor
 ·cases hL:L.Report <;> rw[hL]at G <;> simpa using G
 ·cases hL:L.Serial <;> rw[hL]at I <;> simpa using I
 ·cases hL:L.Zone <;> rw[hL]at J <;> simpa using J
theorem OkE.le{L:Ac}{E:Ae}(h:OkE L E):(0<=E.Report/\E.Report<=599)/\(0<=E.Serial/\E.Serial<=99999)/\0<=E.Zone/\E.Zone<=99:=by
 obtain⟨G,I,J⟩:=h;refine⟨?_,?_,?_⟩
 ·split at G <;> omega
 ·split at I <;> omega
 ·split at J <;> omega
theorem SR{L:Ac}{E:Ae}(h:OkE L E):∀ w,w∈fs L E->w.length<=5/\w.all isD=true/\1<=w.length:=by
 obtain⟨h1,h2,h3⟩:=h.le;intro w hw;unfold fs at hw;simp only[yF]at hw;have l1:=Lw (k:=1) (j:=2) (u:=E.Report.toNat) (by omega);have l2:=Lw (k:=3) (j:=4) (u:=E.Serial.toNat) (by omega);have l3:=Lw (k:=2) (j:=1) (u:=E.Zone.toNat) (by omega);rcases hw with hw | hw | hw
 ·split at hw
  ·simp at hw;subst hw;exact⟨by omega,Se _ _,(Ql _ _).2⟩
  ·cases hw
 ·split at hw
  ·simp at hw;subst hw;exact⟨by omega,Se _ _,(Ql _ _).2⟩
  ·cases hw
 ·split at hw
  ·simp at hw;subst hw;exact⟨by omega,Se _ _,(Ql _ _).2⟩
  ·cases hw
theorem Ut(L:Ac)(E:Ae):(fs L E).length<=3:=by
 unfold fs;split <;> split <;> split <;> simp
theorem Ul:∀ l:List X6,(∀ w,w∈l->w.length<=5)->(jn l).length<=l.length * 6
 | [],_=>by simp[Wt]
 | [x],h=>by rw[Ws];have:=h x (by simp);simp;omega
 | x::y::r,h=>by
  have ih:=Ul (y::r) (fun w hw=>h w (xD _ hw));have hx:=h x (by simp);have:jn (x::y::r)=x++32::jn (y::r):=by
   unfold jn;rw[Go.Lib.join_cons,Go.Lib.join_cons];unfold Go.Lib.joinTail;simp
  rw[this,xJ,xO,xO (a:=x)];omega
theorem Xe{L:Ac}{E:Ae}(h:OkE L E):(jn (fs L E)).length<=18:=by
 have:=Ul (fs L E) (fun w hw=>(SR h w hw).1);have:=Ut L E;omega
theorem W5{l:List X6}(h:∀ w,w∈l->1<=w.length):jn l=[] ↔ l=[]:=by
 constructor
 ·intro hj
  match l,h,hj with
  | [],_,_=>rfl
  | x::r,h,hj=>
   exfalso;unfold jn at hj;rw[Go.Lib.join_cons]at hj;have:=h x (by simp);rw[List.append_eq_nil_iff]at hj;rw[hj.1]at this;exact absurd this (by decide)
 ·rintro rfl;rfl
theorem Wh{n:Int}{k:Nat}(h0:0<=n)(h1:n<=1000000000)(hk:k<=100):B1 N n (k:Int)=some (dP k n.toNat):=by
 obtain⟨u,rfl⟩:∃ u:Nat,n=u:=⟨n.toNat,by omega⟩;exact N4 u k (by omega) hk
def Rb(L:Ac)(E:Ae)(i:Nat):List X6:=if i=0 then(if L.Report=true then[dP 1 E.Report.toNat]else[])else if i=1 then(if L.Serial=true then[dP 3 E.Serial.toNat]else[])else(if L.Zone=true then[dP 2 E.Zone.toNat]else[])
theorem Wy(L:Ac)(E:Ae):cat 3 (Rb L E)=fs L E:=by
 rw[JA,JA,JA];unfold fs;rw[<-xY];rfl
theorem Uu(L:Ac)(E:Ae)(i:Nat):(Rb L E i).length<=1:=by
 unfold Rb;split
 ·split <;> simp
 ·split <;> split <;> simp
theorem TO(L:Ac)(E:Ae)(hN:4294967300 < N):BL N L E=some (NV L E):=by
 unfold BL NV;rw[I6 L E hN,oS];cases hv:Dz L E with
 | false=>rfl
 | true=>
  have ok:=okE hv;obtain⟨M,O,U⟩:=ok.le;rw[xP,cF,if_pos rfl];unfold C3;rw[oS];generalize hP:([_,_,_]:List AV)=P;have hstep:∀(i:Nat)(s:List X6),i < 3->s.length + 1<=0 + 3 * 1->B7 N L E true P (s,(i:Int))=some (.next (s++Rb L E i,((i + 1:Nat):Int))):=by
   intro i s hi hs;have p1:B1 N E.Report 1=some (dP 1 E.Report.toNat):=Wh (k:=1) M.1 (by omega) (by omega);have Y:B1 N E.Serial 3=some (dP 3 E.Serial.toNat):=Wh (k:=3) O.1 (by omega) (by omega);have Z:B1 N E.Zone 2=some (dP 2 E.Zone.toNat):=Wh (k:=2) U.1 (by omega) (by omega);have ha:∀ w:X6,Bm s [w]=some (s++[w]):=fun w=>QB (by simp;omega);unfold B7;subst hP;simp only;rw[DL i (by omega)]
   match i,hi with
   | 0,_=>
    show((bif L.Report then((B1 N E.Report 1).bind fun G=>((Bm s [G]).bind fun I=>some I))else some s).bind fun J=>some (Ba.next (J,_)))=_;rw[p1,oS,ha];unfold Rb;cases L.Report <;> simp
   | 1,_=>
    show((bif L.Serial then((B1 N E.Serial 3).bind fun G=>((Bm s [G]).bind fun I=>some I))else some s).bind fun J=>some (Ba.next (J,_)))=_;rw[Y,oS,ha];unfold Rb;cases L.Serial <;> simp
   | 2,_=>
    show((bif L.Zone then((B1 N E.Zone 2).bind fun G=>((Bm s [G]).bind fun I=>some I))else some s).bind fun J=>some (Ba.next (J,_)))=_;rw[Z,oS,ha];unfold Rb;cases L.Zone <;> simp
  have hend:∀ s:List X6,B7 N L E true P (s,((3:Nat):Int))=some (.done (s,((3:Nat):Int))):=by
   intro s;subst hP;rfl
  rw[To (n:=3) 1 (Rb L E) (fun i _=>Uu L E i) (s0:=[]) hstep hend (by omega),Wy];simp only[wE,oS,Ba.k];have hj:=Xe ok;have hl:=Ut L E;have e1:strings_Join N (fs L E) [32]=some (jn (fs L E)):=by
   unfold strings_Join;exact if_pos ⟨by omega,by unfold jn at hj;omega⟩
  rw[e1,oS,W2 _ _ hN,oS];unfold VX;have:=W5 (fun w hw=>(SR ok w hw).2.2);by_cases hf:fs L E=[]
  ·rw[if_pos hf,if_pos (this.2 hf)]
  ·rw[if_neg hf,if_neg (fun h=>hf (this.1 h))]
def I3(h:Bool)(ws:List X6):List X6×Int:=match h,ws with
 | true,w::r=>(r,Vr w)
 | _,_=>(ws,0)
def L9(L:Ac)(ws:List X6):Ae:={Report:=(I3 L.Report ws).2,Serial:=(I3 L.Serial (I3 L.Report ws).1).2,Zone:=(I3 L.Zone (I3 L.Serial (I3 L.Report ws).1).1).2}
def RW(L:Ac)(s:X6):Ae×Int:=if NV L (L9 L (pcs 32 s))=(s,0)then(L9 L (pcs 32 s),0)else({Report:=0,Serial:=0,Zone:=0},1)
theorem Pd(h:Bool)(ws:List X6):∀ w,w∈(I3 h ws).1->w∈ws:=by
 intro w hw
 match h,ws,hw with
 | true,x::r,hw=>exact xD _ hw
 | true,[],hw=>exact hw
 | false,_,hw=>exact hw
theorem NK(h:Bool)(ws:List X6)(hl:∀ w,w∈ws->w.length < N):(bif(h&&decide ((ws.length:Int) > 0))then((idx ws 0).bind fun G=>((Cx N G).bind fun I=>((sub ws 1 (ws.length:Int)).bind fun J=>some (J,I))))else some (ws,(0:Int)))=some (I3 h ws):=by
 match h,ws,hl with
 | false,_,_=>rfl
 | true,[],_=>rfl
 | true,w::r,hl=>
  have M:idx (w::r) 0=some w:=rfl;have O:sub (w::r) 1 ((w::r).length:Int)=some r:=by
   unfold sub;rw[if_pos ⟨by omega,by simp only[xO];omega,by omega⟩];simp
  rw[decide_eq_true (by simp only[xO];omega),M,O,oS,N5 (hl w (by simp))];rfl
theorem TP(L:Ac)(s:X6)(hs:s.length < 4294967281)(hN:4294967300 < N):EI N L s=some (RW L s):=by
 unfold EI RW;rw[SN 32 hs,oS];have hle:=P0 32 s;generalize pcs 32 s=ws at hle;have hn:∀ w,w∈ws->w.length < N:=fun w hw=>by have:=hle w hw;omega
 have M:∀(E:Ae)(b:Bool),((C3 N L E).bind fun G=>((idx G 0).bind fun I=>(bif I.has_ then some b else some false)))=some (L.Report&&b):=by
  intro E b;show(bif L.Report then some b else some false)=_;cases L.Report <;> rfl
 have O:∀(E:Ae)(b:Bool),((C3 N L E).bind fun G=>((idx G 1).bind fun I=>(bif I.has_ then some b else some false)))=some (L.Serial&&b):=by
  intro E b;show(bif L.Serial then some b else some false)=_;cases L.Serial <;> rfl
 have c2:∀(E:Ae)(b:Bool),((C3 N L E).bind fun G=>((idx G 2).bind fun I=>(bif I.has_ then some b else some false)))=some (L.Zone&&b):=by
  intro E b;show(bif L.Zone then some b else some false)=_;cases L.Zone <;> rfl
 rw[M,oS,NK L.Report ws hn,oS,O,oS];have J:∀ w,w∈(I3 L.Report ws).1->w.length < N:=fun w hw=>hn w (Pd _ _ w hw);rw[NK L.Serial _ J,oS,c2,oS];have U:∀ w,w∈(I3 L.Serial (I3 L.Report ws).1).1->w.length < N:=fun w hw=>J w (Pd _ _ w hw);rw[NK L.Zone _ U,oS];show((BL N L (L9 L ws)).bind _)=_;rw[TO L _ hN,oS,T6];show(bif(!decide (NV L (L9 L ws)=(s,0)))then _ else some (L9 L ws,(0:Int)))=_;by_cases h:NV L (L9 L ws)=(s,0)
 ·rw[decide_eq_true h,if_pos h];rfl
 ·rw[decide_eq_false h,if_neg h];rfl
end
end
def Hn(s:X6):Bool:=(callB s).isSome
section
variable {N:Nat}
theorem U0(s:X6)(hN:4294967300 < N):GU N s=some (Hn s):=by
 unfold GU Hn;rw[Vw s hN,oS];unfold RF;cases callB s <;> rfl
theorem TN(s:X6)(hN:4294967300 < N):Ev N s=some (Hn s):=by
 unfold Ev Hn;rw[Ua s hN,oS];unfold Wa;cases callB s <;> rfl
end
end Go.Proofs.YthljkpeimofbbaaGreatDoor
