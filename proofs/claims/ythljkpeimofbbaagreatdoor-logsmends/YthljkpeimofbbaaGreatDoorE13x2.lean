/- Lemmas, printed by a program and by hand; no statement is proved here. -/
import Derived.Test.YthljkpeimofbbaaGreatDoorE13x1
set_option linter.unusedVariables false
set_option linter.unusedSimpArgs false
set_option linter.unusedSectionVars false
set_option maxHeartbeats 4000000
set_option maxRecDepth 100000
namespace Go.Proofs.YthljkpeimofbbaaGreatDoor
open Go.Lib (decDigits)
def ups(g:Fr)(d:List Deferred):List (Nat×Value)->Fr
 | []=>⟨g.v,d⟩
 | (i,v)::l=>upd (ups g d l) i v
def FI(f:Fr)(d:List Deferred)(l:List (Nat×Value)):Prop:=∃ g,f=ups g d l
theorem X2{f:Fr}{i:Nat}{v:Value}(h:f i=v):upd f i v=f:=by
 subst h;cases f with
 | mk fv fd=>
  simp only[upd,Fr.mk.injEq,and_true];funext j;cases hb:Nat.beq j i with
  | false=>rfl
  | true=>rw[xP hb];rfl
def Eqs(f:Fr):List (Nat×Value)->Prop
 | []=>True
 | (i,v)::l=>f i=v/\Eqs f l
theorem QG{f:Fr}{d:List Deferred}(hd:f.d=d):∀{l:List (Nat×Value)},Eqs f l->f=ups f d l
 | [],_=>by subst hd;rfl
 | (i,v)::l,h=>by
  show f=upd (ups f d l) i v;rw[<-QG hd h.2];exact(X2 h.1).symm
theorem Zd{f:Fr}:∀{l:List (Nat×Value)},l.map (fun p=>f p.1)=l.map (·.2)->Eqs f l
 | [],_=>trivial
 | (i,v)::l,h=>by
  simp only[yH,wE]at h;exact⟨h.1,Zd h.2⟩
theorem kq{α:Type}{a:α}(b:α){c:α}(h:b=c)(k:a=b:=by kernel_rfl):a=c:=k.trans h
theorem fI{f:Fr}{d:List Deferred}{l:List (Nat×Value)}(h:l.map (fun p=>f p.1)=l.map (·.2):=by kernel_rfl)(hd:f.d=d:=by kernel_rfl):FI f d l:=⟨f,QG hd (Zd h)⟩
theorem fJ{f:Fr}{d:List Deferred}{l:List (Nat×Value)}(h:Eqs f l)(hd:f.d=d:=by kernel_rfl):FI f d l:=⟨f,QG hd h⟩
def pkC:Op->Operand | .pick c _ _=>c | _=>.tmp 0
def pkA:Op->Operand | .pick _ a _=>a | _=>.tmp 0
def pkB:Op->Operand | .pick _ _ b=>b | _=>.tmp 0
def XE:Op->Bool | .pick _ _ _=>true | _=>false
theorem Mu{op:Op}(h:XE op=true):op=.pick (pkC op) (pkA op) (pkB op):=by cases op <;> simp_all [XE,pkC,pkA,pkB]
def ldX:Op->Operand | .load _ x=>x | _=>.tmp 0
def ldT:Op->TypeId | .load t _=>t | _=>0
def U0:Op->Bool | .load _ _=>true | _=>false
theorem Iy{op:Op}(h:U0 op=true):op=.load (ldT op) (ldX op):=by cases op <;> simp_all [U0,ldX,ldT]
def pO:Value->Nat | .pointer (some ⟨_,o,_⟩)=>o | _=>0
def sB:Value->Nat | .slice (some ⟨b,_,_⟩) _ _=>b | _=>0
def sO:Value->Nat | .slice (some ⟨_,o,_⟩) _ _=>o | _=>0
def sC:Value->Nat | .slice _ _ c=>c | _=>0
def iK:Value->IntKind | .int k _=>k | _=>.i64
def ixX:Op->Operand | .indexAddr _ x _=>x | _=>.tmp 0
def ixY:Op->Operand | .indexAddr _ _ y=>y | _=>.tmp 0
def ixT:Op->TypeId | .indexAddr t _ _=>t | _=>0
def V3:Op->Bool | .indexAddr _ _ _=>true | _=>false
theorem Ke{op:Op}(h:V3 op=true):op=.indexAddr (ixT op) (ixX op) (ixY op):=by cases op <;> simp_all [V3,ixT,ixX,ixY]
def stX:Op->Operand | .store _ x _=>x | _=>.tmp 0
def stY:Op->Operand | .store _ _ y=>y | _=>.tmp 0
def stT:Op->TypeId | .store t _ _=>t | _=>0
def Ln:Op->Bool | .store _ _ _=>true | _=>false
theorem FC{op:Op}(h:Ln op=true):op=.store (stT op) (stX op) (stY op):=by cases op <;> simp_all [Ln,stT,stX,stY]
def Aay(t:TypeId):Op->Bool | .alloc t'=>Nat.beq t t' | _=>false
theorem Tj{t:TypeId}{op:Op}(h:Aay t op=true):op=.alloc t:=by
 cases op <;> simp only[Aay,xU]at h;rw[xP h]
def bxX:Op->Operand | .box _ x=>x | _=>.tmp 0
def Aax(t:TypeId):Op->Bool | .box t' _=>Nat.beq t t' | _=>false
theorem Ti{t:TypeId}{op:Op}(h:Aax t op=true):op=.box t (bxX op):=by
 cases op <;> simp only[Aax,xU]at h;rw[xP h];rfl
def bsV(P:Program)(f:Fr):Op->Option (TypeId×List Value) | .buildSlice t len parts=>OM P t len (parts.toList.map fun p=>(p.1,fev f p.2)) | _=>none
def bsL:Op->Nat | .buildSlice _ len _=>len | _=>0
def clV(f:Fr):Op->Option (FuncId×List Value)
 | .call c=>(match c.callee with
  | .value f0=>(match fev f f0 with
   | .func (.func g) fi ca=>some (g,fi.toList++c.args.toList.map (fev f)++ca.toList)
   | _=>none)
  | _=>none)
 | _=>none
theorem Ow{P:Program}{w:World}{f:Fr}{op:Op}{ty:TypeId}{g:FuncId}{args:List Value}(h:clV f op=some (g,args))(hok:Ai P g):(As (fev f) op ty).run P w=.ok (.enter g args.toArray) w:=by
 unfold clV at h;split at h
 ·rename_i c;obtain⟨callee,aos,ats⟩:=c;simp only at h;split at h
  ·split at h
   ·rename_i hf;simp only[xL,Prod.mk.injEq]at h;obtain⟨rfl,rfl⟩:=h;exact FO hf hok rfl
   ·cases h
  ·cases h
 ·cases h
section
variable {P:Program} {ro:Option Nat} {n:Nat} {R:Array Oper} {Q:Exit -> Fr -> World -> Prop} {i:Nat} {rest:List Nat} {f:Fr} {w w' w0:World} {F0 F:Mem} {L:List (Option Nat × Obj)}
theorem RWP.valU{v:Value}(ho:ung R i=true)(hy:(As (fev f) (An R i) (ID R i)).run P w=.ok (.value v) w')(k:RWP P ro n R Q rest (Bd f (Bo R i) v) w'):RWP P ro n R Q (i::rest) f w:=Acp (Bw ho) rfl hy k
theorem Pk1{t:Bool}(ht:t=true)(k:RWP P ro n R Q rest (Bd f (Bo R i) (fev f (pkA (An R i)))) w)(hc:fev f (pkC (An R i))=.bool t:=by kernel_rfl)(ho:(ung R i&&XE (An R i))=true:=by kernel_rfl):RWP P ro n R Q (i::rest) f w:=by
 simp only[xB]at ho;refine RWP.valU ho.1 ?_ k;have:=Mu ho.2;rw[this]at hc ⊢;exact OS hc ht rfl
theorem Pk0{t:Bool}(ht:t=false)(k:RWP P ro n R Q rest (Bd f (Bo R i) (fev f (pkB (An R i)))) w)(hc:fev f (pkC (An R i))=.bool t:=by kernel_rfl)(ho:(ung R i&&XE (An R i))=true:=by kernel_rfl):RWP P ro n R Q (i::rest) f w:=by
 simp only[xB]at ho;refine RWP.valU ho.1 ?_ k;have:=Mu ho.2;rw[this]at hc ⊢;exact OT hc ht rfl
def ldV(P:Program)(t:TypeId)(C:Array Value)(o:Nat):Value:=match Gh P t with | some (g,s)=>mkV g (Aw C o s) | none=>undef
def ldK(P:Program)(t:TypeId)(C:Array Value)(o:Nat):Bool:=match Gh P t with | some (g,s)=>Nat.beq (Aw C o s).length s&&(g||s==1) | none=>false
theorem VD{ρ:Operand->Value}{t ty:TypeId}{x:Operand}{b o:Nat}{C:Array Value}{E:TypeId}{fz:Nat×Nat}(hx:ρ x=.pointer (some ⟨b,o,none⟩))(hp:w.heap[b]? =some (.cells C E fz))(hk:ldK P t C o=true):
  (As ρ (.load t x) ty).run P w=.ok (.value (ldV P t C o)) w:=by
 unfold ldK at hk;unfold ldV;split at hk
 ·rename_i g s ht;simp only[xB]at hk;exact Cn hx ht hp (xP hk.1) hk.2 rfl
 ·cases hk
theorem Ld{b:Nat}{C:Array Value}{E:TypeId}{fz:Nat×Nat}(hp:w.heap[b]? =some (.cells C E fz))(k:RWP P ro n R Q rest (Bd f (Bo R i) (ldV P (ldT (An R i)) C (pO (fev f (ldX (An R i)))))) w)
  (hx:fev f (ldX (An R i))=.pointer (some ⟨b,pO (fev f (ldX (An R i))),none⟩):=by kernel_rfl) (ho:(ung R i&&(U0 (An R i)&&ldK P (ldT (An R i)) C (pO (fev f (ldX (An R i))))))=true:=by kernel_rfl):RWP P ro n R Q (i::rest) f w:=by
 simp only[xB]at ho;refine RWP.valU ho.1 ?_ k;have:=Iy ho.2.1;rw[this];exact VD hx hp ho.2.2
def lxV(P:Program)(t:TypeId)(cs:List Value)(j:Nat):Value:=match Gh P t with | some (g,s)=>mkV g ((cs.drop j).take s) | none=>undef
def lxK(P:Program)(t:TypeId)(cs:List Value)(j kk:Nat):Bool:=match Gh P t with | some (g,s)=>decide (j + s<=kk)&&(Nat.beq ((cs.drop j).take s).length s&&(g||s==1)) | none=>false
theorem VB{ρ:Operand->Value}{t ty:TypeId}{x:Operand}{j b o kk:Nat}{C:Array Value}{E:TypeId}{fz:Nat×Nat}{cs:List Value}(hx:ρ x=.pointer (some ⟨b,o + j,none⟩))(hp:w.heap[b]? =some (.cells C E fz))(hc:Aw C o kk=cs)(hk:lxK P t cs j kk=true):
  (As ρ (.load t x) ty).run P w=.ok (.value (lxV P t cs j)) w:=by
 unfold lxK at hk;unfold lxV;split at hk
 ·rename_i g s ht;simp only[xB]at hk;exact OU hx ht hp hc hk.1 ⟨xP hk.2.1,trivial⟩ hk.2.2 rfl
 ·cases hk
theorem Lx(j:Nat){b o kk:Nat}{C:Array Value}{E:TypeId}{fz:Nat×Nat}{cs:List Value}(hp:w.heap[b]? =some (.cells C E fz))(hc:Aw C o kk=cs)(k:RWP P ro n R Q rest (Bd f (Bo R i) (lxV P (ldT (An R i)) cs j)) w)
  (hx:fev f (ldX (An R i))=.pointer (some ⟨b,o + j,none⟩):=by kernel_rfl) (ho:(ung R i&&(U0 (An R i)&&lxK P (ldT (An R i)) cs j kk))=true:=by kernel_rfl):RWP P ro n R Q (i::rest) f w:=by
 simp only[xB]at ho;refine RWP.valU ho.1 ?_ k;have:=Iy ho.2.1;rw[this];exact VB hx hp hc ho.2.2
def elS(P:Program)(t:TypeId):Nat:=match BF P t with | some (_,s,_)=>s | none=>0
theorem Ix{m:Nat}{y:Int}(hi:0<=y/\y < (m:Int))(k:RWP P ro n R Q rest (Bd f (Bo R i) (.pointer (some ⟨sB (fev f (ixX (An R i))),sO (fev f (ixX (An R i))) + y.toNat * elS P (ixT (An R i)),none⟩))) w)
  (hx:fev f (ixX (An R i))=.slice (some ⟨sB (fev f (ixX (An R i))),sO (fev f (ixX (An R i))),none⟩) m (sC (fev f (ixX (An R i)))):=by kernel_rfl) (hy:fev f (ixY (An R i))=.int (iK (fev f (ixY (An R i)))) y:=by kernel_rfl)
  (ho:(ung R i&&(V3 (An R i)&&slQ P (ixT (An R i))))=true:=by kernel_rfl):RWP P ro n R Q (i::rest) f w:=by
 simp only[xB]at ho;obtain⟨I,J,G⟩:=ho;refine RWP.valU I ?_ k;unfold slQ at G;split at G
 ·rename_i q hq;obtain⟨E,s,by_⟩:=q;have es:elS P (ixT (An R i))=s:=by simp[elS,hq]
  rw[es];have e:=Ke J;have:=Co (P:=P) (w:=w) (ty:=ID R i) hx hy hq hi;rw[<-e]at this;exact this
 ·cases G
theorem Ix0{m:Nat}{y:Int}(hi:0<=y/\y < (m:Int))(k:RWP P ro n R Q rest (Bd f (Bo R i) (.pointer (some ⟨sB (fev f (ixX (An R i))),y.toNat * elS P (ixT (An R i)),none⟩))) w)
  (hx:fev f (ixX (An R i))=.slice (some ⟨sB (fev f (ixX (An R i))),0,none⟩) m (sC (fev f (ixX (An R i)))):=by kernel_rfl) (hy:fev f (ixY (An R i))=.int (iK (fev f (ixY (An R i)))) y:=by kernel_rfl)
  (ho:(ung R i&&(V3 (An R i)&&slQ P (ixT (An R i))))=true:=by kernel_rfl):RWP P ro n R Q (i::rest) f w:=by
 simp only[xB]at ho;obtain⟨I,J,G⟩:=ho;refine RWP.valU I ?_ k;unfold slQ at G;split at G
 ·rename_i q hq;obtain⟨E,s,by_⟩:=q;have es:elS P (ixT (An R i))=s:=by simp[elS,hq]
  rw[es];have e:=Ke J;have:=BX (P:=P) (w:=w) (ty:=ID R i) hx hy hq hi;rw[<-e]at this;exact this
 ·cases G
theorem Yb{ρ:Operand->Value}{t ty:TypeId}{x y:Operand}{m:Nat}{q:Int}(hi:0<=q/\q < (m:Int))(hx:ρ x=.slice (some ⟨sB (ρ x),sO (ρ x),none⟩) m (sC (ρ x)))(hy:ρ y=.int (iK (ρ y)) q)(G:slQ P t=true):
  (As ρ (.indexAddr t x y) ty).run P w=.ok (.value (.pointer (some ⟨sB (ρ x),sO (ρ x) + q.toNat * elS P t,none⟩))) w:=by
 unfold slQ at G;split at G
 ·rename_i a hq;obtain⟨E,s,by_⟩:=a;have es:elS P t=s:=by simp[elS,hq]
  rw[es];exact Co hx hy hq hi
 ·cases G
theorem ZQ{t ty:TypeId}{x y:Operand}{m:Nat}{q:Int}(hi:0<=q/\q < (m:Int))(hx:fev f x=.slice (some ⟨sB (fev f x),0,none⟩) m (sC (fev f x)))(hy:fev f y=.int (iK (fev f y)) q)(G:slQ P t=true):
  (As (fev f) (.indexAddr t x y) ty).run P w=.ok (.value (.pointer (some ⟨sB (fev f x),q.toNat * elS P t,none⟩))) w:=by
 unfold slQ at G;split at G
 ·rename_i a hq;obtain⟨E,s,by_⟩:=a;have es:elS P t=s:=by simp[elS,hq]
  rw[es];exact BX hx hy hq hi
 ·cases G
theorem RWP.valG{gb' gc:Bool}(hg:gc=gb'){v:Value}(hy:(As (fev f) (An R i) (ID R i)).run P w=.ok (.value v) w')(k:RWP P ro n R Q rest (Bd f (Bo R i) v) w')
  (G:QH R (gj R [i]) gb' i=true) (hj:HO R (gj R [i])=some (gq R [i])) (hf:f (gq R [i])=.bool gc):RWP P ro n R Q (i::rest) f w:=by
 rcases Ra G with e | e
 ·exact Acp e rfl hy k
 ·exact Acp e (KI hj hf hg) hy k
theorem Pg1{gb' gc:Bool}(hg:gc=gb'){t:Bool}(ht:t=true)(k:RWP P ro n R Q rest (Bd f (Bo R i) (fev f (pkA (An R i)))) w)(hc:fev f (pkC (An R i))=.bool t:=by kernel_rfl)(ho:XE (An R i)=true:=by kernel_rfl)
  (G:QH R (gj R [i]) gb' i=true:=by kernel_rfl) (hj:HO R (gj R [i])=some (gq R [i]):=by kernel_rfl) (hf:f (gq R [i])=.bool gc:=by kernel_rfl):RWP P ro n R Q (i::rest) f w:=by
 refine RWP.valG hg ?_ k G hj hf;have:=Mu ho;rw[this]at hc ⊢;exact OS hc ht rfl
theorem Pg0{gb' gc:Bool}(hg:gc=gb'){t:Bool}(ht:t=false)(k:RWP P ro n R Q rest (Bd f (Bo R i) (fev f (pkB (An R i)))) w)(hc:fev f (pkC (An R i))=.bool t:=by kernel_rfl)(ho:XE (An R i)=true:=by kernel_rfl)
  (G:QH R (gj R [i]) gb' i=true:=by kernel_rfl) (hj:HO R (gj R [i])=some (gq R [i]):=by kernel_rfl) (hf:f (gq R [i])=.bool gc:=by kernel_rfl):RWP P ro n R Q (i::rest) f w:=by
 refine RWP.valG hg ?_ k G hj hf;have:=Mu ho;rw[this]at hc ⊢;exact OT hc ht rfl
theorem Lg{gb' gc:Bool}(hg:gc=gb'){b:Nat}{C:Array Value}{E:TypeId}{fz:Nat×Nat}(hp:w.heap[b]? =some (.cells C E fz))(k:RWP P ro n R Q rest (Bd f (Bo R i) (ldV P (ldT (An R i)) C (pO (fev f (ldX (An R i)))))) w)
  (hx:fev f (ldX (An R i))=.pointer (some ⟨b,pO (fev f (ldX (An R i))),none⟩):=by kernel_rfl) (ho:(U0 (An R i)&&ldK P (ldT (An R i)) C (pO (fev f (ldX (An R i)))))=true:=by kernel_rfl)
  (G:QH R (gj R [i]) gb' i=true:=by kernel_rfl) (hj:HO R (gj R [i])=some (gq R [i]):=by kernel_rfl) (hf:f (gq R [i])=.bool gc:=by kernel_rfl):RWP P ro n R Q (i::rest) f w:=by
 simp only[xB]at ho;refine RWP.valG hg ?_ k G hj hf;have:=Iy ho.1;rw[this];exact VD hx hp ho.2
theorem Lxg{gb' gc:Bool}(hg:gc=gb')(j:Nat){b o kk:Nat}{C:Array Value}{E:TypeId}{fz:Nat×Nat}{cs:List Value}(hp:w.heap[b]? =some (.cells C E fz))(hcs:Aw C o kk=cs)(k:RWP P ro n R Q rest (Bd f (Bo R i) (lxV P (ldT (An R i)) cs j)) w)
  (hx:fev f (ldX (An R i))=.pointer (some ⟨b,o + j,none⟩):=by kernel_rfl) (ho:(U0 (An R i)&&lxK P (ldT (An R i)) cs j kk)=true:=by kernel_rfl)
  (G:QH R (gj R [i]) gb' i=true:=by kernel_rfl) (hj:HO R (gj R [i])=some (gq R [i]):=by kernel_rfl) (hf:f (gq R [i])=.bool gc:=by kernel_rfl):RWP P ro n R Q (i::rest) f w:=by
 simp only[xB]at ho;refine RWP.valG hg ?_ k G hj hf;have:=Iy ho.1;rw[this];exact VB hx hp hcs ho.2
theorem Ixg{gb' gc:Bool}(hg:gc=gb'){m:Nat}{y:Int}(hi:0<=y/\y < (m:Int))(k:RWP P ro n R Q rest (Bd f (Bo R i) (.pointer (some ⟨sB (fev f (ixX (An R i))),sO (fev f (ixX (An R i))) + y.toNat * elS P (ixT (An R i)),none⟩))) w)
  (hx:fev f (ixX (An R i))=.slice (some ⟨sB (fev f (ixX (An R i))),sO (fev f (ixX (An R i))),none⟩) m (sC (fev f (ixX (An R i)))):=by kernel_rfl) (hy:fev f (ixY (An R i))=.int (iK (fev f (ixY (An R i)))) y:=by kernel_rfl)
  (ho:(V3 (An R i)&&slQ P (ixT (An R i)))=true:=by kernel_rfl)
  (G:QH R (gj R [i]) gb' i=true:=by kernel_rfl) (hj:HO R (gj R [i])=some (gq R [i]):=by kernel_rfl) (hf:f (gq R [i])=.bool gc:=by kernel_rfl):RWP P ro n R Q (i::rest) f w:=by
 simp only[xB]at ho;refine RWP.valG hg ?_ k G hj hf;have e:=Ke ho.1;have:=Yb (P:=P) (w:=w) (ty:=ID R i) hi hx hy ho.2;rw[<-e]at this;exact this
theorem Acl{gb' gc:Bool}(hg:gc=gb'){m:Nat}{y:Int}(hi:0<=y/\y < (m:Int))(k:RWP P ro n R Q rest (Bd f (Bo R i) (.pointer (some ⟨sB (fev f (ixX (An R i))),y.toNat * elS P (ixT (An R i)),none⟩))) w)
  (hx:fev f (ixX (An R i))=.slice (some ⟨sB (fev f (ixX (An R i))),0,none⟩) m (sC (fev f (ixX (An R i)))):=by kernel_rfl) (hy:fev f (ixY (An R i))=.int (iK (fev f (ixY (An R i)))) y:=by kernel_rfl)
  (ho:(V3 (An R i)&&slQ P (ixT (An R i)))=true:=by kernel_rfl)
  (G:QH R (gj R [i]) gb' i=true:=by kernel_rfl) (hj:HO R (gj R [i])=some (gq R [i]):=by kernel_rfl) (hf:f (gq R [i])=.bool gc:=by kernel_rfl):RWP P ro n R Q (i::rest) f w:=by
 simp only[xB]at ho;refine RWP.valG hg ?_ k G hj hf;have e:=Ke ho.1;have:=ZQ (P:=P) (w:=w) (ty:=ID R i) hi hx hy ho.2;rw[<-e]at this;exact this
theorem Al'(t:TypeId)(C:Array Value)(hs:HS w0 F0 w F L)(k:∀ b w',HS w0 F0 w' F ((some b,.cells C t (0,0))::L)->RWP P ro n R Q rest (Bd f (Bo R i) (.pointer (some ⟨b,0,none⟩))) w')
  (hC:(Ce P t).map Value.cells=some C:=by kernel_rfl) (ho:(ung R i&&Aay t (An R i))=true:=by kernel_rfl):RWP P ro n R Q (i::rest) f w:=by
 simp only[xB]at ho;cases hz:Ce P t with
 | none=>rw[hz]at hC;cases hC
 | some z=>
  rw[hz]at hC;simp only[vR,xL]at hC;have e:=Tj ho.2;have:=Bw ho.1;rw[e]at this;exact RWP.alloc this rfl hz hC hs k
theorem Bx'(t:TypeId)(C:Array Value)(hs:HS w0 F0 w F L)(k:∀ b w',HS w0 F0 w' F ((some b,.cells C t (0,0))::L)->RWP P ro n R Q rest (Bd f (Bo R i) (.pointer (some ⟨b,0,none⟩))) w')
  (hC:(fev f (bxX (An R i))).cells=C:=by kernel_rfl) (ho:(ung R i&&Aax t (An R i))=true:=by kernel_rfl):RWP P ro n R Q (i::rest) f w:=by
 simp only[xB]at ho;have e:=Ti ho.2;have:=Bw ho.1;rw[e]at this;exact RWP.box this rfl rfl hC hs k
theorem Bs(E:TypeId)(cs:List Value)(hs:HS w0 F0 w F L)(k:∀ b w',HS w0 F0 w' F ((some b,.cells cs.toArray E (0,0))::L)->RWP P ro n R Q rest (Bd f (Bo R i) (.slice (some ⟨b,0,none⟩) (bsL (An R i)) (bsL (An R i)))) w')
  (hb:bsV P f (An R i)=some (E,cs):=by kernel_rfl) (ho:ung R i=true:=by kernel_rfl):RWP P ro n R Q (i::rest) f w:=by
 have:=Bw ho;cases e:An R i with
 | buildSlice t len parts=>
  rw[e]at hb this k;exact RWP.buildSlice this rfl rfl hb hs k
 | _=>rw[e]at hb;simp[bsV]at hb
def EI(P:Program)(t:TypeId)(v:Value)(o:Nat)(C:Array Value):Bool:=match Gh P t with | some (_,s)=>Nat.beq v.cells.size s&&(decide (o + s<=C.size)&&v.cells.toList.all (·.oneCell')) | none=>false
theorem Kx{ρ:Operand->Value}{t ty:TypeId}{x y:Operand}{b o:Nat}{C C':Array Value}{E:TypeId}(hx:ρ x=.pointer (some ⟨b,o,none⟩))(hp:w.heap[b]? =some (.cells C E (0,0)))(hk:EI P t (ρ y) o C=true)(hC:ED C o (ρ y).cells.toList=C'):
  (As ρ (.store t x y) ty).run P w=.ok .skip (Dd w b (.cells C' E (0,0))):=by
 unfold EI at hk;split at hk
 ·rename_i g s ht;simp only[xB]at hk;exact QU hx rfl ht hp (xP hk.1) hk.2.1 hk.2.2 hC
 ·cases hk
theorem NM{b:Nat}{C C':Array Value}{E:TypeId}(hp:w.heap[b]? =some (.cells C E (0,0)))(k:RWP P ro n R Q rest f (Dd w b (.cells C' E (0,0))))
  (hx:fev f (stX (An R i))=.pointer (some ⟨b,pO (fev f (stX (An R i))),none⟩)) (hC:ED C (pO (fev f (stX (An R i)))) (fev f (stY (An R i))).cells.toList=C')
  (ho:(ung R i&&(Ln (An R i)&&(EI P (stT (An R i)) (fev f (stY (An R i))) (pO (fev f (stX (An R i)))) C&&(match Bo R i with | none=>true | some _=>false))))=true):RWP P ro n R Q (i::rest) f w:=by
 simp only[xB]at ho;obtain⟨I,J,O,G⟩:=ho;have e:=FC J;have:=Bw I;cases hd:Bo R i with
 | some d=>rw[hd]at G;cases G
 | none=>
  rw[hd]at this;refine RWP.unit this rfl ?_ k;rw[e];exact Kx hx hp O hC
theorem Cl'{fid:FuncId}{args:List Value}{post:Mem->Value->Prop}(hok:Ai P fid)(hs:HS w0 F0 w F L)(hc:Calls P fid args.toArray w (AD w F post))
  (k:∀ v F1 w1,HS w0 F0 w1 F1 L->Acs F F1->post F1 v->RWP P ro n R Q rest (Bd f (Bo R i) v) w1) (ha:clV f (An R i)=some (fid,args):=by kernel_rfl) (ho:ung R i=true:=by kernel_rfl):RWP P ro n R Q (i::rest) f w:=by
 refine Acq (Bw ho) rfl (Ow ha hok) hc ?_;rintro e w' ⟨r,F',rfl,G,I⟩;exact k r F' w' (hs.call G) G.le I
theorem Cg{fid:FuncId}{args:List Value}{post:Mem->Value->Prop}{b c:Bool}(hg:c=b)(hok:Ai P fid)(hs:HS w0 F0 w F L)(hc:Calls P fid args.toArray w (AD w F post))
  (k:∀ v F1 w1,HS w0 F0 w1 F1 L->Acs F F1->post F1 v->RWP P ro n R Q rest (Bd f (Bo R i) v) w1) (ha:clV f (An R i)=some (fid,args):=by kernel_rfl)
  (ho:QH R (gj R [i]) b i=true:=by kernel_rfl) (hj:HO R (gj R [i])=some (gq R [i]):=by kernel_rfl) (hf:f (gq R [i])=.bool c:=by kernel_rfl):RWP P ro n R Q (i::rest) f w:=by
 have hE:∀ e w',AD w F post e w'->match e with
   | .returned v=>RWP P ro n R Q rest (Bd f (Bo R i) v) w'
   | .panicked chain=>Q (.panic chain) f w'
   | .outgrown=>False:=by
  rintro e w' ⟨r,F',rfl,G,I⟩;exact k r F' w' (hs.call G) G.le I
 rcases Ra ho with e | e
 ·exact Acq e rfl (Ow ha hok) hc hE
 ·exact Acq e (KI hj hf hg) (Ow ha hok) hc hE
theorem CB{fid:FuncId}{args:List Value}{wb:World}{Fb:Mem}{post:Mem->Value->Own->Prop}(hok:Ai P fid)(hc:Calls P fid args.toArray w (Hm wb Fb F post))
  (k:∀ v F1 w1 L',HS wb Fb w1 F1 L'->Acs F F1->post F1 v L'->RWP P ro n R Q rest (Bd f (Bo R i) v) w1) (ha:clV f (An R i)=some (fid,args):=by kernel_rfl) (ho:ung R i=true:=by kernel_rfl):RWP P ro n R Q (i::rest) f w:=by
 refine Acq (Bw ho) rfl (Ow ha hok) hc ?_;rintro e w' ⟨F',r,L',rfl,G,I,J⟩;exact k r F' w' L' G I J
def clQ(f:Fr):Op->Option (FuncId×List Value)
 | .call c=>(match c.callee with
  | .value f0=>(match fev f f0 with
   | .func (.func g) fi ca=>some (g,fi.toList++(c.args.toList.map (fev f)++ca.toList))
   | _=>none)
  | _=>none)
 | _=>none
theorem AbJ(f:Fr)(op:Op):clQ f op=clV f op:=by
 unfold clQ clV;split <;> try rfl
 split <;> try rfl
 split <;> try rfl
 simp[yG]
theorem Cq{fid:FuncId}{args:List Value}{post:Mem->Value->Prop}(hok:Ai P fid)(hs:HS w0 F0 w F L)(hc:Calls P fid args.toArray w (AD w F post))
  (k:∀ v F1 w1,HS w0 F0 w1 F1 L->Acs F F1->post F1 v->RWP P ro n R Q rest (Bd f (Bo R i) v) w1) (ha:clQ f (An R i)=some (fid,args):=by kernel_rfl) (ho:ung R i=true:=by kernel_rfl):RWP P ro n R Q (i::rest) f w:=Cl' hok hs hc k (AbJ f _ ▸ ha) ho
theorem Go(m:Nat){fid:FuncId}{fn:Func}{args:List Value}{S:Ending->World->Prop}(hf:P.funcs[fid]? =some fn)(h:CWP P none m (Sj fn) (AbQ P fn.results S) (f0 args) w)
  (hk:(Nat.beq fn.ntmps m&&(decide (args.length<=m)&&isS fn.body))=true:=by kernel_rfl):Calls P fid args.toArray w S:=by
 simp only[xB]at hk;have G:=LN (d:=.skip) hk.2.2;exact R9 hf G (xP hk.1) hk.2.1 h
theorem Sd{α:Type}{t:Bool}{x y r:α}(h:(bif t then x else y)=r){PQ:List PanicEntry->List Deferred->World->Prop}{Post:Fr->World->Prop}{z:Nat}{Sw:Bool->World->Prop}{fuel:Nat}{l:List Bool}
  (ht:t=true->x=r->DWP P n R PQ Post z Sw fuel l f w) (hf:t=false->y=r->DWP P n R PQ Post z Sw fuel l f w):DWP P n R PQ Post z Sw fuel l f w:=
 DWP.split t (fun e=>ht e (T0 h e)) (fun e=>hf e (T1 h e))
variable {c:Code} {Q':Exit -> Fr -> World -> Prop}
theorem Cd{α:Type}{t:Bool}{x y r:α}(h:(bif t then x else y)=r)(ht:t=true->x=r->CWP P ro n (Zj c) Q f w)(hf:t=false->y=r->CWP P ro n (Zk c) Q f w)(hc:fev f (Wa c)=.bool t:=by kernel_rfl)(hk:kin c=4:=by kernel_rfl):CWP P ro n c Q f w:=
 CWP.cond hk hc (fun e=>ht e (T0 h e)) (fun e=>hf e (T1 h e))
theorem Cp(t:Bool)(ht:t=true->CWP P ro n (Zj c) Q f w)(hf:t=false->CWP P ro n (Zk c) Q f w)(hc:fev f (Wa c)=.bool t:=by kernel_rfl)(hk:kin c=4:=by kernel_rfl):CWP P ro n c Q f w:=CWP.cond hk hc ht hf
theorem C1{t:Bool}(e:t=true)(h:CWP P ro n (Zj c) Q f w)(hc:fev f (Wa c)=.bool t:=by kernel_rfl)(hk:kin c=4:=by kernel_rfl):CWP P ro n c Q f w:=CWP.cond1 hk hc e h
theorem C0{t:Bool}(e:t=false)(h:CWP P ro n (Zk c) Q f w)(hc:fev f (Wa c)=.bool t:=by kernel_rfl)(hk:kin c=4:=by kernel_rfl):CWP P ro n c Q f w:=CWP.cond0 hk hc e h
theorem Sp{α:Type}{t:Bool}{x y r:α}(h:(bif t then x else y)=r){l:List Nat}(ht:t=true->x=r->RWP P ro n R Q l f w)(hf:t=false->y=r->RWP P ro n R Q l f w):RWP P ro n R Q l f w:=
 Acy t (fun e=>ht e (T0 h e)) (fun e=>hf e (T1 h e))
theorem Rt(h:Q .ret f w)(hk:kin c=8:=by kernel_rfl):CWP P ro n c Q f w:=CWP.ret hk h
theorem Ex(h:Q (.exit (cid c)) f w)(hk:kin c=7:=by kernel_rfl):CWP P ro n c Q f w:=CWP.exit hk h
end
def Xj(f:Fr):List ResultVar->Option (List Value)
 | []=>some []
 | .tmp t::rs=>(match Xj f rs with | some l=>some (f t::l) | none=>none)
 | _=>none
theorem OV{P:Program}{w:World}{f:Fr}:∀{rs:List ResultVar} {vs:List Value},Xj f rs=some vs->Zv P w f rs vs
 | [],_,h=>by cases h;trivial
 | .tmp t::rs,vs,h=>by
  unfold Xj at h;split at h
  ·rename_i l hl;cases h;exact⟨rfl,OV hl⟩
  ·cases h
 | .cell _ _::rs,vs,h=>by simp[Xj]at h
theorem Re{P:Program}{rs:Array ResultVar}{w w0:World}{F0 F:Mem}{f:Fr}{L:List oO}{post:Mem->Value->Prop}(vs:List Value)(hs:HS w0 F0 w F L)(hp:post F (Nf vs))(hr:Xj f rs.toList=some vs:=by kernel_rfl)(hd:f.d=[]:=by kernel_rfl):
  f.d=[]/\ ∃ v,(EZ rs f).run P w=.ok v w/\AD w0 F0 post (.returned v) w:=
 ⟨hd,Nf vs,AK rfl (OV hr),Nf vs,F,rfl,hs.clear,hp⟩
theorem ReB{P:Program}{rs:Array ResultVar}{w wb:World}{Fb F0 F:Mem}{f:Fr}{L:Own}{post:Mem->Value->Own->Prop}(vs:List Value)(hs:HS wb Fb w F L)(hl:Acs F0 F)(hp:post F (Nf vs) L)(hr:Xj f rs.toList=some vs:=by kernel_rfl)(hd:f.d=[]:=by kernel_rfl):
  f.d=[]/\ ∃ v,(EZ rs f).run P w=.ok v w/\Hm wb Fb F0 post (.returned v) w:=
 ⟨hd,Nf vs,AK rfl (OV hr),F,Nf vs,L,rfl,hs,hl,hp⟩
section
variable {w0 w:World} {F0 F:Mem} {L:List (Option Nat × Obj)} {e:Option Nat × Obj}
theorem HS.dr0(h:HS w0 F0 w F (e::L)):HS w0 F0 w F (L):=h.drop 0
theorem HS.at0{b:Nat}{o:Obj}(h:HS w0 F0 w F ((some b,o)::L)):w.heap[b]? =some o:=h.ownAt (k:=0) rfl
theorem HS.fc0{b:Nat}{o:Obj}(h:HS w0 F0 w F ((some b,o)::L)):∃ F1,HS w0 F0 w F1 (L)/\Acs F F1/\F1 b=some o:=h.freezeC (k:=0) rfl
theorem HS.fr0{α:Type}{T:Ty α}{E:TypeId}{a:AcQ}{cap:Nat}{l:List α}(h:HS w0 F0 w F (e::L))(hr:Aq T E F a cap l e):∃ F1,HS w0 F0 w F1 (L)/\Acs F F1/\SlA T F1 a l:=h.freezeRow (k:=0) rfl hr
theorem HS.rd0{α:Type}{T:Ty α}{E:TypeId}{a:AcQ}{cap:Nat}{l:List α}(h:HS w0 F0 w F (e::L))(hr:Aq T E F a cap l e):Rd T F w a l:=Aq.rd h (k:=0) rfl hr
theorem HS.dr1{G:oO}(h:HS w0 F0 w F (G::e::L)):HS w0 F0 w F (G::L):=h.drop 1
theorem HS.pk1{G:oO}(h:HS w0 F0 w F (G::e::L)):HS w0 F0 w F (e::G::L):=h.pick (k:=1) rfl
theorem HS.at1{G:oO}{b:Nat}{o:Obj}(h:HS w0 F0 w F (G::(some b,o)::L)):w.heap[b]? =some o:=h.ownAt (k:=1) rfl
theorem HS.fc1{G:oO}{b:Nat}{o:Obj}(h:HS w0 F0 w F (G::(some b,o)::L)):∃ F1,HS w0 F0 w F1 (G::L)/\Acs F F1/\F1 b=some o:=h.freezeC (k:=1) rfl
theorem HS.fr1{G:oO}{α:Type}{T:Ty α}{E:TypeId}{a:AcQ}{cap:Nat}{l:List α}(h:HS w0 F0 w F (G::e::L))(hr:Aq T E F a cap l e):∃ F1,HS w0 F0 w F1 (G::L)/\Acs F F1/\SlA T F1 a l:=h.freezeRow (k:=1) rfl hr
theorem HS.dr2{G I:oO}(h:HS w0 F0 w F (G::I::e::L)):HS w0 F0 w F (G::I::L):=h.drop 2
theorem HS.pk2{G I:oO}(h:HS w0 F0 w F (G::I::e::L)):HS w0 F0 w F (e::G::I::L):=h.pick (k:=2) rfl
theorem HS.at2{G I:oO}{b:Nat}{o:Obj}(h:HS w0 F0 w F (G::I::(some b,o)::L)):w.heap[b]? =some o:=h.ownAt (k:=2) rfl
theorem HS.dr3{G I J:oO}(h:HS w0 F0 w F (G::I::J::e::L)):HS w0 F0 w F (G::I::J::L):=h.drop 3
theorem HS.pk3{G I J:oO}(h:HS w0 F0 w F (G::I::J::e::L)):HS w0 F0 w F (e::G::I::J::L):=h.pick (k:=3) rfl
theorem HS.at3{G I J:oO}{b:Nat}{o:Obj}(h:HS w0 F0 w F (G::I::J::(some b,o)::L)):w.heap[b]? =some o:=h.ownAt (k:=3) rfl
theorem HS.dr4{G I J O:oO}(h:HS w0 F0 w F (G::I::J::O::e::L)):HS w0 F0 w F (G::I::J::O::L):=h.drop 4
theorem HS.pk4{G I J O:oO}(h:HS w0 F0 w F (G::I::J::O::e::L)):HS w0 F0 w F (e::G::I::J::O::L):=h.pick (k:=4) rfl
theorem HS.at4{G I J O:oO}{b:Nat}{o:Obj}(h:HS w0 F0 w F (G::I::J::O::(some b,o)::L)):w.heap[b]? =some o:=h.ownAt (k:=4) rfl
theorem HS.dr5{G I J O Y:oO}(h:HS w0 F0 w F (G::I::J::O::Y::e::L)):HS w0 F0 w F (G::I::J::O::Y::L):=h.drop 5
theorem HS.pk5{G I J O Y:oO}(h:HS w0 F0 w F (G::I::J::O::Y::e::L)):HS w0 F0 w F (e::G::I::J::O::Y::L):=h.pick (k:=5) rfl
theorem HS.at5{G I J O Y:oO}{b:Nat}{o:Obj}(h:HS w0 F0 w F (G::I::J::O::Y::(some b,o)::L)):w.heap[b]? =some o:=h.ownAt (k:=5) rfl
theorem HS.pk6{G I J O Y e5:oO}(h:HS w0 F0 w F (G::I::J::O::Y::e5::e::L)):HS w0 F0 w F (e::G::I::J::O::Y::e5::L):=h.pick (k:=6) rfl
theorem HS.at6{G I J O Y e5:oO}{b:Nat}{o:Obj}(h:HS w0 F0 w F (G::I::J::O::Y::e5::(some b,o)::L)):w.heap[b]? =some o:=h.ownAt (k:=6) rfl
theorem HS.pk7{G I J O Y e5 Z:oO}(h:HS w0 F0 w F (G::I::J::O::Y::e5::Z::e::L)):HS w0 F0 w F (e::G::I::J::O::Y::e5::Z::L):=h.pick (k:=7) rfl
variable {P:Program} {ro:Option Nat} {n:Nat} {R:Array Oper} {Q:Exit -> Fr -> World -> Prop} {i:Nat} {rest:List Nat} {f:Fr} {α:Type} {T:Ty α} {E:TypeId} {a:AcQ} {cap:Nat} {l m:List α}
def apX:Op->Operand | .call c=>c.args[0]?.getD (.tmp 0) | _=>.tmp 0
def apY:Op->Operand | .call c=>c.args[1]?.getD (.tmp 0) | _=>.tmp 0
def apK(P:Program)(E:TypeId)(sz:Nat):Op->Bool
 | .call c=>(match c.callee with
  | .builtin .append=>(match c.args.toList,c.argTypes.toList with
   | [_,_],[t,t2]=>(match BF P t,Ce P E with
    | some (E',s,by_),some z=>Nat.beq E E'&&(Nat.beq s sz&&(decide (by_<=1024)&&(RC P t2&&Nat.beq z.cells.size sz)))
    | _,_=>false)
   | _,_=>false)
  | _=>false)
 | _=>false
theorem Ja{op:Op}{sz:Nat}(h:apK P E sz op=true):∃ t t2 by_ z,op=.call {callee:=.builtin .append,args:=#[apX op,apY op],argTypes:=#[t,t2]}/\BF P t=some (E,sz,by_)/\decide (by_<=1024)=true/\RC P t2=true/\Ce P E=some z/\z.cells.size=sz:=by
 unfold apK at h;split at h
 ·rename_i c;obtain⟨callee,aos,ats⟩:=c;simp only at h;split at h
  ·split at h
   ·rename_i x y t t2 J O;split at h
    ·rename_i E' s by_ z he hz;simp only[xB]at h;obtain⟨G,I,Y,Z,e5⟩:=h;have G:=xP G;have I:=xP I;subst G;subst I;have ha:aos=#[x,y]:=by cases aos;simpa using J
     have hb:ats=#[t,t2]:=by cases ats;simpa using O
     subst ha;subst hb;exact⟨t,t2,by_,z,rfl,he,Y,Z,hz,xP e5⟩
    ·cases h
   ·cases h
  ·cases h
 ·cases h
theorem St0{b:Nat}{C:Array Value}{E:TypeId}(C':Array Value)(hs:HS w0 F0 w F ((some b,.cells C E (0,0))::L))(k:∀ w',HS w0 F0 w' F ((some b,.cells C' E (0,0))::L)->RWP P ro n R Q rest f w')
  (hx:fev f (stX (An R i))=.pointer (some ⟨b,pO (fev f (stX (An R i))),none⟩):=by kernel_rfl) (hC:ED C (pO (fev f (stX (An R i)))) (fev f (stY (An R i))).cells.toList=C':=by kernel_rfl)
  (ho:(ung R i&&(Ln (An R i)&&(EI P (stT (An R i)) (fev f (stY (An R i))) (pO (fev f (stX (An R i)))) C&&(match Bo R i with | none=>true | some _=>false))))=true:=by kernel_rfl):RWP P ro n R Q (i::rest) f w:=
 NM (hs.ownAt (k:=0) rfl) (k _ (hs.put (k:=0) rfl _)) hx hC ho
theorem Ap0{a2:AcQ}(G:T.One)(hs:HS w0 F0 w F (e::L))(hr:Aq T E F a cap l e)(hm:Rd T F w a2 m){r:List α}(hap:CD l m=some r)
  (k:∀ a' cap' e' w',HS w0 F0 w' F (e'::L)->Aq T E F a' cap' r e'->RWP P ro n R Q rest (Bd f (Bo R i) (.slice a' r.length cap')) w')
  (hx:fev f (apX (An R i))=.slice a l.length cap:=by kernel_rfl) (hy:fev f (apY (An R i))=.slice a2 m.length (sC (fev f (apY (An R i)))):=by kernel_rfl) (ho:(ung R i&&apK P E T.sz (An R i))=true:=by kernel_rfl):RWP P ro n R Q (i::rest) f w:=by
 simp only[xB]at ho;obtain⟨t,t2,by_,z,I,he,hb,hni,hz,hzs⟩:=Ja ho.2;have:=Bw ho.1;rw[I]at this;exact RWP.append this rfl hx hy he hb hni hz hzs G hs (k:=0) rfl hr hm hap k
theorem St1{G:oO}{b:Nat}{C:Array Value}{E:TypeId}(C':Array Value)(hs:HS w0 F0 w F (G::(some b,.cells C E (0,0))::L))(k:∀ w',HS w0 F0 w' F (G::(some b,.cells C' E (0,0))::L)->RWP P ro n R Q rest f w')
  (hx:fev f (stX (An R i))=.pointer (some ⟨b,pO (fev f (stX (An R i))),none⟩):=by kernel_rfl) (hC:ED C (pO (fev f (stX (An R i)))) (fev f (stY (An R i))).cells.toList=C':=by kernel_rfl)
  (ho:(ung R i&&(Ln (An R i)&&(EI P (stT (An R i)) (fev f (stY (An R i))) (pO (fev f (stX (An R i)))) C&&(match Bo R i with | none=>true | some _=>false))))=true:=by kernel_rfl):RWP P ro n R Q (i::rest) f w:=
 NM (hs.ownAt (k:=1) rfl) (k _ (hs.put (k:=1) rfl _)) hx hC ho
theorem Ap1{G:oO}{a2:AcQ}(I:T.One)(hs:HS w0 F0 w F (G::e::L))(hr:Aq T E F a cap l e)(hm:Rd T F w a2 m){r:List α}(hap:CD l m=some r)
  (k:∀ a' cap' e' w',HS w0 F0 w' F (G::e'::L)->Aq T E F a' cap' r e'->RWP P ro n R Q rest (Bd f (Bo R i) (.slice a' r.length cap')) w')
  (hx:fev f (apX (An R i))=.slice a l.length cap:=by kernel_rfl) (hy:fev f (apY (An R i))=.slice a2 m.length (sC (fev f (apY (An R i)))):=by kernel_rfl) (ho:(ung R i&&apK P E T.sz (An R i))=true:=by kernel_rfl):RWP P ro n R Q (i::rest) f w:=by
 simp only[xB]at ho;obtain⟨t,t2,by_,z,J,he,hb,hni,hz,hzs⟩:=Ja ho.2;have:=Bw ho.1;rw[J]at this;exact RWP.append this rfl hx hy he hb hni hz hzs I hs (k:=1) rfl hr hm hap k
theorem St2{G I:oO}{b:Nat}{C:Array Value}{E:TypeId}(C':Array Value)(hs:HS w0 F0 w F (G::I::(some b,.cells C E (0,0))::L))(k:∀ w',HS w0 F0 w' F (G::I::(some b,.cells C' E (0,0))::L)->RWP P ro n R Q rest f w')
  (hx:fev f (stX (An R i))=.pointer (some ⟨b,pO (fev f (stX (An R i))),none⟩):=by kernel_rfl) (hC:ED C (pO (fev f (stX (An R i)))) (fev f (stY (An R i))).cells.toList=C':=by kernel_rfl)
  (ho:(ung R i&&(Ln (An R i)&&(EI P (stT (An R i)) (fev f (stY (An R i))) (pO (fev f (stX (An R i)))) C&&(match Bo R i with | none=>true | some _=>false))))=true:=by kernel_rfl):RWP P ro n R Q (i::rest) f w:=
 NM (hs.ownAt (k:=2) rfl) (k _ (hs.put (k:=2) rfl _)) hx hC ho
theorem Ap2{I G:oO}{a2:AcQ}(J:T.One)(hs:HS w0 F0 w F (I::G::e::L))(hr:Aq T E F a cap l e)(hm:Rd T F w a2 m){r:List α}(hap:CD l m=some r)
  (k:∀ a' cap' e' w',HS w0 F0 w' F (I::G::e'::L)->Aq T E F a' cap' r e'->RWP P ro n R Q rest (Bd f (Bo R i) (.slice a' r.length cap')) w')
  (hx:fev f (apX (An R i))=.slice a l.length cap:=by kernel_rfl) (hy:fev f (apY (An R i))=.slice a2 m.length (sC (fev f (apY (An R i)))):=by kernel_rfl) (ho:(ung R i&&apK P E T.sz (An R i))=true:=by kernel_rfl):RWP P ro n R Q (i::rest) f w:=by
 simp only[xB]at ho;obtain⟨t,t2,by_,z,G,he,hb,hni,hz,hzs⟩:=Ja ho.2;have:=Bw ho.1;rw[G]at this;exact RWP.append this rfl hx hy he hb hni hz hzs J hs (k:=2) rfl hr hm hap k
theorem St3{G I J:oO}{b:Nat}{C:Array Value}{E:TypeId}(C':Array Value)(hs:HS w0 F0 w F (G::I::J::(some b,.cells C E (0,0))::L))(k:∀ w',HS w0 F0 w' F (G::I::J::(some b,.cells C' E (0,0))::L)->RWP P ro n R Q rest f w')
  (hx:fev f (stX (An R i))=.pointer (some ⟨b,pO (fev f (stX (An R i))),none⟩):=by kernel_rfl) (hC:ED C (pO (fev f (stX (An R i)))) (fev f (stY (An R i))).cells.toList=C':=by kernel_rfl)
  (ho:(ung R i&&(Ln (An R i)&&(EI P (stT (An R i)) (fev f (stY (An R i))) (pO (fev f (stX (An R i)))) C&&(match Bo R i with | none=>true | some _=>false))))=true:=by kernel_rfl):RWP P ro n R Q (i::rest) f w:=
 NM (hs.ownAt (k:=3) rfl) (k _ (hs.put (k:=3) rfl _)) hx hC ho
theorem St5{G I J O Y:oO}{b:Nat}{C:Array Value}{E:TypeId}(C':Array Value)(hs:HS w0 F0 w F (G::I::J::O::Y::(some b,.cells C E (0,0))::L))(k:∀ w',HS w0 F0 w' F (G::I::J::O::Y::(some b,.cells C' E (0,0))::L)->RWP P ro n R Q rest f w')
  (hx:fev f (stX (An R i))=.pointer (some ⟨b,pO (fev f (stX (An R i))),none⟩):=by kernel_rfl) (hC:ED C (pO (fev f (stX (An R i)))) (fev f (stY (An R i))).cells.toList=C':=by kernel_rfl)
  (ho:(ung R i&&(Ln (An R i)&&(EI P (stT (An R i)) (fev f (stY (An R i))) (pO (fev f (stX (An R i)))) C&&(match Bo R i with | none=>true | some _=>false))))=true:=by kernel_rfl):RWP P ro n R Q (i::rest) f w:=
 NM (hs.ownAt (k:=5) rfl) (k _ (hs.put (k:=5) rfl _)) hx hC ho
theorem Ap5{I G J O Y:oO}{a2:AcQ}(Z:T.One)(hs:HS w0 F0 w F (I::G::J::O::Y::e::L))(hr:Aq T E F a cap l e)(hm:Rd T F w a2 m){r:List α}(hap:CD l m=some r)
  (k:∀ a' cap' e' w',HS w0 F0 w' F (I::G::J::O::Y::e'::L)->Aq T E F a' cap' r e'->RWP P ro n R Q rest (Bd f (Bo R i) (.slice a' r.length cap')) w')
  (hx:fev f (apX (An R i))=.slice a l.length cap:=by kernel_rfl) (hy:fev f (apY (An R i))=.slice a2 m.length (sC (fev f (apY (An R i)))):=by kernel_rfl) (ho:(ung R i&&apK P E T.sz (An R i))=true:=by kernel_rfl):RWP P ro n R Q (i::rest) f w:=by
 simp only[xB]at ho;obtain⟨t,t2,by_,z,G,he,hb,hni,hz,hzs⟩:=Ja ho.2;have:=Bw ho.1;rw[G]at this;exact RWP.append this rfl hx hy he hb hni hz hzs Z hs (k:=5) rfl hr hm hap k
theorem St6{G I J O Y e5:oO}{b:Nat}{C:Array Value}{E:TypeId}(C':Array Value)(hs:HS w0 F0 w F (G::I::J::O::Y::e5::(some b,.cells C E (0,0))::L))(k:∀ w',HS w0 F0 w' F (G::I::J::O::Y::e5::(some b,.cells C' E (0,0))::L)->RWP P ro n R Q rest f w')
  (hx:fev f (stX (An R i))=.pointer (some ⟨b,pO (fev f (stX (An R i))),none⟩):=by kernel_rfl) (hC:ED C (pO (fev f (stX (An R i)))) (fev f (stY (An R i))).cells.toList=C':=by kernel_rfl)
  (ho:(ung R i&&(Ln (An R i)&&(EI P (stT (An R i)) (fev f (stY (An R i))) (pO (fev f (stX (An R i)))) C&&(match Bo R i with | none=>true | some _=>false))))=true:=by kernel_rfl):RWP P ro n R Q (i::rest) f w:=
 NM (hs.ownAt (k:=6) rfl) (k _ (hs.put (k:=6) rfl _)) hx hC ho
theorem Ap6{I G J O Y e5:oO}{a2:AcQ}(Z:T.One)(hs:HS w0 F0 w F (I::G::J::O::Y::e5::e::L))(hr:Aq T E F a cap l e)(hm:Rd T F w a2 m){r:List α}(hap:CD l m=some r)
  (k:∀ a' cap' e' w',HS w0 F0 w' F (I::G::J::O::Y::e5::e'::L)->Aq T E F a' cap' r e'->RWP P ro n R Q rest (Bd f (Bo R i) (.slice a' r.length cap')) w')
  (hx:fev f (apX (An R i))=.slice a l.length cap:=by kernel_rfl) (hy:fev f (apY (An R i))=.slice a2 m.length (sC (fev f (apY (An R i)))):=by kernel_rfl) (ho:(ung R i&&apK P E T.sz (An R i))=true:=by kernel_rfl):RWP P ro n R Q (i::rest) f w:=by
 simp only[xB]at ho;obtain⟨t,t2,by_,z,G,he,hb,hni,hz,hzs⟩:=Ja ho.2;have:=Bw ho.1;rw[G]at this;exact RWP.append this rfl hx hy he hb hni hz hzs Z hs (k:=6) rfl hr hm hap k
theorem St7{G I J O Y e5 Z:oO}{b:Nat}{C:Array Value}{E:TypeId}(C':Array Value)(hs:HS w0 F0 w F (G::I::J::O::Y::e5::Z::(some b,.cells C E (0,0))::L))(k:∀ w',HS w0 F0 w' F (G::I::J::O::Y::e5::Z::(some b,.cells C' E (0,0))::L)->RWP P ro n R Q rest f w')
  (hx:fev f (stX (An R i))=.pointer (some ⟨b,pO (fev f (stX (An R i))),none⟩):=by kernel_rfl) (hC:ED C (pO (fev f (stX (An R i)))) (fev f (stY (An R i))).cells.toList=C':=by kernel_rfl)
  (ho:(ung R i&&(Ln (An R i)&&(EI P (stT (An R i)) (fev f (stY (An R i))) (pO (fev f (stX (An R i)))) C&&(match Bo R i with | none=>true | some _=>false))))=true:=by kernel_rfl):RWP P ro n R Q (i::rest) f w:=
 NM (hs.ownAt (k:=7) rfl) (k _ (hs.put (k:=7) rfl _)) hx hC ho
end
section
variable {P:Program} {n:Nat} {R:Array Oper} {Q:Exit -> Fr -> World -> Prop} {PQ:List PanicEntry -> List Deferred -> World -> Prop} {Post:Fr -> World -> Prop} {z fuel:Nat} {Sw:Bool -> World -> Prop} {i:Nat} {f:Fr} {w w' w0:World} {F0 F Fs:Mem} {l:List Bool} {L Lc Lz:List (Option Nat × Obj)} {e:Option Nat × Obj}
def rdy(R:Array Oper)(z i:Nat)(l:List Bool):Bool:=Region.free .any R l.toArray i&&((Region.ready .any R l.toArray).contains i&&MR R z i)
def dvf(P:Program)(R:Array Oper):List Nat->Fr->Fr
 | [],f=>f
 | i::is,f=>dvf P R is (Bd f (Bo R i) ((pv P (fev f) (An R i)).getD undef))
def dvl:List Nat->List Bool->List Bool
 | [],l=>l
 | i::is,l=>dvl is (l.set i true)
def Zh(P:Program)(R:Array Oper)(z:Nat):List Nat->List Bool->Fr->Bool
 | [],_,_=>true
 | i::is,l,f=>ung R i&&(isS (pv P (fev f) (An R i))&&(rdy R z i l&&Zh P R z is (l.set i true) (Bd f (Bo R i) ((pv P (fev f) (An R i)).getD undef))))
theorem ZA:∀(is:List Nat) {l:List Bool} {f:Fr} {fuel:Nat},DWP P n R PQ Post z Sw fuel (dvl is l) (dvf P R is f) w->Zh P R z is l f=true->DWP P n R PQ Post z Sw (fuel + is.length) l f w
 | [],_,_,_,k,_=>k
 | i::is,l,f,fuel,k,h=>by
  simp only[Zh,rdy,xB]at h;obtain⟨G,I,⟨J,O,Y⟩,Z⟩:=h;exact DWP.take (Bw G) J O Y rfl rfl (fun _ _=>TE (LN I)) rfl (ZA is k Z)
theorem Dv(is:List Nat){fu:Nat}(k:DWP P n R PQ Post z Sw (fu - is.length) (dvl is l) (dvf P R is f) w)(h:Zh P R z is l f=true:=by kernel_rfl)(hfu:Nat.beq fu ((fu - is.length) + is.length)=true:=by kernel_rfl):DWP P n R PQ Post z Sw fu l f w:=by
 have:=xP hfu;rw[this];exact ZA is k h
theorem Dvl(is:List Nat)(l':List Bool){fu:Nat}(k:DWP P n R PQ Post z Sw (fu - is.length) l' (dvf P R is f) w)(h:Zh P R z is l f=true:=by kernel_rfl)(hl:dvl is l=l':=by kernel_rfl)(hfu:Nat.beq fu ((fu - is.length) + is.length)=true:=by kernel_rfl):DWP P n R PQ Post z Sw fu l f w:=by
 subst hl;exact Dv is k h hfu
theorem DWP.tk{v:Value}(i:Nat){fu:Nat}(hy:∀ w',Sw (l.toArray.getD z true) w'->(As (fev f) (An R i) (ID R i)).run P w'=.ok (.value v) w')(k:DWP P n R PQ Post z Sw (fu - 1) (l.set i true) (Bd f (Bo R i) v) w)(ho:ung R i=true)(hr:rdy R z i l=true)
  (hfu:Nat.beq fu ((fu - 1) + 1)=true):DWP P n R PQ Post z Sw fu l f w:=by
 simp only[rdy,xB]at hr;have:=xP hfu;rw[this];exact DWP.take (Bw ho) hr.1 hr.2.1 hr.2.2 rfl rfl hy rfl k
theorem Dl(i:Nat){fu b:Nat}{C:Array Value}{E:TypeId}{fz:Nat×Nat}(hp:∀ w',Sw (l.toArray.getD z true) w'->w'.heap[b]? =some (.cells C E fz))(k:DWP P n R PQ Post z Sw (fu - 1) (l.set i true) (Bd f (Bo R i) (ldV P (ldT (An R i)) C (pO (fev f (ldX (An R i)))))) w)
  (hx:fev f (ldX (An R i))=.pointer (some ⟨b,pO (fev f (ldX (An R i))),none⟩):=by kernel_rfl) (ho:(ung R i&&(U0 (An R i)&&ldK P (ldT (An R i)) C (pO (fev f (ldX (An R i))))))=true:=by kernel_rfl) (hr:rdy R z i l=true:=by kernel_rfl)
  (hfu:Nat.beq fu ((fu - 1) + 1)=true:=by kernel_rfl):DWP P n R PQ Post z Sw fu l f w:=by
 simp only[xB]at ho;refine DWP.tk i (fun w' hw=>?_) k ho.1 hr hfu;have:=Iy ho.2.1;rw[this];exact VD hx (hp w' hw) ho.2.2
theorem Dx(i j:Nat){fu b o kk:Nat}{C:Array Value}{E:TypeId}{fz:Nat×Nat}{cs:List Value}(hp:∀ w',Sw (l.toArray.getD z true) w'->w'.heap[b]? =some (.cells C E fz))(hc:Aw C o kk=cs)(k:DWP P n R PQ Post z Sw (fu - 1) (l.set i true) (Bd f (Bo R i) (lxV P (ldT (An R i)) cs j)) w)
  (hx:fev f (ldX (An R i))=.pointer (some ⟨b,o + j,none⟩):=by kernel_rfl) (ho:(ung R i&&(U0 (An R i)&&lxK P (ldT (An R i)) cs j kk))=true:=by kernel_rfl) (hr:rdy R z i l=true:=by kernel_rfl)
  (hfu:Nat.beq fu ((fu - 1) + 1)=true:=by kernel_rfl):DWP P n R PQ Post z Sw fu l f w:=by
 simp only[xB]at ho;refine DWP.tk i (fun w' hw=>?_) k ho.1 hr hfu;have:=Iy ho.2.1;rw[this];exact VB hx (hp w' hw) hc ho.2.2
theorem Di(i:Nat){fu m:Nat}{q:Int}(hi:0<=q/\q < (m:Int))(k:DWP P n R PQ Post z Sw (fu - 1) (l.set i true) (Bd f (Bo R i) (.pointer (some ⟨sB (fev f (ixX (An R i))),sO (fev f (ixX (An R i))) + q.toNat * elS P (ixT (An R i)),none⟩))) w)
  (hx:fev f (ixX (An R i))=.slice (some ⟨sB (fev f (ixX (An R i))),sO (fev f (ixX (An R i))),none⟩) m (sC (fev f (ixX (An R i)))):=by kernel_rfl) (hy:fev f (ixY (An R i))=.int (iK (fev f (ixY (An R i)))) q:=by kernel_rfl)
  (ho:(ung R i&&(V3 (An R i)&&slQ P (ixT (An R i))))=true:=by kernel_rfl) (hr:rdy R z i l=true:=by kernel_rfl) (hfu:Nat.beq fu ((fu - 1) + 1)=true:=by kernel_rfl):DWP P n R PQ Post z Sw fu l f w:=by
 simp only[xB]at ho;refine DWP.tk i (fun w' hw=>?_) k ho.1 hr hfu;have e:=Ke ho.2.1;have:=Yb (P:=P) (w:=w') (ty:=ID R i) hi hx hy ho.2.2;rw[<-e]at this;exact this
theorem D1(i:Nat){fu:Nat}(h:AE P n R PQ Post z Sw (fu - 1) l i f w)(hr:Region.ready .any R l.toArray=[i]:=by kernel_rfl)(hfu:Nat.beq fu ((fu - 1) + 1)=true:=by kernel_rfl):DWP P n R PQ Post z Sw fu l f w:=by
 have:=xP hfu;rw[this];exact DWP.one hr h
theorem zdT{zd:Bool}{A:Prop}(h:zd=true):zd=false->A:=fun e=>by rw[h]at e;cases e
theorem DCl{fid:FuncId}{args:List Value}{post:Mem->Value->Prop}(hok:Ai P fid)(hs:HS w0 F0 w F L)(hc:Calls P fid args.toArray w (AD w F post))
  (k:∀ v F1 w1,HS w0 F0 w1 F1 L->Acs F F1->post F1 v->DWP P n R PQ Post z (DZ Fs Lc Lz) fuel (l.set i true) (Bd f (Bo R i) v) w1) (ha:clV f (An R i)=some (fid,args):=by kernel_rfl) (ho:ung R i=true:=by kernel_rfl)
  (hz:((l.set i true).toArray.getD z true==l.toArray.getD z true)=true:=by kernel_rfl):AE P n R PQ Post z (DZ Fs Lc Lz) fuel l i f w:=by
 cases e:An R i with
 | call c=>
  obtain⟨callee,aos,ats⟩:=c;have ho':=Bw ho;rw[e]at ha ho';unfold clV at ha;simp only at ha;split at ha
  ·split at ha
   ·rename_i hf;simp only[xL,Prod.mk.injEq]at ha;obtain⟨rfl,rfl⟩:=ha;exact AcF rfl (by simpa using hz) rfl ho' rfl hf hok rfl hs hc k
   ·cases ha
  ·cases ha
 | _=>rw[e]at ha;simp[clV]at ha
theorem DBs(E:TypeId)(cs:List Value)(hs:HS w0 F0 w F L)(hle:Acs Fs F)(k:∀ b w',HS w0 F0 w' F ((some b,.cells cs.toArray E (0,0))::L)->DWP P n R PQ Post z (DZ Fs Lc Lz) fuel (l.set i true) (Bd f (Bo R i) (.slice (some ⟨b,0,none⟩) (bsL (An R i)) (bsL (An R i)))) w')
  (hb:bsV P f (An R i)=some (E,cs):=by kernel_rfl) (ho:ung R i=true:=by kernel_rfl) (hL:∀ p,p∈Lc->p∈L:=by simp) (hLz:(l.set i true).toArray.getD z true=false->∀ p,p∈Lz->p∈L:=by first | (intro _;simp;done) | exact zdT (by kernel_rfl)):AE P n R PQ Post z (DZ Fs Lc Lz) fuel l i f w:=by
 have:=Bw ho;cases e:An R i with
 | buildSlice t len parts=>
  rw[e]at hb this k;exact AE.buildSlice rfl rfl this rfl rfl hb hs hle hL hLz k
 | _=>rw[e]at hb;simp[bsV]at hb
theorem DAl(t:TypeId)(C:Array Value)(hs:HS w0 F0 w F L)(hle:Acs Fs F)(k:∀ b w',HS w0 F0 w' F ((some b,.cells C t (0,0))::L)->DWP P n R PQ Post z (DZ Fs Lc Lz) fuel (l.set i true) (Bd f (Bo R i) (.pointer (some ⟨b,0,none⟩))) w')
  (hC:(Ce P t).map Value.cells=some C:=by kernel_rfl) (ho:(ung R i&&Aay t (An R i))=true:=by kernel_rfl) (hL:∀ p,p∈Lc->p∈L:=by simp) (hLz:(l.set i true).toArray.getD z true=false->∀ p,p∈Lz->p∈L:=by first | (intro _;simp;done) | exact zdT (by kernel_rfl)):AE P n R PQ Post z (DZ Fs Lc Lz) fuel l i f w:=by
 simp only[xB]at ho;cases hz:Ce P t with
 | none=>rw[hz]at hC;cases hC
 | some z=>
  rw[hz]at hC;simp only[vR,xL]at hC;have e:=Tj ho.2;have:=Bw ho.1;rw[e]at this;exact AE.alloc rfl rfl this rfl hz hC hs hle hL hLz k
theorem DBx(t:TypeId)(C:Array Value)(hs:HS w0 F0 w F L)(hle:Acs Fs F)(k:∀ b w',HS w0 F0 w' F ((some b,.cells C t (0,0))::L)->DWP P n R PQ Post z (DZ Fs Lc Lz) fuel (l.set i true) (Bd f (Bo R i) (.pointer (some ⟨b,0,none⟩))) w')
  (hC:(fev f (bxX (An R i))).cells=C:=by kernel_rfl) (ho:(ung R i&&Aax t (An R i))=true:=by kernel_rfl) (hL:∀ p,p∈Lc->p∈L:=by simp) (hLz:(l.set i true).toArray.getD z true=false->∀ p,p∈Lz->p∈L:=by first | (intro _;simp;done) | exact zdT (by kernel_rfl)):AE P n R PQ Post z (DZ Fs Lc Lz) fuel l i f w:=by
 simp only[xB]at ho;have e:=Ti ho.2;have:=Bw ho.1;rw[e]at this;exact AE.box rfl rfl this rfl rfl hC hs hle hL hLz k
theorem DCB{fid:FuncId}{args:List Value}{wb:World}{Fb:Mem}{post:Mem->Value->Own->Prop}(hok:Ai P fid)(hc:Calls P fid args.toArray w (Hm wb Fb F post))
  (k:∀ v F1 w1 L',HS wb Fb w1 F1 L'->Acs F F1->post F1 v L'->DZ Fs Lc Lz ((l.set i true).toArray.getD z true) w1/\DWP P n R PQ Post z (DZ Fs Lc Lz) fuel (l.set i true) (Bd f (Bo R i) v) w1) (ha:clV f (An R i)=some (fid,args):=by kernel_rfl) (ho:ung R i=true:=by kernel_rfl):AE P n R PQ Post z (DZ Fs Lc Lz) fuel l i f w:=by
 cases e:An R i with
 | call c=>
  obtain⟨callee,aos,ats⟩:=c;have ho':=Bw ho;rw[e]at ha ho';unfold clV at ha;simp only at ha;split at ha
  ·split at ha
   ·rename_i hf;simp only[xL,Prod.mk.injEq]at ha;obtain⟨rfl,rfl⟩:=ha;exact AE.callB rfl rfl ho' rfl hf hok rfl hc k
   ·cases ha
  ·cases ha
 | _=>rw[e]at ha;simp[clV]at ha
def fls:Nat->List Bool
 | 0=>[]
 | n + 1=>false::fls n
variable {c:Code}
def Aad(R:Array Oper):Bool:=R.all fun o=>!Qx o.op
def Abb(P:Program)(n m:Nat)(c:Code):Bool:=Nat.beq (kin c) 2&&(okR n (O9 c)&&(Region.noSelect (O9 c)&&(Aad (O9 c)&&Nat.beq (O9 c).size m)))
theorem AbA:∀ n,Array.replicate n false=(fls n).toArray:=fun n=>by
 have:List.replicate n false=fls n:=by induction n with
  | zero=>rfl
  | succ n ih=>rw[List.replicate_succ,ih];rfl
 rw[<-this];simp
theorem Aaa{R:Array Oper}(hd:Aad R=true)(ro:Option Nat){Q:Exit->Act->World->Prop}{i:Nat}{K K':Act->World->Prop}(hK:∀ a w,K a w->K' a w){a:Act}{w:World}(h:wpOpIn (FW none) 0 P R Q i K a w):wpOpIn (FW ro) 0 P R Q i K' a w:=by
 have h:=wpOpIn_mono hK h;unfold wpOpIn at h ⊢;cases ho:R[i]? with
 | none=>simp only[ho]at h ⊢;exact h
 | some o=>
  simp only[ho]at h ⊢;split
  ·rename_i hw;simp only[hw,if_true]at h;have hi:i < R.size:=by
    rcases xR i R.size with h' | h'
    ·exact h'
    ·simp[vG h']at ho
   have hnd:Qx o.op=false:=by
    unfold Aad at hd;rw[Array.all_eq_true]at hd;have:=hd i hi;have e:R[i]=o:=by simpa [Array.getElem?_eq_getElem hi]using ho
    rw[e]at this;simpa using this
   unfold Oper.wpIn at h ⊢;refine⟨fun _ _=>trivial,?_⟩;have e:∀ r,Oper.semAt r a.eval o=execOp a.eval o:=fun r=>LB hnd r a.eval o rfl;have G:=h.2;rw[e]at G ⊢;exact G
  ·rename_i hw;simp only[hw,if_false]at h;exact⟨fun _ _=>trivial,h.2⟩
theorem Zo{R:Array Oper}(hd:Aad R=true)(ro:Option Nat){Q:Exit->Act->World->Prop}:∀(fuel:Nat)(l:Array Bool)(a:Act)(w:World),wpAnyIn (FW none) 0 P .any R Q fuel l a w->wpAnyIn (FW ro) 0 P .any R Q fuel l a w
 | 0,_,_,_,h=>h
 | fuel + 1,_,_,_,h=>⟨h.1,fun i hi=>Aaa hd ro (fun a w=>Zo hd ro fuel _ a w) (h.2 i hi)⟩
variable {ro:Option Nat}
theorem RDP(z m:Nat)(Lc Lz:List oO)(hs:HS w0 F0 w F L)(PQ:List PanicEntry->List Deferred->World->Prop)(Post:Fr->World->Prop)
  (h:∀ w',HS w0 F0 w' F L->DWP P n (O9 c) PQ Post z (DZ F Lc Lz) m (fls m) f w') (k:∀ f w,Post f w->Q .normal f w) (kp:∀ c f w,PQ c f.d w->Q (.panic c) f w) (hm:P.follows .mixedOrders=true:=by kernel_rfl) (ho:Abb P n m c=true:=by kernel_rfl) (hc:∀ p,p∈Lc->p∈L:=by simp) (hz:∀ p,p∈Lz->p∈L:=by simp):CWP P ro n c Q f w:=by
 simp only[Abb,xB]at ho;obtain⟨hk,hok,hns,hnd,hfu⟩:=ho
 replace hk:=xP hk
 replace hfu:=xP hfu
 subst hfu;cases c <;> simp[kin]at hk;rename_i id ops d;cases d <;> simp[kin]at hk;intro a ha;have hs':HS w0 F0 {w with drawn:=w.drawn + 1} F L:=hs.heap rfl;refine wpIn_mono (wpIn_region_any hm (Zo hnd ro _ _ _ _ (QD (z:=z) (S:=DZ F Lc Lz) _ _ _ _ ?_))) (Q:=lq n (nq PQ Post)) ?_
 ·simp only[O9]at *
  rw[AbA];exact h _ hs' hok hns (BI hs' (Acu F) hc fun _=>hz) a ha
 ·rintro e a w ⟨f,hf,hP⟩;cases e with
  | normal=>exact⟨f,hf,k _ _ hP⟩
  | panic c=>exact⟨f,hf,kp _ _ _ hP⟩
  | _=>exact hP.elim
theorem RD(z m:Nat)(Lc Lz:List oO)(hs:HS w0 F0 w F L)(Post:Fr->World->Prop)
  (h:∀ w',HS w0 F0 w' F L->DWP P n (O9 c) (fun _ _ _=>False) Post z (DZ F Lc Lz) m (fls m) f w') (k:∀ f w,Post f w->Q .normal f w) (hm:P.follows .mixedOrders=true:=by kernel_rfl) (ho:Abb P n m c=true:=by kernel_rfl) (hc:∀ p,p∈Lc->p∈L:=by simp) (hz:∀ p,p∈Lz->p∈L:=by simp):CWP P ro n c Q f w:=
 RDP z m Lc Lz hs (fun _ _ _=>False) Post h k (fun _ _ _ h=>h.elim) hm ho hc hz
variable {α:Type} {T:Ty α} {E:TypeId} {a:AcQ} {cap:Nat} {ls m:List α}
theorem EF{b:Nat}{C:Array Value}{E:TypeId}(C':Array Value)(hs:HS w0 F0 w F ((some b,.cells C E (0,0))::L))(hle:Acs Fs F)(k:∀ w',HS w0 F0 w' F ((some b,.cells C' E (0,0))::L)->DWP P n R PQ Post z (DZ Fs Lc Lz) fuel (l.set i true) f w')
  (hx:fev f (stX (An R i))=.pointer (some ⟨b,pO (fev f (stX (An R i))),none⟩):=by kernel_rfl) (hC:ED C (pO (fev f (stX (An R i)))) (fev f (stY (An R i))).cells.toList=C':=by kernel_rfl)
  (ho:(ung R i&&(Ln (An R i)&&(EI P (stT (An R i)) (fev f (stY (An R i))) (pO (fev f (stX (An R i)))) C&&(match Bo R i with | none=>true | some _=>false))))=true:=by kernel_rfl)
  (hL:∀ p,p∈Lc->p∈(some b,.cells C' E (0,0))::L:=by simp) (hLz:(l.set i true).toArray.getD z true=false->∀ p,p∈Lz->p∈(some b,.cells C' E (0,0))::L:=by first | (intro _;simp;done) | exact zdT (by kernel_rfl)):AE P n R PQ Post z (DZ Fs Lc Lz) fuel l i f w:=by
 simp only[xB]at ho;obtain⟨I,J,O,G⟩:=ho;have e:=FC J;have:=Bw I;cases hd:Bo R i with
 | some d=>rw[hd]at G;cases G
 | none=>
  rw[hd]at this;have hp:=hs.put (k:=0) rfl (.cells C' E (0,0));refine AcE rfl rfl this rfl ?_ (BI hp hle hL hLz) (k _ hp);have hr:=Kx (P:=P) (ty:=ID R i) (w:=w) hx (hs.ownAt (k:=0) rfl) O hC;rw[<-e]at hr;exact hr
theorem Qp{G:oO}{b:Nat}{C:Array Value}{E:TypeId}(C':Array Value)(hs:HS w0 F0 w F (G::(some b,.cells C E (0,0))::L))(hle:Acs Fs F)(k:∀ w',HS w0 F0 w' F (G::(some b,.cells C' E (0,0))::L)->DWP P n R PQ Post z (DZ Fs Lc Lz) fuel (l.set i true) f w')
  (hx:fev f (stX (An R i))=.pointer (some ⟨b,pO (fev f (stX (An R i))),none⟩):=by kernel_rfl) (hC:ED C (pO (fev f (stX (An R i)))) (fev f (stY (An R i))).cells.toList=C':=by kernel_rfl)
  (ho:(ung R i&&(Ln (An R i)&&(EI P (stT (An R i)) (fev f (stY (An R i))) (pO (fev f (stX (An R i)))) C&&(match Bo R i with | none=>true | some _=>false))))=true:=by kernel_rfl)
  (hL:∀ p,p∈Lc->p∈G::(some b,.cells C' E (0,0))::L:=by simp) (hLz:(l.set i true).toArray.getD z true=false->∀ p,p∈Lz->p∈G::(some b,.cells C' E (0,0))::L:=by first | (intro _;simp;done) | exact zdT (by kernel_rfl)):AE P n R PQ Post z (DZ Fs Lc Lz) fuel l i f w:=by
 simp only[xB]at ho;obtain⟨J,O,Y,I⟩:=ho;have e:=FC O;have:=Bw J;cases hd:Bo R i with
 | some d=>rw[hd]at I;cases I
 | none=>
  rw[hd]at this;have hp:=hs.put (k:=1) rfl (.cells C' E (0,0));refine AcE rfl rfl this rfl ?_ (BI hp hle hL hLz) (k _ hp);have hr:=Kx (P:=P) (ty:=ID R i) (w:=w) hx (hs.ownAt (k:=1) rfl) Y hC;rw[<-e]at hr;exact hr
theorem Ab7{G:oO}{a2:AcQ}(I:T.One)(hs:HS w0 F0 w F (G::e::L))(hr:Aq T E F a cap ls e)(hm:Rd T F w a2 m){r:List α}(hap:CD ls m=some r)(hle:Acs Fs F)
  (k:∀ a' cap' e' w',HS w0 F0 w' F (G::e'::L)->Aq T E F a' cap' r e'->DWP P n R PQ Post z (DZ Fs Lc Lz) fuel (l.set i true) (Bd f (Bo R i) (.slice a' r.length cap')) w')
  (hx:fev f (apX (An R i))=.slice a ls.length cap:=by kernel_rfl) (hy:fev f (apY (An R i))=.slice a2 m.length (sC (fev f (apY (An R i)))):=by kernel_rfl) (ho:(ung R i&&apK P E T.sz (An R i))=true:=by kernel_rfl)
  (hL:∀ e' p,p∈Lc->p∈G::e'::L:=by (intro _;simp)) (hLz:(l.set i true).toArray.getD z true=false->∀ e' p,p∈Lz->p∈G::e'::L:=by first | (intro _ _;simp;done) | exact zdT (by kernel_rfl)):AE P n R PQ Post z (DZ Fs Lc Lz) fuel l i f w:=by
 simp only[xB]at ho;obtain⟨t,t2,by_,zz,J,he,hb,hni,hz,hzs⟩:=Ja ho.2;have:=Bw ho.1;rw[J]at this;exact AE.append rfl rfl this rfl hx hy he hb hni hz hzs I hs (k:=1) rfl hr hm hap hle hL hLz k
theorem St{G I:oO}{b:Nat}{C:Array Value}{E:TypeId}(C':Array Value)(hs:HS w0 F0 w F (G::I::(some b,.cells C E (0,0))::L))(hle:Acs Fs F)(k:∀ w',HS w0 F0 w' F (G::I::(some b,.cells C' E (0,0))::L)->DWP P n R PQ Post z (DZ Fs Lc Lz) fuel (l.set i true) f w')
  (hx:fev f (stX (An R i))=.pointer (some ⟨b,pO (fev f (stX (An R i))),none⟩):=by kernel_rfl) (hC:ED C (pO (fev f (stX (An R i)))) (fev f (stY (An R i))).cells.toList=C':=by kernel_rfl)
  (ho:(ung R i&&(Ln (An R i)&&(EI P (stT (An R i)) (fev f (stY (An R i))) (pO (fev f (stX (An R i)))) C&&(match Bo R i with | none=>true | some _=>false))))=true:=by kernel_rfl)
  (hL:∀ p,p∈Lc->p∈G::I::(some b,.cells C' E (0,0))::L:=by simp) (hLz:(l.set i true).toArray.getD z true=false->∀ p,p∈Lz->p∈G::I::(some b,.cells C' E (0,0))::L:=by first | (intro _;simp;done) | exact zdT (by kernel_rfl)):AE P n R PQ Post z (DZ Fs Lc Lz) fuel l i f w:=by
 simp only[xB]at ho;obtain⟨O,Y,Z,J⟩:=ho;have e:=FC Y;have:=Bw O;cases hd:Bo R i with
 | some d=>rw[hd]at J;cases J
 | none=>
  rw[hd]at this;have hp:=hs.put (k:=2) rfl (.cells C' E (0,0));refine AcE rfl rfl this rfl ?_ (BI hp hle hL hLz) (k _ hp);have hr:=Kx (P:=P) (ty:=ID R i) (w:=w) hx (hs.ownAt (k:=2) rfl) Z hC;rw[<-e]at hr;exact hr
theorem AaO{G I J:oO}{b:Nat}{C:Array Value}{E:TypeId}(C':Array Value)(hs:HS w0 F0 w F (G::I::J::(some b,.cells C E (0,0))::L))(hle:Acs Fs F)(k:∀ w',HS w0 F0 w' F (G::I::J::(some b,.cells C' E (0,0))::L)->DWP P n R PQ Post z (DZ Fs Lc Lz) fuel (l.set i true) f w')
  (hx:fev f (stX (An R i))=.pointer (some ⟨b,pO (fev f (stX (An R i))),none⟩):=by kernel_rfl) (hC:ED C (pO (fev f (stX (An R i)))) (fev f (stY (An R i))).cells.toList=C':=by kernel_rfl)
  (ho:(ung R i&&(Ln (An R i)&&(EI P (stT (An R i)) (fev f (stY (An R i))) (pO (fev f (stX (An R i)))) C&&(match Bo R i with | none=>true | some _=>false))))=true:=by kernel_rfl)
  (hL:∀ p,p∈Lc->p∈G::I::J::(some b,.cells C' E (0,0))::L:=by simp) (hLz:(l.set i true).toArray.getD z true=false->∀ p,p∈Lz->p∈G::I::J::(some b,.cells C' E (0,0))::L:=by first | (intro _;simp;done) | exact zdT (by kernel_rfl)):AE P n R PQ Post z (DZ Fs Lc Lz) fuel l i f w:=by
 simp only[xB]at ho;obtain⟨Y,Z,h3,O⟩:=ho;have e:=FC Z;have:=Bw Y;cases hd:Bo R i with
 | some d=>rw[hd]at O;cases O
 | none=>
  rw[hd]at this;have hp:=hs.put (k:=3) rfl (.cells C' E (0,0));refine AcE rfl rfl this rfl ?_ (BI hp hle hL hLz) (k _ hp);have hr:=Kx (P:=P) (ty:=ID R i) (w:=w) hx (hs.ownAt (k:=3) rfl) h3 hC;rw[<-e]at hr;exact hr
theorem Acn{I G J:oO}{a2:AcQ}(O:T.One)(hs:HS w0 F0 w F (I::G::J::e::L))(hr:Aq T E F a cap ls e)(hm:Rd T F w a2 m){r:List α}(hap:CD ls m=some r)(hle:Acs Fs F)
  (k:∀ a' cap' e' w',HS w0 F0 w' F (I::G::J::e'::L)->Aq T E F a' cap' r e'->DWP P n R PQ Post z (DZ Fs Lc Lz) fuel (l.set i true) (Bd f (Bo R i) (.slice a' r.length cap')) w')
  (hx:fev f (apX (An R i))=.slice a ls.length cap:=by kernel_rfl) (hy:fev f (apY (An R i))=.slice a2 m.length (sC (fev f (apY (An R i)))):=by kernel_rfl) (ho:(ung R i&&apK P E T.sz (An R i))=true:=by kernel_rfl)
  (hL:∀ e' p,p∈Lc->p∈I::G::J::e'::L:=by (intro _;simp)) (hLz:(l.set i true).toArray.getD z true=false->∀ e' p,p∈Lz->p∈I::G::J::e'::L:=by first | (intro _ _;simp;done) | exact zdT (by kernel_rfl)):AE P n R PQ Post z (DZ Fs Lc Lz) fuel l i f w:=by
 simp only[xB]at ho;obtain⟨t,t2,by_,zz,G,he,hb,hni,hz,hzs⟩:=Ja ho.2;have:=Bw ho.1;rw[G]at this;exact AE.append rfl rfl this rfl hx hy he hb hni hz hzs O hs (k:=3) rfl hr hm hap hle hL hLz k
theorem Ab6{G I J O:oO}{b:Nat}{C:Array Value}{E:TypeId}(C':Array Value)(hs:HS w0 F0 w F (G::I::J::O::(some b,.cells C E (0,0))::L))(hle:Acs Fs F)(k:∀ w',HS w0 F0 w' F (G::I::J::O::(some b,.cells C' E (0,0))::L)->DWP P n R PQ Post z (DZ Fs Lc Lz) fuel (l.set i true) f w')
  (hx:fev f (stX (An R i))=.pointer (some ⟨b,pO (fev f (stX (An R i))),none⟩):=by kernel_rfl) (hC:ED C (pO (fev f (stX (An R i)))) (fev f (stY (An R i))).cells.toList=C':=by kernel_rfl)
  (ho:(ung R i&&(Ln (An R i)&&(EI P (stT (An R i)) (fev f (stY (An R i))) (pO (fev f (stX (An R i)))) C&&(match Bo R i with | none=>true | some _=>false))))=true:=by kernel_rfl)
  (hL:∀ p,p∈Lc->p∈G::I::J::O::(some b,.cells C' E (0,0))::L:=by simp) (hLz:(l.set i true).toArray.getD z true=false->∀ p,p∈Lz->p∈G::I::J::O::(some b,.cells C' E (0,0))::L:=by first | (intro _;simp;done) | exact zdT (by kernel_rfl)):AE P n R PQ Post z (DZ Fs Lc Lz) fuel l i f w:=by
 simp only[xB]at ho;obtain⟨Z,h2,h3,Y⟩:=ho;have e:=FC h2;have:=Bw Z;cases hd:Bo R i with
 | some d=>rw[hd]at Y;cases Y
 | none=>
  rw[hd]at this;have hp:=hs.put (k:=4) rfl (.cells C' E (0,0));refine AcE rfl rfl this rfl ?_ (BI hp hle hL hLz) (k _ hp);have hr:=Kx (P:=P) (ty:=ID R i) (w:=w) hx (hs.ownAt (k:=4) rfl) h3 hC;rw[<-e]at hr;exact hr
theorem Wi{G I J O Y:oO}{b:Nat}{C:Array Value}{E:TypeId}(C':Array Value)(hs:HS w0 F0 w F (G::I::J::O::Y::(some b,.cells C E (0,0))::L))(hle:Acs Fs F)(k:∀ w',HS w0 F0 w' F (G::I::J::O::Y::(some b,.cells C' E (0,0))::L)->DWP P n R PQ Post z (DZ Fs Lc Lz) fuel (l.set i true) f w')
  (hx:fev f (stX (An R i))=.pointer (some ⟨b,pO (fev f (stX (An R i))),none⟩):=by kernel_rfl) (hC:ED C (pO (fev f (stX (An R i)))) (fev f (stY (An R i))).cells.toList=C':=by kernel_rfl)
  (ho:(ung R i&&(Ln (An R i)&&(EI P (stT (An R i)) (fev f (stY (An R i))) (pO (fev f (stX (An R i)))) C&&(match Bo R i with | none=>true | some _=>false))))=true:=by kernel_rfl)
  (hL:∀ p,p∈Lc->p∈G::I::J::O::Y::(some b,.cells C' E (0,0))::L:=by simp) (hLz:(l.set i true).toArray.getD z true=false->∀ p,p∈Lz->p∈G::I::J::O::Y::(some b,.cells C' E (0,0))::L:=by first | (intro _;simp;done) | exact zdT (by kernel_rfl)):AE P n R PQ Post z (DZ Fs Lc Lz) fuel l i f w:=by
 simp only[xB]at ho;obtain⟨h1,h2,h3,Z⟩:=ho;have e:=FC h2;have:=Bw h1;cases hd:Bo R i with
 | some d=>rw[hd]at Z;cases Z
 | none=>
  rw[hd]at this;have hp:=hs.put (k:=5) rfl (.cells C' E (0,0));refine AcE rfl rfl this rfl ?_ (BI hp hle hL hLz) (k _ hp);have hr:=Kx (P:=P) (ty:=ID R i) (w:=w) hx (hs.ownAt (k:=5) rfl) h3 hC;rw[<-e]at hr;exact hr
theorem AaN{G I J O Y e5:oO}{b:Nat}{C:Array Value}{E:TypeId}(C':Array Value)(hs:HS w0 F0 w F (G::I::J::O::Y::e5::(some b,.cells C E (0,0))::L))(hle:Acs Fs F)(k:∀ w',HS w0 F0 w' F (G::I::J::O::Y::e5::(some b,.cells C' E (0,0))::L)->DWP P n R PQ Post z (DZ Fs Lc Lz) fuel (l.set i true) f w')
  (hx:fev f (stX (An R i))=.pointer (some ⟨b,pO (fev f (stX (An R i))),none⟩):=by kernel_rfl) (hC:ED C (pO (fev f (stX (An R i)))) (fev f (stY (An R i))).cells.toList=C':=by kernel_rfl)
  (ho:(ung R i&&(Ln (An R i)&&(EI P (stT (An R i)) (fev f (stY (An R i))) (pO (fev f (stX (An R i)))) C&&(match Bo R i with | none=>true | some _=>false))))=true:=by kernel_rfl)
  (hL:∀ p,p∈Lc->p∈G::I::J::O::Y::e5::(some b,.cells C' E (0,0))::L:=by simp) (hLz:(l.set i true).toArray.getD z true=false->∀ p,p∈Lz->p∈G::I::J::O::Y::e5::(some b,.cells C' E (0,0))::L:=by first | (intro _;simp;done) | exact zdT (by kernel_rfl)):AE P n R PQ Post z (DZ Fs Lc Lz) fuel l i f w:=by
 simp only[xB]at ho;obtain⟨h1,h2,h3,Z⟩:=ho;have e:=FC h2;have:=Bw h1;cases hd:Bo R i with
 | some d=>rw[hd]at Z;cases Z
 | none=>
  rw[hd]at this;have hp:=hs.put (k:=6) rfl (.cells C' E (0,0));refine AcE rfl rfl this rfl ?_ (BI hp hle hL hLz) (k _ hp);have hr:=Kx (P:=P) (ty:=ID R i) (w:=w) hx (hs.ownAt (k:=6) rfl) h3 hC;rw[<-e]at hr;exact hr
theorem Acm{G I J O Y e5 Z:oO}{b:Nat}{C:Array Value}{E:TypeId}(C':Array Value)(hs:HS w0 F0 w F (G::I::J::O::Y::e5::Z::(some b,.cells C E (0,0))::L))(hle:Acs Fs F)(k:∀ w',HS w0 F0 w' F (G::I::J::O::Y::e5::Z::(some b,.cells C' E (0,0))::L)->DWP P n R PQ Post z (DZ Fs Lc Lz) fuel (l.set i true) f w')
  (hx:fev f (stX (An R i))=.pointer (some ⟨b,pO (fev f (stX (An R i))),none⟩):=by kernel_rfl) (hC:ED C (pO (fev f (stX (An R i)))) (fev f (stY (An R i))).cells.toList=C':=by kernel_rfl)
  (ho:(ung R i&&(Ln (An R i)&&(EI P (stT (An R i)) (fev f (stY (An R i))) (pO (fev f (stX (An R i)))) C&&(match Bo R i with | none=>true | some _=>false))))=true:=by kernel_rfl)
  (hL:∀ p,p∈Lc->p∈G::I::J::O::Y::e5::Z::(some b,.cells C' E (0,0))::L:=by simp) (hLz:(l.set i true).toArray.getD z true=false->∀ p,p∈Lz->p∈G::I::J::O::Y::e5::Z::(some b,.cells C' E (0,0))::L:=by first | (intro _;simp;done) | exact zdT (by kernel_rfl)):AE P n R PQ Post z (DZ Fs Lc Lz) fuel l i f w:=by
 simp only[xB]at ho;obtain⟨h1,h2,h3,h4⟩:=ho;have e:=FC h2;have:=Bw h1;cases hd:Bo R i with
 | some d=>rw[hd]at h4;cases h4
 | none=>
  rw[hd]at this;have hp:=hs.put (k:=7) rfl (.cells C' E (0,0));refine AcE rfl rfl this rfl ?_ (BI hp hle hL hLz) (k _ hp);have hr:=Kx (P:=P) (ty:=ID R i) (w:=w) hx (hs.ownAt (k:=7) rfl) h3 hC;rw[<-e]at hr;exact hr
end
theorem YP.mono{P:Program}{l:Nat}{args:List Value}{w:World}{S S':Ending->World->Prop}(h:YP P l args w S)(hi:∀ e w',S e w'->S' e w'):YP P l args w S':=
 let ⟨fn,t,a,b,G,I⟩:=h;⟨fn,t,a,b,G,I.mono hi⟩
section
variable {P:Program} {w:World} {ρ:Operand -> Value} {ty:TypeId}
def Zm(P:Program)(t:TypeId)(parts:List (Nat×Value)):Option (List Value):=
 match P.underlying t,Ce P t with
 | some (.array _ e),some z=>match P.info? e with
  | some i=>match Instr.fill (fun k=>some (k * i.size,i.size)) z.cells parts with
   | some cs=>some cs.toList
   | none=>none
  | none=>none
 | _,_=>none
theorem Nh{t:TypeId}{parts:Array (Nat×Operand)}{vs:List (Nat×Value)}{cs:List Value}(hv:parts.toList.map (fun p=>(p.1,ρ p.2))=vs)(hb:Zm P t vs=some cs):
  (As ρ (.build t parts) ty).run P w=.ok (.value (.agg cs.toArray)) w:=by
 subst hv;unfold Zm at hb;split at hb
 ·rename_i n e z hu hz;split at hb
  ·rename_i i hi;split at hb
   ·rename_i cs' hfill;simp only[xL]at hb;subst hb;have G:As ρ (.build t parts) ty=(do pure (Next.value (<-Instr.build t (parts.map fun(i,x)=>(i,ρ x))))):=rfl;have hzv:(zeroValue t).run P w=.ok z w:=by
     unfold Ce at hz;split at hz
     ·rename_i i hi;simp[zeroValue,typeInfo,hi,hz]
     ·cases hz
    rw[G];simp only[Instr.build,xG,hzv,xC,run_underlying hu,EY hi];have hl:(parts.map fun(i,x)=>(i,ρ x)).toList=parts.toList.map (fun p=>(p.1,ρ p.2)):=by simp
    rw[hl,hfill];simp
   ·cases hb
  ·cases hb
 ·cases hb
theorem Ws{t E:TypeId}{len:Nat}{x y:Operand}{k:IntKind}{i:Int}{cs:List Value}{v:Value}(hx:ρ x=.agg cs.toArray)(hy:ρ y=.int k i)(hu:P.underlying t=some (.array len E))(ht:Gh P E=some (false,1))(hlen:cs.length=len)(hv:idx cs i=some v):
  (As ρ (.index t x y) ty).run P w=.ok (.value v) w:=by
 obtain⟨⟨h0,h1⟩,G⟩:=Ag hv;have hc:Aw cs.toArray (i.toNat * 1) 1=[v]:=by
  rw[Nat.mul_one];exact L4.2 (by simpa using G)
 have hp:=J4 (P:=P) (t:=E) (C:=cs.toArray) (o:=i.toNat * 1) ht (by rw[hc];rfl) (.inr rfl) w;rw[hc]at hp;simp only[As,execOp,hx,hy,Instr.index,asIntOf,xG,xK,xC,run_underlying hu,Ec ht];rw[if_pos (show 0<=i/\i < (len:Int)by omega)];simp only[xG,Ec ht,xC];rw[hp];rfl
theorem U2{α:Type}{f:α->Value}{l:List α}{i:Int}{x:α}(h:idx l i=some x):idx (l.map f) i=some (f x):=by
 obtain⟨⟨G,h1⟩,I⟩:=Ag h;unfold idx;rw[if_pos G,yU,I];rfl
def toB(l:List Int):AcP:=l.map fun n=>UInt8.ofNat n.toNat
theorem RJ:∀(ns:List Int)(A:Array UInt8),ns.foldl (fun r n=>ByteArray.push r (UInt8.ofNat n.toNat)) ⟨A⟩=⟨A++(toB ns).toArray⟩
 | [],A=>by simp[toB]
 | n::ns,A=>by
  rw[wF];have:ByteArray.push ⟨A⟩ (UInt8.ofNat n.toNat)=⟨A.push (UInt8.ofNat n.toNat)⟩:=rfl;rw[this,RJ ns];simp[toB]
theorem Wr{w0:World}{F0 F:Mem}{L:Own}{s d E:TypeId}{x:Operand}{a:AcQ}{cap q:Nat}{l:List Int}{e:oO}(hx:ρ x=.slice a l.length cap)(hs:P.underlying s=some (.slice E))(hE:P.underlying E=some (.int .u8))(hd:P.underlying d=some .string)
  (hh:HS w0 F0 w F L) (hq:L[q]? =some e) (hr:Aq tU8 E F a cap l e):(As ρ (.convert s d x) ty).run P w=.ok (.value (.string ⟨(toB l).toArray⟩)) w:=by
 have J:As ρ (.convert s d x) ty=(do pure (Next.value (<-convert s d (ρ x)))):=rfl;rw[J,hx,xG,run_convert_bytes_string w s d E a l.length cap hs hE hd];rcases hr.2 with⟨rfl,rfl,rfl,_⟩ | ⟨b,C,rfl,rfl,hc,hsz,hR⟩
 ·rfl
 ·have hb:=hh.ownAt hq;have hl:=run_loadCells_list (P:=P) (w:=w) ⟨b,0,none⟩ (l.map (Value.int .u8)) (fun j v hj=>by
   rw[yU]at hj;cases hlj:l[j]? with
   | none=>rw[hlj]at hj;cases hj
   | some n=>
    rw[hlj]at hj;cases hj;have I:Aw C (j * 1) 1=[.int .u8 n]:=hR j n hlj;rw[Nat.mul_one]at I;have G:=L4.1 I;rw[Addr.add_lit];simp[World.cell?,hb,G])
  rw[xZ]at hl;have G:=run_bytesToString (P:=P) w ⟨b,0,none⟩ l.length cap l (by rw[hl]);rw[G,show ByteArray.empty=⟨#[]⟩from rfl,RJ];simp[Result.andThen]
end
section
variable {P:Program} {n:Nat} {R:Array Oper} {f:Fr} {w:World} {PQ:List PanicEntry -> List Deferred -> World -> Prop} {Post:Fr -> World -> Prop} {z:Nat} {fuel:Nat} {l l':List Bool} {zd:Bool} {i:Nat} {dst:Option Nat} {ty:TypeId} {g:Option (Nat × Bool)}
theorem AE.callO{w0:World}{F0 F Fs:Mem}{L Lc Lz:List oO}{f0:Operand}{aos:Array Operand}{ats:Array TypeId}{fid:FuncId}{first cap:Array Value}{args:List Value}{post:Mem->Value->Own->Prop}
  (hl:l.set i true=l') (hzd:l'.toArray.getD z true=zd) (I:l.toArray.getD z true=zd)
  (ho:opq R i=some (dst,.call {callee:=.value f0,args:=aos,argTypes:=ats},ty,g)) (hg:gd R f g=true) (hf:fev f f0=.func (.func fid) first cap) (hok:Ai P fid)
  (ha:first.toList++aos.toList.map (fev f)++cap.toList=args) (hs:HS w0 F0 w F L) (hc:Calls P fid args.toArray w (Sr w F post))
  (k:∀ v F1 w1 L',HS w0 F0 w1 F1 (L'++L)->Acs F F1->post F1 v L'->DWP P n R PQ Post z (DZ Fs Lc Lz) fuel l' (Bd f dst v) w1):AE P n R PQ Post z (DZ Fs Lc Lz) fuel l i f w:=by
 intro hokR hns hS a haf;obtain⟨o,hR,hd,hop,hty,hgd⟩:=DD ho;unfold Jg wpOpIn;simp only[hR];rw[haf.wanted R o,hgd,hg];simp only[if_true];refine⟨BZ,?_⟩;show o.uponIn (FW none) 0 P a _ _ ((execOp a.eval o).run P w);rw[Dq,haf.evalF,hop,hty,FO hf hok ha];simp only[Oper.uponIn];refine⟨(fun h=>by cases h),(Gs hc).mono ?_⟩;rintro e w' ⟨r,F',L',rfl,G,J⟩;simp only;rw[I]at hS;have hS':DZ Fs Lc Lz zd w':=hS.keep G.keep;rw[hl,hd,hzd];exact⟨hS',k r F' w' L' (hs.callO G) G.le J hokR hns (by rw[hzd];exact hS') _ (haf.put (by rw[<-hd];exact Gb hokR hR) r)⟩
theorem AE.callS{Fs:Mem}{Lc Lz:Own}{f0:Operand}{aos:Array Operand}{ats:Array TypeId}{fid:FuncId}{first cap:Array Value}{args:List Value}{S:Ending->World->Prop}
  (hl:l.set i true=l') (hzd:l'.toArray.getD z true=zd)
  (ho:opq R i=some (dst,.call {callee:=.value f0,args:=aos,argTypes:=ats},ty,g)) (hg:gd R f g=true) (hf:fev f f0=.func (.func fid) first cap) (hok:Ai P fid)
  (ha:first.toList++aos.toList.map (fev f)++cap.toList=args) (hc:Calls P fid args.toArray w S)
  (k:∀ e w',S e w'->∃ v,e=.returned v/\DZ Fs Lc Lz zd w'/\DWP P n R PQ Post z (DZ Fs Lc Lz) fuel l' (Bd f dst v) w'):AE P n R PQ Post z (DZ Fs Lc Lz) fuel l i f w:=by
 intro hokR hns hS a haf;obtain⟨o,hR,hd,hop,hty,hgd⟩:=DD ho;unfold Jg wpOpIn;simp only[hR];rw[haf.wanted R o,hgd,hg];simp only[if_true];refine⟨BZ,?_⟩;show o.uponIn (FW none) 0 P a _ _ ((execOp a.eval o).run P w);rw[Dq,haf.evalF,hop,hty,FO hf hok ha];simp only[Oper.uponIn];refine⟨(fun h=>by cases h),(Gs hc).mono ?_⟩;intro e w' he;obtain⟨v,rfl,hS',hk⟩:=k e w' he;simp only;rw[hl,hd,hzd];exact⟨hS',hk hokR hns (by rw[hzd];exact hS') _ (haf.put (by rw[<-hd];exact Gb hokR hR) v)⟩
theorem AE.callLentP{w0:World}{F0 F Fs:Mem}{L Lc Lz:List oO}{f0:Operand}{aos:Array Operand}{ats:Array TypeId}{fid:FuncId}{first cap:Array Value}{args:List Value}{q:Nat}{e:oO}{v0:Value}
  (hl:l.set i true=l') (hzd:l'.toArray.getD z true=zd) (I:l.toArray.getD z true=zd)
  (ho:opq R i=some (dst,.call {callee:=.value f0,args:=aos,argTypes:=ats},ty,g)) (hg:gd R f g=true) (hf:fev f f0=.func (.func fid) first cap) (hok:Ai P fid)
  (ha:first.toList++aos.toList.map (fev f)++cap.toList=args) (hs:HS w0 F0 w F L) (hk:L[q]? =some e) (hc:Calls P fid args.toArray w (AD w (K2 F e) fun _ v=>v=v0))
  (k:∀ F1 w1,HS w0 F0 w1 F1 L->Acs F F1->DWP P n R PQ Post z (DZ Fs Lc Lz) fuel l' (Bd f dst v0) w1):AE P n R PQ Post z (DZ Fs Lc Lz) fuel l i f w:=by
 intro hokR hns hS a haf;obtain⟨o,hR,hd,hop,hty,hgd⟩:=DD ho;unfold Jg wpOpIn;simp only[hR];rw[haf.wanted R o,hgd,hg];simp only[if_true];refine⟨BZ,?_⟩;show o.uponIn (FW none) 0 P a _ _ ((execOp a.eval o).run P w);rw[Dq,haf.evalF,hop,hty,FO hf hok ha];simp only[Oper.uponIn];refine⟨(fun h=>by cases h),(Gs hc).mono ?_⟩;rintro e' w' ⟨_,F',rfl,G,rfl⟩;simp only;rw[I]at hS;have hS':DZ Fs Lc Lz zd w':=hS.keep G.keep;obtain⟨J,O⟩:=hs.lentCall hk G;rw[hl,hd,hzd];exact⟨hS',k _ w' J O hokR hns (by rw[hzd];exact hS') _ (haf.put (by rw[<-hd];exact Gb hokR hR) _)⟩
end
section
variable {P:Program} {n:Nat} {R:Array Oper} {Q:Exit -> Fr -> World -> Prop} {w w0:World} {F0 F:Mem} {L:Own} {f:Fr} {i:Nat} {rest:List Nat} {dst:Option Nat} {ty:TypeId} {g:Option (Nat × Bool)} {ro:Option Nat}
theorem RWP.callLentP{f0:Operand}{aos:Array Operand}{ats:Array TypeId}{fid:FuncId}{first cap:Array Value}{args:List Value}{q:Nat}{e:oO}{v0:Value}
  (ho:opq R i=some (dst,.call {callee:=.value f0,args:=aos,argTypes:=ats},ty,g)) (hg:gd R f g=true) (hf:fev f f0=.func (.func fid) first cap) (hok:Ai P fid)
  (ha:first.toList++aos.toList.map (fev f)++cap.toList=args) (hs:HS w0 F0 w F L) (hk:L[q]? =some e)
  (hc:Calls P fid args.toArray w (AD w (K2 F e) fun _ v=>v=v0))
  (k:∀ F1 w1,HS w0 F0 w1 F1 L->Acs F F1->RWP P ro n R Q rest (Bd f dst v0) w1):RWP P ro n R Q (i::rest) f w:=by
 refine Acq ho hg (FO hf hok ha) hc ?_;rintro e w' ⟨_,F',rfl,G,rfl⟩;obtain⟨I,J⟩:=hs.lentCall hk G;exact k _ w' I J
end
section
variable {P:Program} {w:World} {ρ:Operand -> Value} {ty:TypeId}
theorem TB{mt k vt:TypeId}{d:TypeDesc}{m x:Operand}{b clk:Nat}{es:Array MapEntry}{kv v:Value}{j:Nat}(hm:ρ m=.map (some b))(hx:ρ x=kv)(hu:P.underlying mt=some (.map k vt))(hk:P.underlying k=some d)(hkey:MapKept.IsKey d kv)
  (hb:w.heap[b]? =some (.map es clk)) (hf:Instr.findNow d kv es.toList 0=some (some (j,v))):(As ρ (.lookup mt m x true) ty).run P w=.ok (.value (.tuple #[v,.bool true])) w:=by
 have e:As ρ (.lookup mt m x true) ty=(do pure (Next.value (<-Instr.lookup mt (ρ m) (ρ x) true))):=rfl;rw[e,hm,hx];simp[Instr.lookup,run_underlying hu,MapKept.run_getObj_map hb,MapKept.run_checkKey hk hkey,MapKept.run_findKey hk hf,Result.andThen]
theorem Abz{x c:Int}{v:Value}{clk i:Nat}{es:List MapEntry}(h:(x==c)=true):Instr.findNow (.int .i64) (.int .i64 x) (⟨.int .i64 c,v,clk⟩::es) i=some (some (i,v)):=by
 simp[Instr.findNow,Instr.sameNow,h]
end
section
variable {P:Program} {w0 w:World} {F0 F:Mem} {L:List (Option Nat × Obj)} {α:Type} {T:Ty α} {E:TypeId} {l m:List α} {b cap:Nat} {C:Array Value}
theorem Wh{t t2 ty:TypeId}{by_ c2:Nat}{a2:AcQ}(he:BF P t=some (E,T.sz,by_))(hni:RC P t2=true)
  (I:T.One) (hs:HS w0 F0 w F L) {k:Nat} (hk:L[k]? =some (some b,.cells C E (0,0))) (hr:Aq T E F (some ⟨b,0,none⟩) cap l (some b,.cells C E (0,0))) (hm:Rd T F w a2 m) (hfit:l.length + m.length<=cap) (hlen:l.length + m.length < 4398046511104):
  ∃ C',C'.size=C.size/\(Builtin.append_ #[t,t2] ty #[.slice (some ⟨b,0,none⟩) l.length cap,.slice a2 m.length c2]).run P w=.ok (.slice (some ⟨b,0,none⟩) (l++m).length cap) (Dd w b (.cells C' E (0,0)))/\Aq T E F (some ⟨b,0,none⟩) cap (l++m) (some b,.cells C' E (0,0)):=by
 obtain⟨i,hu,hi,his,hib⟩:=HN he;obtain⟨new,hnew,hload⟩:=hm.load (P:=P) c2;have hnl:=hnew.len;obtain⟨G,hd⟩:∃ G,P.underlying t2=some (.slice G):=by
  unfold RC at hni;split at hni
  ·rename_i G h;exact⟨G,h⟩
  ·cases hni
 unfold Builtin.append_;simp only[zU,yX,yD,xG,run_underlying hu,xC,EY hi,his];simp only[run_underlying hd,xC,xK,xU,if_false,Builtin.lenOf];simp only[pure_bind];rw[if_pos hfit];simp only[zN,if_true,xG,hload,xC];rcases hr.2 with⟨h,_⟩ | ⟨b',C0,hb',hc',hlc,hC,hx⟩
 ·cases h
 ·cases hb';cases hc';have hC1:l.length * T.sz + new.length<=C.size:=by rw[hC,hnl,<-yV];exact xY _ hfit
  have hst:=EW (P:=P) E new w b (l.length * T.sz) 0 C (hs.ownAt hk) (by simpa using hC1) (hnew.one I);refine⟨ED C (l.length * T.sz) new,IA _ _ _,?_,?_⟩
  ·simp only[Addr.add_lit,wT];simp only[vM]at hst;rw[hst];simp
  ·have hrow:FM T F l (Aw C 0 (l.length * T.sz)):=by
    by_cases hl:l=[]
    ·subst hl;simp[FM,Aw]
    ·exact KS hl (fun i x hi=>by rw[wT];exact hx i x hi)
   have hlr:=hrow.len;refine⟨by simpa using hlen,.inr ⟨b,_,rfl,rfl,by simpa using hfit,by rw[IA,hC],fun i x hix=>?_⟩⟩;have:=(FM.append hrow hnew).get i x hix;have hii:i < (l++m).length:=by
    rcases xR i (l++m).length with h' | h'
    ·exact h'
    ·rw[xI h']at hix;cases hix
   have hle:i * T.sz + T.sz<=(Aw C 0 (l.length * T.sz)++new).length:=by
    rw[xD,hlr,hnl,<-yV,<-zT];exact xY _ (Nat.succ_le_of_lt (by simpa using hii))
   have J:Aw C 0 (l.length * T.sz)=C.toList.take (l.length * T.sz):=by simp[Aw]
   unfold Aw;rw[My hC1];rw[J]at this hle;rw[yL (by omega),yK (by simp only[yI];omega)];exact this
theorem QY{t t2:TypeId}{by_ c2:Nat}{a2:AcQ}(he:BF P t=some (E,T.sz,by_))(hni:RC P t2=true)
  (G:T.One) (hs:HS w0 F0 w F L) {k:Nat} (hk:L[k]? =some (some b,.cells C E (0,0))) (hr:Aq T E F (some ⟨b,0,none⟩) cap l (some b,.cells C E (0,0))) (hm:Rd T F w a2 m) (hfit:l.length + m.length<=cap) (hlen:l.length + m.length < 4398046511104):
  ∃ C',C'.size=C.size/\Aq T E F (some ⟨b,0,none⟩) cap (l++m) (some b,.cells C' E (0,0))/\ ∀{ρ:Operand->Value} {x y:Operand} {ty:TypeId},ρ x=.slice (some ⟨b,0,none⟩) l.length cap->ρ y=.slice a2 m.length c2->
   (As ρ (.call {callee:=.builtin .append,args:=#[x,y],argTypes:=#[t,t2]}) ty).run P w=.ok (.value (.slice (some ⟨b,0,none⟩) (l++m).length cap)) (Dd w b (.cells C' E (0,0))):=by
 have key:=fun ty=>Wh (ty:=ty) (c2:=c2) he hni G hs hk hr hm hfit hlen;obtain⟨C',I,J,O⟩:=key 0;refine⟨C',I,O,fun{ρ x y ty} hx hy=>?_⟩;have Y:(Builtin.append_ #[t,t2] ty #[.slice (some ⟨b,0,none⟩) l.length cap,.slice a2 m.length c2]).run P w=.ok (.slice (some ⟨b,0,none⟩) (l++m).length cap) (Dd w b (.cells C' E (0,0))):=J;have Z:As ρ (.call {callee:=.builtin .append,args:=#[x,y],argTypes:=#[t,t2]}) ty=(do pure (Next.value (<-Builtin.append_ #[t,t2] ty (Array.map ρ #[x,y])))):=rfl;rw[Z,map_toArray];simp only[yH,zW,hx,hy];rw[xG,Y];rfl
theorem T5{o i:Nat}{vs:List Value}(ho:o + vs.length<=C.size)(hi:i * T.sz + T.sz<=o):Aw (ED C o vs) (i * T.sz) T.sz=Aw C (i * T.sz) T.sz:=by
 unfold Aw;rw[My ho,yG,yL (by simp;omega),yK (by simp;omega),wZ,List.take_take,wV (by omega)]
theorem TD{t:TypeId}{by_ j k c:Nat}{z:Value}(he:BF P t=some (E,T.sz,by_))(hz:Ce P E=some z)(hzs:z.cells.size=T.sz)(G:z.cells.toList.all (·.oneCell')=true)
  (hb:w.heap[b]? =some (.cells C E (0,0))) (hk:0 < k) (hfit:j * T.sz + k * T.sz<=C.size):
  ∃ vs,vs.length=k * T.sz/\ ∀{ρ:Operand->Value} {x:Operand} {ty:TypeId},ρ x=.slice (some ⟨b,j * T.sz,none⟩) k c->(As ρ (.call {callee:=.builtin .clear,args:=#[x],argTypes:=#[t]}) ty).run P w=.ok (.value (.tuple #[])) (Dd w b (.cells (ED C (j * T.sz) vs) E (0,0))):=by
 obtain⟨i,hu,hi,his,hib⟩:=HN he;have hzv:(zeroValue E).run P w=.ok z w:=by
  unfold Ce at hz;rw[hi]at hz;simp[zeroValue,typeInfo,hi,hz]
 have hsz:(Builtin.zeroCells z.cells k).toList.length=k * T.sz:=by simp[Builtin.zeroCells,hzs]
 have hone:(Builtin.zeroCells z.cells k).toList.all (·.oneCell')=true:=by
  rw[xN]at G ⊢;intro v hv;simp only[Builtin.zeroCells,Array.toList_map,List.mem_map]at hv;obtain⟨q,hq,rfl⟩:=hv;have hq':q < k * z.cells.size:=by simpa using hq
  have hpos:0 < z.cells.size:=by
   rcases zY z.cells.size with h | h
   ·rw[h]at hq';simp at hq'
   ·exact h
  have hlt:=Nat.mod_lt q hpos;rw[getElem!_pos z.cells _ hlt];exact G _ (by simp)
 have hst:=EW (P:=P) E (Builtin.zeroCells z.cells k).toList w b (j * T.sz) 0 C hb (by rw[hsz];simpa using hfit) hone;refine⟨(Builtin.zeroCells z.cells k).toList,hsz,fun{ρ x ty} hx=>?_⟩;have e:As ρ (.call {callee:=.builtin .clear,args:=#[x],argTypes:=#[t]}) ty=(do pure (Next.value (<-Builtin.clear_ #[t] ty (Array.map ρ #[x])))):=rfl;rw[e,map_toArray];simp only[yH,zW,hx];obtain⟨k',rfl⟩:∃ k',k=k' + 1:=⟨k - 1,by omega⟩;simp only[vM]at hst;simp[Builtin.clear_,run_underlying hu,hzv,hst,Result.andThen]
end
abbrev V7(x:(AcP×Bool)):List Value:=[.string ⟨(x.1).toArray⟩,.bool x.2]
abbrev Ys(_:Mem)(_:(AcP×Bool)):Prop:=True
abbrev Yh(x:(AcP×Bool)):(AcP×Bool):=x
theorem kl9:KL Tryz.prog 9 AJ:=KL.ofString (by kernel_rfl)
def AaT(x:Ae):Value:=.agg #[.int .i64 x.at_,.int .i64 x.stage_,.int .i64 x.num_,.int .i64 x.minute_]
def Zg(x y:Ae):Bool:=((x.at_==y.at_)&&((x.stage_==y.stage_)&&((x.num_==y.num_)&&((x.minute_==y.minute_)&&true))))
theorem AbF(x y:Ae):Zg x y=decide (x=y):=by
 rw[wD];unfold Zg;simp only[xB,beq_iff_eq,decide_eq_true_eq,and_true];constructor
 ·intro h;obtain⟨_,_,_,_⟩:=x;obtain⟨_,_,_,_⟩:=y
  simp_all [Ae.mk.injEq]
 ·rintro rfl;simp
theorem AaY:KL Tryz.prog 143 AH:=KL.ofStruct (d:=8) (by decide) AaT (fun h=>by obtain⟨_,rfl,rfl⟩:=h;rfl) (by kernel_rfl) (fun x=>by kernel_rfl) Zg (fun x y=>by kernel_rfl) AbF (fun x=>by simp[AaT,Instr.sameBits,beq_toListBytes])
theorem nR{P:Program}{ro:Option Nat}{n:Nat}{R:Array Oper}{c:Code}{Q Q':Exit->Fr->World->Prop}{f:Fr}{w:World}(l:List Nat)(h:RWP P ro n (O9 (cs1 c)) (K4 (CWP P ro n (cs2 c) Q) Q) l f w)(hk:kin c=3:=by kernel_rfl)(h1:kin (cs1 c)=1:=by kernel_rfl)(hok:okR n (O9 (cs1 c))=true:=by kernel_rfl)(hl:List.range (O9 (cs1 c)).size=l:=by kernel_rfl):RWP P ro n R (K4 (CWP P ro n c Q) Q') [] f w:=Nt (sR l h hk h1 hok hl)
abbrev cA(n:Nat)(l:List Value)(w0:World)(F0:Mem)(x:Value):Prop:=Calls Tryz.prog n (lA l) w0 (AD w0 F0 fun _ v=>v=x)
def AY(N:Nat)(I:(List AZ))(J:(AZ->Option Bool)):Int->Option (A2 Int Int):=fun G=>
 (bif(decide (G < (I.length:Int)))then((idx I G).bind fun O=>((J O).bind fun Y=>(bif Y then some (.ret G)else some (.next (W64 (G + 1))))))else some (.done G))
def B8(N:Nat)(G:(List AZ))(I:(AZ->Option Bool)):Option Int:=
 ((AF (AY N G I) N 0).bind fun o=>o.k (fun r=>some r) (fun h0=>some (-1)))
theorem FJ(N:Nat)(w0:World)(F0:Mem)(hF:AcR w0 F0)(G:(List AZ))(Z:AcQ)(h0:Nat)(b8:LC G.length h0)(h8:SlA Mk F0 Z G)(J:FuncId)(h1 h2:List Value)(x1:AZ->Option Bool)(h9:Ai Tryz.prog J)(ha:Vo F0 J h1 h2 x1)(r:Int)(h:B8 N G x1=some r):
  cA 183 [sL Z G h0,.func (.func J) h1.toArray h2.toArray] w0 F0 (vi r):=by
 have hb:=Acv hF;refine Go 19 Tryz.func183<|sR [0]<|Vs 1<|Nss<|sR [0,1,2]<|Vs 3<|Nt ?_;obtain⟨h4,hc,h5⟩:=bS h;refine AcA (fun f w=>∃(h6:Int)(F2:_),h4=.done h6/\HS w0 F0 w F2 []/\Acs F0 F2/\FI f [] []) ?_ ?_
 ·refine Bk<|Acr (by kernel_rfl) (fun m f w=>∃(I:Int)(F1:Mem),AF (AY N G x1) m I=some h4/\HS w0 F0 w F1 []/\Acs F0 F1/\FI f [] [(0,(sL Z G h0)),(1,(.func (.func J) h1.toArray h2.toArray)),(7,(vi (G.length:Int))),(8,(vi I))]) N ⟨0,F0,hc,hb,Acu _,fI⟩ ?_;rintro b9 f hg ⟨I,F1,hh,O,Y,⟨_,rfl⟩⟩;obtain⟨hm,ba,rfl,hn,h3⟩:=AB hh;refine sR [0]<|Vs 1<|Nss<|Cd hn (fun ho hp=>?_) (fun ho hq=>?_)
  ·refine Sc<|Ab<|Sq<|Bk<|sR [0,1]<|Vs 2<|nR (rG 6)<|Vs 3 ?_;obtain⟨hr,ht,hu⟩:=bS hp;obtain⟨hw,hx48'⟩:=Ag ht;obtain⟨bb,bc,bd,be,bf,rfl,hF57,hE58⟩:=AcB (Acw h8 Y) hx48';have hx:=hE58 _ _ hx48';refine Ix hw<|Lx 0 (O.pers _ _ hF57) hx ?_;obtain⟨bg,hy,hz⟩:=bS hu;refine Cq h9 O (ha hg F1 hr _ Y O.pers hy) ?_;rintro _ F3 bh h7 b0 rfl;refine Nt<|Cd hz (fun b1 b2=>?_) (fun b1 b3=>?_)
   ·refine sR [0,1]<|Vs 2<|Nt<|Rt<|Ar<|Ad<|Ad<|Ar ?_;have hret:=Bf b2 h3;subst hret;refine .inr<|Ad ?_;obtain rfl:=Aa h5;exact Re [vi I] h7 rfl
   ·refine Sc<|Am<|Ab<|Rg [0,1]<|Vs 2<|Aco ?_;have b4:=Ay b3 h3;exact⟨hm,xF _,W64 (I + 1),F3,b4,h7,Y.t b0,fI⟩
  ·refine Ex<|Ak<|Ak<|Av rfl ?_;have b5:=AA hq h3;exact .inl ⟨rfl,I,F1,b5,O,Y,fI⟩
 ·rintro f bi ⟨h6,F2,rfl,b6,bj,⟨_,rfl⟩⟩;have b7:=AW h5;refine Ab<|sR [0]<|Vs 1<|Nt<|Rt ?_;obtain rfl:=Aa b7;exact Re [vi (-1)] b6 rfl
def Be(N:Nat)(G:(List AZ))(I:(AZ->Option Bool)):Option Bool:=
 ((B8 N G I).bind fun J=>some (decide (J>=0)))
theorem EU(N:Nat)(w0:World)(F0:Mem)(hF:AcR w0 F0)(G:(List AZ))(J:AcQ)(O:Nat)(h1:LC G.length O)(h2:SlA Mk F0 J G)(I:FuncId)(Y Z:List Value)(x1:AZ->Option Bool)(h3:Ai Tryz.prog I)(h4:Vo F0 I Y Z x1)(r:Bool)(h:Be N G x1=some r):
  cA 137 [sL J G O,.func (.func I) Y.toArray Z.toArray] w0 F0 (.bool r):=by
 have h0:=Acv hF;refine Go 9 Tryz.func137<|sR [0]<|Vs 1<|nR (rG 5)<|Vs 2 ?_;obtain⟨h5,h6,h7⟩:=bS h;refine Cl' (cO 183) h0 (FJ N w0 F0 h0.pers G J O h1 h2 I Y Z x1 h3 (fun w1 F1 y0 r h8 h9 ha=>h4 w1 F1 y0 r h8 h9 ha) _ h6) ?_;rintro _ F1 hc hb hg rfl;refine Vs 2<|Nt<|Rt ?_;obtain rfl:=Aa h7;exact Re [.bool (decide (h5>=0))] hb rfl
abbrev cP:=Calls Tryz.prog
def D7(N:Nat)(G:Ac)(I:Af):Option (List AZ):=
 some [({has_:=G.Report,n_:=I.Report,most_:=599,digits_:=1}:AZ),({has_:=G.Serial,n_:=I.Serial,most_:=99999,digits_:=3}:AZ),({has_:=G.Zone,n_:=I.Zone,most_:=99,digits_:=2}:AZ)]
theorem HU(N:Nat)(w0:World)(F0:Mem)(hF:AcR w0 F0)(G:Ac)(I:Af)(r:(List AZ))(h:D7 N G I=some r):
  cP 138 (lA [.agg (Ah G),.agg (Bc I)]) w0 (AD w0 F0 fun F' v=>∃(Y:AcQ)(Z:Nat),v=(sL Y r Z)/\LC r.length Z/\SlA Mk F' Y r):=by
 have h1:=Acv hF;refine Go 21 Tryz.func138<|sR [0,1,2]<|Bx' 23 (Ah G) h1 (fun h7 h8 h2=>?_);refine Bx' 32 (Bc I) h2 (fun h9 ha J=>?_);refine Vs 1<|nR (rG 17)<|Vs 1<|Ld J.at1<|Vs 1<|Ld J.at0<|Vs 2<|Ld J.at1<|Vs 1<|Ld J.at0<|Vs 2 ?_;refine Ld J.at1<|Vs 1<|Ld J.at0<|Vs 1<|Bs 180 [.bool G.Report,vi I.Report,vi 599,vi 1,.bool G.Serial,vi I.Serial,vi 99999,vi 3,.bool G.Zone,vi I.Zone,vi 99,vi 2] J (fun O hb h3=>?_);have h0:Aq Mk 180 F0 (sA O) 3 [({has_:=G.Report,n_:=I.Report,most_:=599,digits_:=1}:AZ),({has_:=G.Serial,n_:=I.Serial,most_:=99999,digits_:=3}:AZ),({has_:=G.Zone,n_:=I.Zone,most_:=99,digits_:=2}:AZ)] (some O,.cells (lA [.bool G.Report,vi I.Report,vi 599,vi 1,.bool G.Serial,vi I.Serial,vi 99999,vi 3,.bool G.Zone,vi I.Zone,vi 99,vi 2]) 180 (0,0)):=AcJ ⟨rfl,⟨rfl,⟨rfl,rfl⟩⟩⟩ (by simp);refine Vs 1<|Nt<|Rt ?_;have h4:=AcH h0;obtain⟨F1,h5,hc,h6⟩:=h3.fr0 h0;obtain rfl:=Aa h;exact Re [sS O 0 [({has_:=G.Report,n_:=I.Report,most_:=599,digits_:=1}:AZ),({has_:=G.Serial,n_:=I.Serial,most_:=99999,digits_:=3}:AZ),({has_:=G.Zone,n_:=I.Zone,most_:=99,digits_:=2}:AZ)] 3] h5 ⟨some ⟨O,0,none⟩,3,rfl,h4,h6⟩
abbrev kP(w0:World)(F0 F1:Mem)(L:List oO)(a:List Deferred)(b:List (Nat×Value)):Fr->World->Prop:=fun f w=>∃F,HS w0 F0 w F L/\Acs F1 F/\FI f a b
def Jb(N:Nat)(G I J:Int):Option Bool:=
 some ((decide (G>=I))&&(decide (G<=J)))
theorem KX(N:Nat)(w0:World)(F0:Mem)(hF:AcR w0 F0)(G J O:Int)(r:Bool)(h:Jb N G J O=some r):
  cA 140 [vi G,vi J,vi O] w0 F0 (.bool r):=by
 have Y:=Acv hF;refine Go 15 Tryz.func140<|sR [0]<|Vs 1<|nR (rG 9)<|Acz (kP w0 F0 F0 [] [] [(6,(.bool ((decide (G>=J))&&(decide (G<=O)))))]) ?_ ?_
 ·refine Vs 4<|Acy (decide (G>=J)) (fun I=>?_) (fun I=>?_)
  ·refine Vgs I 3<|Pk1 I<|Vs 1 ?_;exact Aco ⟨rfl,F0,Y,Acu _,fJ ⟨congrArg Value.bool (Cv I rfl),trivial⟩⟩
  ·refine Ss I 3<|Pk0 I<|Vs 1 ?_;exact Aco ⟨rfl,F0,Y,Acu _,fJ ⟨congrArg Value.bool (FG I rfl),trivial⟩⟩
 ·rintro f h0 ⟨F1,Z,h1,⟨_,rfl⟩⟩;refine Ab<|Rt ?_;obtain rfl:=Aa h;exact Re [.bool ((decide (G>=J))&&(decide (G<=O)))] Z rfl
def CV(N:Nat)(G:AZ):Option Bool:=
 (((Jb N G.n_ 1 G.most_).bind fun I=>bif(!(G.has_==I))then some true else(bif(!G.has_)then some (G.n_ !=0)else some false)).bind fun J=>some J)
theorem Ly(N:Nat)(w0:World)(F0:Mem)(hF:AcR w0 F0)(G:AZ)(r:Bool)(h:CV N G=some r):
  cA 139 [.agg (Mt G)] w0 F0 (.bool r):=by
 have h3:=Acv hF;refine Go 21 Tryz.func139<|sR [0,1]<|Bx' 180 (Mt G) h3 (fun J hm h4=>?_);refine Vs 1<|Nss ?_;obtain⟨h1,h5,h6⟩:=bS h;refine RD 19 19 [sb J (Mt G) 180] [] h4 (kP w0 F0 F0 [] [] [(2,(.bool h1))]) (fun h7 h2=>?_) ?_
 ·refine Dvl [0] (tf 1 18)<|Dl 1 (fun _ hq=>hq.1.2 0 _ _ rfl)<|Dvl [2] (tf 3 16)<|Dl 3 (fun _ hq=>hq.1.2 0 _ _ rfl)<|Dvl [4] (tf 5 14)<|Dl 5 (fun _ hq=>hq.1.2 0 _ _ rfl)<|D1 6 ?_;obtain⟨hn,h8,h9⟩:=bS h5;refine DCl (cO 140) h2 (KX N h7 F0 h2.pers G.n_ 1 G.most_ _ h8) ?_;rintro _ Y ho Z h0 rfl;refine Dvl [7,8] (tf 9 10)<|Sd h9 (fun I ha=>?_) (fun I hb=>?_)
  ·refine Dkl [(9,12),(10,13),(11,14),(12,15)] 8 false 11 I (tf 13 6)<|Dul [(13,16),(14,17),(15,18)] 12 true 15 (tf 16 3)<|Dkl [(16,19)] 8 false 11 I (tf 17 2)<|Dtl 17 20 4 _ (tf 18 1) (fun _ hq=>p1 11 (.const bT) (.tmp 19) bT I)<|Dvl [18] (tf 19 0) ?_;obtain rfl:=Aa ha;exact AcG (by kernel_rfl) ⟨Y,Z.dr0,h0,fI⟩
  ·refine Dgl 9 12 0 (pt J 0) (tf 10 9) 8 false 11 I (fun _ hq=>fa 180 1 0 0 1 J 0 0) ?_;refine Dgl 10 13 4 _ (tf 11 8) 8 false 11 I (fun _ hq=>ld 4 12 J 0 false 1 (.bool G.has_) (hq.1.2 0 _ _ rfl))<|Dgl 11 14 4 (.bool (!G.has_)) (tf 12 7) 8 false 11 I (fun _ hq=>Tx (t:=4) (x:=.tmp 13) (a:=G.has_) rfl)<|Dgl 12 15 4 _ (tf 13 6) 8 false 11 I (fun _ hq=>mv 14 (.bool (!G.has_)))<|Sd hb (fun O hc=>?_) (fun O hg=>?_)
   ·refine Dgl 13 16 0 (pt J 1) (tf 14 5) 12 true 15 O (fun _ hq=>fa 180 1 1 1 1 J 0 1) ?_;refine Dgl 14 17 3 _ (tf 15 4) 12 true 15 O (fun _ hq=>ld 3 16 J 1 false 1 (vi G.n_) (hq.1.2 0 _ _ rfl))<|Dgl 15 18 4 (.bool (G.n_ !=0)) (tf 16 3) 12 true 15 O (fun _ hq=>Qr (t:=3) (t':=3) (x:=.tmp 17) (y:=.const (vi 0)) (k:=.i64) (a:=G.n_) (b:=0) rfl rfl)<|Dgl 16 19 4 _ (tf 17 2) 8 false 11 I (fun _ hq=>p1 15 (.tmp 18) (.const bF) (.bool (G.n_ !=0)) O)<|Dtl 17 20 4 _ (tf 18 1) (fun _ hq=>p0 11 (.const bT) (.tmp 19) (.bool (G.n_ !=0)) I)<|Dvl [18] (tf 19 0) ?_;obtain rfl:=Aa hc;exact AcG (by kernel_rfl) ⟨Y,Z.dr0,h0,fI⟩
   ·refine Dkl [(13,16),(14,17),(15,18)] 12 true 15 O (tf 16 3)<|Dgl 16 19 4 _ (tf 17 2) 8 false 11 I (fun _ hq=>p0 15 (.tmp 18) (.const bF) bF O)<|Dtl 17 20 4 _ (tf 18 1) (fun _ hq=>p0 11 (.const bT) (.tmp 19) bF I)<|Dvl [18] (tf 19 0) ?_;obtain rfl:=Aa hg;exact AcG (by kernel_rfl) ⟨Y,Z.dr0,h0,fI⟩
 ·rintro f hp ⟨F1,hh,hr,⟨_,rfl⟩⟩;refine Ab<|Rt ?_;obtain rfl:=Aa h6;exact Re [.bool h1] hh rfl
def CP(N:Nat)(G:Ac)(I:Af):Option Bool:=
 ((D7 N (lY G) ({Report:=I.Report,Serial:=I.Serial,Zone:=I.Zone}:Af)).bind fun J=>((Be N J (fun O=>CV N O)).bind fun Y=>some (!Y)))
theorem FK(N:Nat)(w0:World)(F0:Mem)(hF:AcR w0 F0)(G:Ac)(I:Af)(r:Bool)(h:CP N G I=some r):
  cA 75 [.agg (Ah G),.agg (Bc I)] w0 F0 (.bool r):=by
 have Z:=Acv hF;refine Go 10 Tryz.func75<|sR [0,1,2]<|Bx' 23 (Ah G) Z (fun hn ho h0=>?_);refine Bx' 32 (Bc I) h0 (fun hp h1 J=>?_);refine Vs 1<|nR (rG 6)<|Ld J.at1<|Ld J.at0 ?_;obtain⟨h2,h3,h4⟩:=bS h;refine Cl' (cO 138) J (HU N h1 F0 J.pers (lY G) ({Report:=I.Report,Serial:=I.Serial,Zone:=I.Zone}:Af) _ h3) ?_;rintro _ F1 h5 Y hq ⟨h6,h7,rfl,h8,h9⟩;obtain⟨ha,hb,hc⟩:=bS h4;refine Cl' (cO 137) Y (EU N h5 F1 Y.pers h2 h6 h7 h8 h9 139 [] [] (fun O=>CV N O) (cO 139) (fun w1 F1 O r hr hg hh=>Ly N w1 F1 hg O r hh) _ hb) ?_;rintro _ F2 ht hm hu rfl;refine Vs 2<|Nt<|Rt ?_;obtain rfl:=Aa hc;exact Re [.bool (!ha)] hm rfl
def DC(N:Nat)(G I J:Int):Option Bool:=
 some ((decide (I<=G))&&(decide (G<=J)))
theorem D5(N:Nat)(w0:World)(F0:Mem)(hF:AcR w0 F0)(G J O:Int)(r:Bool)(h:DC N G J O=some r):
  cA 150 [vi G,vi J,vi O] w0 F0 (.bool r):=by
 have Y:=Acv hF;refine Go 15 Tryz.func150<|sR [0]<|Vs 1<|nR (rG 9)<|Acz (kP w0 F0 F0 [] [] [(6,(.bool ((decide (J<=G))&&(decide (G<=O)))))]) ?_ ?_
 ·refine Vs 4<|Acy (decide (J<=G)) (fun I=>?_) (fun I=>?_)
  ·refine Vgs I 3<|Pk1 I<|Vs 1 ?_;exact Aco ⟨rfl,F0,Y,Acu _,fJ ⟨congrArg Value.bool (Cv I rfl),trivial⟩⟩
  ·refine Ss I 3<|Pk0 I<|Vs 1 ?_;exact Aco ⟨rfl,F0,Y,Acu _,fJ ⟨congrArg Value.bool (FG I rfl),trivial⟩⟩
 ·rintro f h0 ⟨F1,Z,h1,⟨_,rfl⟩⟩;refine Ab<|Rt ?_;obtain rfl:=Aa h;exact Re [.bool ((decide (J<=G))&&(decide (G<=O)))] Z rfl
def Is(N:Nat)(I:Bool)(G J:Int):Option Bool:=
 (bif I then((DC N G 1 J).bind fun O=>some O)else some (G==0))
theorem Ma(N:Nat)(w0:World)(F0:Mem)(hF:AcR w0 F0)(O:Bool)(G I:Int)(r:Bool)(h:Is N O G I=some r):
  cA 142 [.bool O,vi G,vi I] w0 F0 (.bool r):=by
 have J:=Acv hF;refine Go 13 Tryz.func142<|sR [0]<|Vs 1<|Nss<|sR [0]<|Vs 1<|Nt<|Cd h (fun Y Z=>?_) (fun Y h0=>?_)
 ·refine sR (rG 4)<|Vs 2 ?_;obtain⟨h1,h2,h3⟩:=bS Z;refine Cl' (cO 150) J (D5 N w0 F0 J.pers G 1 I _ h2) ?_;rintro _ F1 h5 h4 h6 rfl;refine Vs 1<|Nt<|Rt<|Ad ?_;obtain rfl:=Aa h3;exact Re [.bool h1] h4 rfl
 ·refine Sc<|Ab<|sR [0,1,2]<|Vs 3<|Nt<|Rt ?_;obtain rfl:=Aa h0;exact Re [.bool (G==0)] J rfl
def Cr(N:Nat)(G:Ac)(I:Af):Option Bool:=
 (((Is N G.Report I.Report 599).bind fun J=>(bif J then((Is N G.Serial I.Serial 99999).bind fun O=>(bif O then((Is N G.Zone I.Zone 99).bind fun Y=>some Y)else some false))else some false)).bind fun Z=>some Z)
theorem EM(N:Nat)(w0:World)(F0:Mem)(hF:AcR w0 F0)(J:Ac)(O:Af)(r:Bool)(h:Cr N J O=some r):
  cA 78 [.agg (Ah J),.agg (Bc O)] w0 F0 (.bool r):=by
 have h4:=Acv hF;refine Go 24 Tryz.func78<|sR [0,1,2]<|Bx' 23 (Ah J) h4 (fun hx hy h5=>?_);refine Bx' 32 (Bc O) h5 (fun hz h6 h0=>?_);refine Vs 1<|nR (rG 20) ?_;obtain⟨h2,h7,h8⟩:=bS h;refine Acz (kP w0 F0 F0 [] [] [(4,(.bool h2))]) ?_ ?_
 ·refine Vs 1<|Ld h0.at1<|Vs 1<|Ld h0.at0 ?_;obtain⟨b0,h9,ha⟩:=bS h7;refine Cl' (cO 142) h0 (Ma N h6 F0 h0.pers J.Report O.Report 599 _ h9) ?_;rintro _ F2 hb Y h1 rfl;refine Vs 1<|Sp ha (fun G hc=>?_) (fun G hg=>?_)
  ·refine Vgs G 1<|Lg G Y.at1<|Vgs G 1<|Lg G Y.at0 ?_;obtain⟨b1,hh,hm⟩:=bS hc;refine Cg G (cO 142) Y (Ma N hb F2 Y.pers J.Serial O.Serial 99999 _ hh) ?_;rintro _ F3 hn Z h3 rfl;refine Pk1 G<|Vs 1<|Sp hm (fun I ho=>?_) (fun I hp=>?_)
   ·refine Vgs I 1<|Lg I Z.at1<|Vgs I 1<|Lg I Z.at0 ?_;obtain⟨b2,hq,hr⟩:=bS ho;refine Cg I (cO 142) Z (Ma N hn F3 Z.pers J.Zone O.Zone 99 _ hq) ?_;rintro _ F4 b3 ht hu rfl;refine Pk1 I<|Vs 1 ?_;obtain rfl:=Aa hr;exact Aco ⟨rfl,F4,ht.dr0.dr0,(h1.t h3).trans hu,fI⟩
   ·refine Ss I 5<|Pk0 I<|Vs 1 ?_;obtain rfl:=Aa hp;exact Aco ⟨rfl,F3,Z.dr0.dr0,h1.t h3,fI⟩
  ·refine Ss G 5<|Pk0 G<|Vs 1<|Ss rF 5<|Pk0 rF<|Vs 1 ?_;obtain rfl:=Aa hg;exact Aco ⟨rfl,F2,Y.dr0.dr0,h1,fI⟩
 ·rintro f b4 ⟨F1,hw,b5,⟨_,rfl⟩⟩;refine Ab<|Rt ?_;obtain rfl:=Aa h8;exact Re [.bool h2] hw rfl
def HV(N:Nat)(I:AcP)(x1:Int)(J:(Int->Option Bool)):Nat->Option (A2 Bool Nat):=fun G=>
 (bif(decide (G < (I).length))then((J ((Ng I G).1:Int)).bind fun O=>bif(!O)then some (.ret false)else some (.next (G + (Ng I G).2)))else some (.done G))
def HW(N:Nat)(G:AcP)(I:Int)(J:(Int->Option Bool)):Option Bool:=
 ((AF (HV N G I J) N 0).bind fun o=>o.k (fun r=>some r) (fun h0=>((Jb N (G.length:Int) 1 I).bind fun O=>some O)))
theorem I9(N:Nat)(w0:World)(F0:Mem)(hF:AcR w0 F0)(G:AcP)(J:Int)(Y:FuncId)(h0 h1:List Value)(x2:Int->Option Bool)(hg:Ai Tryz.prog Y)(hh:PL F0 Y h0 h1 x2)(r:Bool)(h:HW N G J x2=some r):
  cA 198 [sv G,vi J,.func (.func Y) h0.toArray h1.toArray] w0 F0 (.bool r):=by
 have hm:=Acv hF;refine Go 22 Tryz.func198<|sR [0]<|Vs 1<|Nss<|sR [0,1]<|Vs 1<|RWP.srange (dst:=some 10) (ty:=0) (g:=none) (by kernel_rfl) rfl (t:=9) (x:=.tmp 9) (a:=G) rfl (by kernel_rfl) hm (fun O hn (ho:HS w0 F0 hn F0 [(some O,(.stringIter ⟨(G).toArray⟩ 0))])=>?_);refine Nt ?_;obtain⟨h6,hp,h7⟩:=bS h;refine AcA (fun f w=>∃h8 Z,h6=.done h8/\HS w0 F0 w Z []/\Acs F0 Z/\FI f [] [(0,(sv G)),(1,(vi J))]) ?_ ?_
 ·refine Bk<|Acr (by kernel_rfl) (fun m f w=>∃(I:Nat)(F1:Mem),AF (HV N G J x2) m I=some h6/\HS w0 F0 w F1 [(some O,(.stringIter ⟨(G).toArray⟩ I))]/\Acs F0 F1/\FI f [] [(0,(sv G)),(1,(vi J)),(2,(.func (.func Y) h0.toArray h1.toArray)),(10,(pt O 0))]) N ⟨0,F0,hp,ho,Acu _,fI⟩ ?_;rintro bb f bc ⟨I,F1,hq,h2,h3,⟨_,rfl⟩⟩;obtain⟨hr,bd,rfl,ht,h4⟩:=AB hq;refine sR [0,1]<|Sp ht (fun h5 hu=>?_) (fun h5 hw=>?_)
  ·refine RWP.snext1 (dst:=some 11) (ty:=0) (g:=none) (by kernel_rfl) rfl (x:=.tmp 10) (b:=O) (a:=G) (pos:=I) (k:=0) rfl h2 rfl h5 (fun h9 (ha:HS w0 F0 h9 F1 [(some O,(.stringIter ⟨(G).toArray⟩ (I + (Ng G I).2)))])=>?_);refine Vs 1<|Nss<|C1 rT<|Sc<|Ab<|Bk<|sR [0,1]<|Vs 2<|nR (rG 4)<|Vs 2 ?_;obtain⟨be,hx,hy⟩:=bS hu;refine Cq hg ha (hh h9 F1 ((Ng G I).1:Int) _ h3 ha.pers hx) ?_;rintro _ F3 bf hb hz rfl;refine Vs 1<|Nt<|Cd hy (fun b0 b1=>?_) (fun b0 b2=>?_)
   ·refine sR [0]<|Vs 1<|Nt<|Rt<|Ar<|Ad<|Ar ?_;have hret:=Bf b1 h4;subst hret;refine .inr<|Ad ?_;obtain rfl:=Aa h7;exact Re [bF] hb rfl
   ·refine Sc<|Am ?_;have b3:=Ay b2 h4;exact⟨hr,xF _,I + (Ng G I).2,F3,b3,hb,h3.t hz,fI⟩
  ·refine RWP.snext0 (dst:=some 11) (ty:=0) (g:=none) (by kernel_rfl) rfl (x:=.tmp 10) (b:=O) (a:=G) (pos:=I) (k:=0) rfl h2 rfl h5 ?_;refine Vs 1<|Nss<|C0 rF<|Ex<|Ak<|Ak<|Av rfl ?_;have b4:=AA hw h4;exact .inl ⟨rfl,I,F1,b4,h2.dr0,h3,fI⟩
 ·rintro f b5 ⟨h8,Z,rfl,hc,bg,⟨_,rfl⟩⟩;have b6:=AW h7;refine Ab<|sR (rG 5)<|Vs 3 ?_;obtain⟨b7,b8,b9⟩:=bS b6;refine Cl' (cO 140) hc (KX N b5 Z hc.pers (G.length:Int) 1 J _ b8) ?_;rintro _ F4 bh ba bi rfl;refine Vs 1<|Nt<|Rt ?_;obtain rfl:=Aa b9;exact Re [.bool b7] ba rfl
def BV(N:Nat)(G:Int):Option Bool:=
 some ((decide (G>=48))&&(decide (G<=57)))
theorem JG(N:Nat)(w0:World)(F0:Mem)(hF:AcR w0 F0)(G:Int)(r:Bool)(h:BV N G=some r):
  cA 199 [.int .i32 G] w0 F0 (.bool r):=by
 have J:=Acv hF;refine Go 9 Tryz.func199<|sR [0]<|Vs 1<|nR (rG 7)<|Acz (kP w0 F0 F0 [] [] [(2,(.bool ((decide (G>=48))&&(decide (G<=57)))))]) ?_ ?_
 ·refine Vs 3<|Acy (decide (G>=48)) (fun I=>?_) (fun I=>?_)
  ·refine Vgs I 2<|Pk1 I<|Vs 1 ?_;exact Aco ⟨rfl,F0,J,Acu _,fJ ⟨congrArg Value.bool (Cv I rfl),trivial⟩⟩
  ·refine Ss I 2<|Pk0 I<|Vs 1 ?_;exact Aco ⟨rfl,F0,J,Acu _,fJ ⟨congrArg Value.bool (FG I rfl),trivial⟩⟩
 ·rintro f h0 ⟨F1,O,h1,⟨_,rfl⟩⟩;refine Ab<|Rt ?_;obtain rfl:=Aa h;exact Re [.bool ((decide (G>=48))&&(decide (G<=57)))] O rfl
def CI(N:Nat)(G:Int):Option Bool:=
 some ((decide (G>=65))&&(decide (G<=90)))
theorem Ir(N:Nat)(w0:World)(F0:Mem)(hF:AcR w0 F0)(G:Int)(r:Bool)(h:CI N G=some r):
  cA 264 [.int .i32 G] w0 F0 (.bool r):=by
 have J:=Acv hF;refine Go 9 Tryz.func264<|sR [0]<|Vs 1<|nR (rG 7)<|Acz (kP w0 F0 F0 [] [] [(2,(.bool ((decide (G>=65))&&(decide (G<=90)))))]) ?_ ?_
 ·refine Vs 3<|Acy (decide (G>=65)) (fun I=>?_) (fun I=>?_)
  ·refine Vgs I 2<|Pk1 I<|Vs 1 ?_;exact Aco ⟨rfl,F0,J,Acu _,fJ ⟨congrArg Value.bool (Cv I rfl),trivial⟩⟩
  ·refine Ss I 2<|Pk0 I<|Vs 1 ?_;exact Aco ⟨rfl,F0,J,Acu _,fJ ⟨congrArg Value.bool (FG I rfl),trivial⟩⟩
 ·rintro f h0 ⟨F1,O,h1,⟨_,rfl⟩⟩;refine Ab<|Rt ?_;obtain rfl:=Aa h;exact Re [.bool ((decide (G>=65))&&(decide (G<=90)))] O rfl
def Fu(N:Nat)(G:Int):Option Bool:=
 (((CI N G).bind fun I=>(bif I then some true else((BV N G).bind fun J=>some J))).bind fun O=>some O)
theorem Ub(N:Nat)(w0:World)(F0:Mem)(hF:AcR w0 F0)(I:Int)(r:Bool)(h:Fu N I=some r):
  cA 265 [.int .i32 I] w0 F0 (.bool r):=by
 have O:=Acv hF;refine Go 9 Tryz.func265<|sR [0]<|Vs 1<|nR (rG 7) ?_;obtain⟨Y,h1,h2⟩:=bS h;refine Acz (kP w0 F0 F0 [] [] [(2,(.bool Y))]) ?_ ?_
 ·refine Vs 1 ?_;obtain⟨hg,h3,h4⟩:=bS h1;refine Cl' (cO 264) O (Ir N w0 F0 O.pers I _ h3) ?_;rintro _ Z h5 J h0 rfl;refine Vs 1<|Sp h4 (fun G h6=>?_) (fun G h7=>?_)
  ·refine Ss G 2<|Pk1 G<|Vs 1 ?_;obtain rfl:=Aa h6;exact Aco ⟨rfl,Z,J,h0,fI⟩
  ·refine Vgs G 1 ?_;obtain⟨hh,h8,h9⟩:=bS h7;refine Cg G (cO 199) J (JG N h5 Z J.pers I _ h8) ?_;rintro _ F3 hm ha hb rfl;refine Pk0 G<|Vs 1 ?_;obtain rfl:=Aa h9;exact Aco ⟨rfl,F3,ha,h0.t hb,fI⟩
 ·rintro f hn ⟨F1,hc,ho,⟨_,rfl⟩⟩;refine Ab<|Rt ?_;obtain rfl:=Aa h2;exact Re [.bool Y] hc rfl
section
open Go.Proofs Go.RowKit Go.Sort Go.Lib
def H0(p:Int->Option Bool)(x:Nat):Bool:=(p (x:Int)).getD false
def Ug(p:Int->Option Bool):Prop:=∀ x:Nat,x<=1114111->(p (x:Int)).isSome=true
def N0(p:Int->Option Bool):Bool:=(List.range 1114112).all fun x=>(p (x:Int)).isSome
theorem LH{p:Int->Option Bool}:N0 p=true ↔ Ug p:=by
 unfold N0 Ug;rw[xN];exact⟨fun h x hx=>h x (by rw[List.mem_range];omega),fun h x hx=>h x (by rw[List.mem_range]at hx;omega)⟩
theorem S8{w:World}{F:Mem}(hF:∀ b o,F b=some o->w.heap[b]? =some o){gq:FuncId}{k:List Value}{p:Int->Option Bool}(h:PL F gq [] k p)(ha:Ug p):PredGrows Tryz.prog gq k.toArray (H0 p) w:=by
 intro W x hx hb;have hr:=ha x hx;obtain⟨r,hr'⟩:=vW.1 hr;have:=h W F (x:Int) r (Acu F) (Below.pers hF hb) hr';have e:H0 p x=r:=by unfold H0;rw[hr'];rfl
 rw[e];have he:(#[encR x]++k.toArray:Array Value)=(([]:List Value)++(([.int .i32 (x:Int)]:List Value)++k)).toArray:=by
  apply wJ;simp[encR]
 rw[he];refine this.mono ?_;rintro e w' ⟨v,F',rfl,hs,rfl⟩;exact⟨rfl,hs.fix.1,hs.fix.2.2,hs.fix.2.1,hs.size,hs.keep⟩
def DA(_N:Nat)(I:AcP)(G:Int->Option Bool):Option Int:=
 if N0 G=true then some (Go.Lib.idxFunc (H0 G) true ⟨I.toArray⟩)else none
theorem MK(N:Nat)(w0:World)(F0:Mem)(hF:AcR w0 F0)(J:AcP)(G:FuncId)(I:List Value)(O:Int->Option Bool)(Y:Ai Tryz.prog G)(Z:PL F0 G [] I O)(r:Int)(h:DA N J O=some r):
  Calls Tryz.prog 266 ([.string ⟨(J).toArray⟩,.func (.func G) ([]:List Value).toArray I.toArray]:List Value).toArray w0 (AD w0 F0 fun _ v=>v=(.int .i64 r)):=by
 unfold DA at h;split at h
 ·rename_i ha;cases h;exact AcM hF (Tryz.strings_IndexFunc_grows G I.toArray Y _ _ w0 (S8 hF Z (LH.1 ha))) rfl
 ·cases h
def Dh(_N:Nat)(G:AcP)(I:Int->Option Bool)(J:Bool):Option Int:=
 if N0 I=true/\G.length<=9223372036854775807 then some (Go.Lib.lastIdxFunc (H0 I) J ⟨G.toArray⟩)else none
theorem Kn(N:Nat)(w0:World)(F0:Mem)(hF:AcR w0 F0)(hG:BH F0)(J:AcP)(G:FuncId)(I:List Value)(O:Int->Option Bool)(Z:Ai Tryz.prog G)(h0:PL F0 G [] I O)(Y:Bool)(r:Int)(h:Dh N J O Y=some r):
  Calls Tryz.prog 284 ([.string ⟨(J).toArray⟩,.func (.func G) ([]:List Value).toArray I.toArray,.bool Y]:List Value).toArray w0 (AD w0 F0 fun _ v=>v=(.int .i64 r)):=by
 unfold Dh at h;split at h
 ·rename_i ha;cases h;exact AcM hF (Tryz.strings_lastIndexFunc_grows G I.toArray Z _ _ _ w0 (by simpa [ByteArray.size]using ha.2) (hG w0 hF).2.1 (S8 hF h0 (LH.1 ha.1))) rfl
 ·cases h
def Tt(s sep:AcP):List AcP:=(Go.Lib.splitB ⟨sep.toArray⟩ 0 (Go.Lib.countB ⟨s.toArray⟩ ⟨sep.toArray⟩) ⟨s.toArray⟩).map (·.data.toList)
def strings_Split(_N:Nat)(s sep:AcP):Option (List AcP):=if s.length < 4294967281/\1<=sep.length then some (Tt s sep)else none
theorem EB(N:Nat)(w0:World)(F0:Mem)(hF:AcR w0 F0)(hG:BH F0)(I G:AcP)(r:List AcP)(h:strings_Split N I G=some r):
  Calls Tryz.prog 93 ([.string ⟨(I).toArray⟩,.string ⟨(G).toArray⟩]:List Value).toArray w0 (AD w0 F0 fun F' v=>∃(O:AcQ)(Y:Nat),v=(.slice O r.length Y)/\LC r.length Y/\SlA AJ F' O r):=by
 unfold strings_Split at h;split at h
 ·rename_i ha;cases h;obtain⟨m,hm⟩:=(hG w0 hF).2.2.1;have hs:(⟨I.toArray⟩:ByteArray).size < 4294967281:=by simpa [ByteArray.size]using ha.1
  have J:1<=(⟨G.toArray⟩:ByteArray).size:=by simpa [ByteArray.size]using ha.2
  have hle:=Go.Lib.countB_le ⟨G.toArray⟩ J _ ⟨I.toArray⟩ (xM _);exact AD.strs hF (Tryz.strings_Split _ _ m w0 hs hm J) (Go.Lib.splitB_all ⟨G.toArray⟩ J 0 _ _ rfl) (by omega)
 ·cases h
def strings_Cut(_N:Nat)(s sep:AcP):Option (AcP×AcP×Bool):=if s.length < 4294967281 then some (Go.Lib.cut s sep)else none
theorem M6(N:Nat)(w0:World)(F0:Mem)(hF:AcR w0 F0)(hG:BH F0)(G I:AcP)(r:AcP×AcP×Bool)(h:strings_Cut N G I=some r):
  Calls Tryz.prog 164 ([.string ⟨(G).toArray⟩,.string ⟨(I).toArray⟩]:List Value).toArray w0 (AD w0 F0 fun _ v=>v=(.tuple #[.string ⟨(r.1).toArray⟩,.string ⟨(r.2.1).toArray⟩,.bool r.2.2])):=by
 unfold strings_Cut at h;split at h
 ·rename_i ha;cases h;obtain⟨m,hm⟩:=(hG w0 hF).2.2.1;refine AcM hF ((Tryz.strings_Cut ⟨G.toArray⟩ ⟨I.toArray⟩ m w0 (by simpa [ByteArray.size]using ha) hm).mono ?_) rfl;rintro e w' ⟨rfl,n,rfl⟩;exact⟨rfl,Vk _ _⟩
 ·cases h
def strings_Repeat(_N:Nat)(s:AcP)(n:Int):Option AcP:=if 0<=n/\n<=9223372036854775807/\s.length * n.toNat<=140737488355328 then some (Go.Lib.repeatL s n.toNat)else none
theorem Ph(N:Nat)(w0:World)(F0:Mem)(hF:AcR w0 F0)(I:AcP)(G:Int)(r:AcP)(h:strings_Repeat N I G=some r):
  Calls Tryz.prog 186 ([.string ⟨(I).toArray⟩,.int .i64 G]:List Value).toArray w0 (AD w0 F0 fun _ v=>v=(.string ⟨(r).toArray⟩)):=by
 unfold strings_Repeat at h;split at h
 ·rename_i ha;cases h;have e:(G.toNat:Int)=G:=by omega
  have:=Tryz.strings_Repeat ⟨I.toArray⟩ G.toNat w0 (by omega) (by simpa [ByteArray.size]using ha.2.2);rw[e]at this;exact AcM hF this rfl
 ·cases h
def strings_Join(_N:Nat)(l:List AcP)(sep:AcP):Option AcP:=if l.length<=140737488355328/\(Go.Lib.join l sep).length<=140737488355328 then some (Go.Lib.join l sep)else none
theorem D4(N:Nat)(w0:World)(F0:Mem)(hF:AcR w0 F0)(G:(List AcP))(O:AcQ)(I:Nat)(Y:LC G.length I)(Z:SlA AJ F0 O G)(J r:AcP)(h:strings_Join N G J=some r):
  Calls Tryz.prog 84 ([.slice O G.length I,.string ⟨(J).toArray⟩]:List Value).toArray w0 (AD w0 F0 fun _ v=>v=(.string ⟨(r).toArray⟩)):=by
 unfold strings_Join at h;split at h
 ·rename_i ha;cases h;rcases Z with rfl | ⟨b,o,C,E,fz,rfl,hC,hx⟩
  ·refine AcM hF ((Tryz.strings_Join_none O I ⟨J.toArray⟩ w0).mono ?_) rfl;rintro e w' ⟨rfl,rfl⟩;exact⟨rfl,Below.refl _ _⟩
  ·have hb:=hF _ _ hC;have hmap:(G.map fun l=>(⟨l.toArray⟩:ByteArray)).map (·.data.toList)=G:=by
    rw[List.map_map];conv=>rhs;rw[<-List.map_id G]
    exact vQ fun l _=>by simp
   have:=Tryz.strings_Join b o I (G.map fun l=>⟨l.toArray⟩) ⟨J.toArray⟩ w0 (fun j x hj=>by
    rw[yU]at hj;cases hl:G[j]? with
    | none=>rw[hl]at hj;cases hj
    | some l=>
     rw[hl]at hj;cases hj;have hc:Aw C (o + j * 1) 1=[.string ⟨l.toArray⟩]:=hx j l hl;rw[Nat.mul_one]at hc;have:=L4.1 hc;simp[World.cell?,hb,this]) (BA hb) (by simpa using ha.1) (by simpa using Y.1) (by rw[hmap];exact ha.2)
   rw[hmap,xZ]at this;exact AcM hF this rfl
 ·cases h
def strconv_Itoa(_N:Nat)(n:Int):Option AcP:=if -9223372036854775808<=n/\n<=9223372036854775807 then some (Go.Lib.itoa n)else none
theorem Ba(N:Nat)(w0:World)(F0:Mem)(hF:AcR w0 F0)(hG:BH F0)(G:Int)(r:AcP)(h:strconv_Itoa N G=some r):
  Calls Tryz.prog 85 ([.int .i64 G]:List Value).toArray w0 (AD w0 F0 fun _ v=>v=(.string ⟨(r).toArray⟩)):=by
 unfold strconv_Itoa at h;split at h
 ·rename_i ha;cases h;refine AcM hF ((Tryz.strconv_Itoa G ha.1 ha.2 w0 (hG w0 hF).1).mono ?_) rfl;rintro e w' ⟨rfl,k,os,rfl⟩;exact⟨rfl,rfl,rfl,rfl,by simp[grow,World.drewN],fun j hj=>by
   show((w0.drewN k).heap++os)[j]? =_;rw[Array.getElem?_append_left (show j < (w0.drewN k).heap.size from hj)];rfl⟩
 ·cases h
def CW(_N:Nat)(s:AcP):Option (Int×Bool):=if s.length<=281474976710656 then(match Go.Lib.atoiAll s with
 | .ok v=>some (v,false)
 | .range=>some (Go.Lib.atoiSat s,true)
 | _=>some (0,true))else none
theorem L6(N:Nat)(w0:World)(F0:Mem)(hF:AcR w0 F0)(hG:BH F0)(G:AcP)(r:Int×Bool)(h:CW N G=some r):
  Calls Tryz.prog 163 ([.string ⟨(G).toArray⟩]:List Value).toArray w0 (AD w0 F0 fun _ v=>∃(I:Value),v=(.tuple #[.int .i64 r.1,I])/\Ab5 r.2 I):=by
 unfold CW at h;split at h
 ·rename_i ha;have hsz:(⟨G.toArray⟩:ByteArray).size<=281474976710656:=by simpa [ByteArray.size]using ha
  cases hv:Go.Lib.atoiAll G with
  | ok v=>
   rw[hv]at h;cases h;refine AcM hF ((Tryz.strconv_Atoi_ok ⟨G.toArray⟩ (by omega) v (by simpa using hv) w0).mono ?_) ⟨.nilIface,rfl,rfl⟩;rintro e w' ⟨rfl,(rfl | ⟨t,rfl⟩)⟩
   ·exact⟨rfl,Below.refl _ _⟩
   ·exact⟨rfl,rfl,rfl,rfl,by rw[Go.Lib.bytesWorld_size];omega,fun j hj=>Go.Lib.bytesWorld_at_old w0 _ _ j hj⟩
  | range=>
   rw[hv]at h;cases h;obtain⟨tp,p,hvar⟩:=(hG w0 hF).2.2.2.1;refine(Tryz.strconv_Atoi_range_var ⟨G.toArray⟩ hsz (by simpa using hv) tp p w0 hvar).mono ?_;rintro e w' ⟨n,rfl,_,_,hb⟩;exact⟨_,F0,rfl,HS.below hF hb,_,rfl,_,_,rfl⟩
  | _=>
   rw[hv]at h;cases h;obtain⟨tp,p,hvar⟩:=(hG w0 hF).2.2.2.2;refine(Tryz.strconv_Atoi_syntax_var ⟨G.toArray⟩ hsz (by simpa using hv) tp p w0 hvar).mono ?_;rintro e w' ⟨n,rfl,_,_,hb⟩;exact⟨_,F0,rfl,HS.below hF hb,_,rfl,_,_,rfl⟩
 ·cases h
def strings_Index(_N:Nat)(s sub:AcP):Option Int:=if s.length < 4294967281 then some (Go.Lib.index s sub)else none
theorem Lh(N:Nat)(w0:World)(F0:Mem)(hF:AcR w0 F0)(hG:BH F0)(G I:AcP)(r:Int)(h:strings_Index N G I=some r):
  Calls Tryz.prog 98 ([.string ⟨(G).toArray⟩,.string ⟨(I).toArray⟩]:List Value).toArray w0 (AD w0 F0 fun _ v=>v=(.int .i64 r)):=by
 unfold strings_Index at h;split at h
 ·rename_i ha;cases h;obtain⟨m,hm⟩:=(hG w0 hF).2.2.1;exact AcM hF ((Tryz.strings_Index ⟨G.toArray⟩ ⟨I.toArray⟩ m w0 (by simpa [ByteArray.size]using ha) hm).mono fun e w' ⟨he,hw⟩=>⟨he,hw ▸ Below.refl _ _⟩) rfl
 ·cases h
def strings_CutPrefix(_N:Nat)(s p:AcP):Option (AcP×Bool):=some (Go.Lib.trimPrefix s p,Go.Lib.hasPrefix s p)
theorem Bz(N:Nat)(w0:World)(F0:Mem)(hF:AcR w0 F0)(G I:AcP)(r:AcP×Bool)(h:strings_CutPrefix N G I=some r):
  Calls Tryz.prog 189 ([.string ⟨(G).toArray⟩,.string ⟨(I).toArray⟩]:List Value).toArray w0 (AD w0 F0 fun _ v=>v=(.tuple #[.string ⟨(r.1).toArray⟩,.bool r.2])):=by
 cases h;exact AcM hF ((Tryz.strings_CutPrefix ⟨G.toArray⟩ ⟨I.toArray⟩ w0).mono fun e w' ⟨he,hw⟩=>⟨he,hw ▸ Below.refl _ _⟩) rfl
def strings_TrimSuffix(_N:Nat)(s p:AcP):Option AcP:=if s.length<=9223372036854775807 then some (Go.Lib.trimSuffix s p)else none
theorem L5(N:Nat)(w0:World)(F0:Mem)(hF:AcR w0 F0)(G I r:AcP)(h:strings_TrimSuffix N G I=some r):
  Calls Tryz.prog 117 ([.string ⟨(G).toArray⟩,.string ⟨(I).toArray⟩]:List Value).toArray w0 (AD w0 F0 fun _ v=>v=(.string ⟨(r).toArray⟩)):=by
 unfold strings_TrimSuffix at h;split at h
 ·rename_i ha;cases h;exact AcM hF ((Tryz.strings_TrimSuffix ⟨G.toArray⟩ ⟨I.toArray⟩ w0 (by simpa [ByteArray.size]using ha)).mono fun e w' ⟨he,hw⟩=>⟨he,hw ▸ Below.refl _ _⟩) rfl
 ·cases h
end
def HX(N:Nat)(I:AcP):Option Bool:=
 (((HW N I 4 (fun G=>Fu N G)).bind fun J=>(bif J then((DA N I (fun G=>CI N G)).bind fun O=>some (decide (O>=0)))else some false)).bind fun Y=>some Y)
theorem NK(N:Nat)(w0:World)(F0:Mem)(hF:AcR w0 F0)(J:AcP)(r:Bool)(h:HX N J=some r):
  cA 225 [sv J] w0 F0 (.bool r):=by
 have h0:=Acv hF;refine Go 10 Tryz.func225<|sR [0]<|Vs 1<|nR (rG 8) ?_;obtain⟨h1,h3,h4⟩:=bS h;refine Acz (kP w0 F0 F0 [] [] [(2,(.bool h1))]) ?_ ?_
 ·refine Vs 1 ?_;obtain⟨hn,h5,h6⟩:=bS h3;refine Cl' (cO 198) h0 (I9 N w0 F0 h0.pers J 4 265 [] [] (fun G=>Fu N G) (cO 265) (fun w1 F1 G r h7 O Y=>Ub N w1 F1 O G r Y) _ h5) ?_;rintro _ F2 h8 Z h2 rfl;refine Vs 1<|Sp h6 (fun I h9=>?_) (fun I ha=>?_)
  ·refine Vgs I 1 ?_;obtain⟨ho,hb,hc⟩:=bS h9;refine Cg I (cO 266) Z (MK N h8 F2 Z.pers J 264 [] (fun G=>CI N G) (cO 264) (fun w1 F1 G r h7 O Y=>Ir N w1 F1 O G r Y) _ hb) ?_;rintro _ F3 hp hg hh rfl;refine Vgs I 1<|Pk1 I<|Vs 1 ?_;obtain rfl:=Aa hc;exact Aco ⟨rfl,F3,hg,h2.t hh,fI⟩
  ·refine Ss I 3<|Pk0 I<|Vs 1 ?_;obtain rfl:=Aa ha;exact Aco ⟨rfl,F2,Z,h2,fI⟩
 ·rintro f hq ⟨F1,hm,hr,⟨_,rfl⟩⟩;refine Ab<|Rt ?_;obtain rfl:=Aa h4;exact Re [.bool h1] hm rfl
def Cz(N:Nat)(G:AcP)(I:(Int->Option Bool)):Option Int:=
 ((Dh N G I true).bind fun J=>some J)
theorem Ko(N:Nat)(w0:World)(F0:Mem)(hF:AcR w0 F0)(hG:BH F0)(I:AcP)(G:FuncId)(J:List Value)(O:Int->Option Bool)(Z:Ai Tryz.prog G)(h0:PL F0 G [] J O)(r:Int)(h:Cz N I O=some r):
  cA 263 [sv I,.func (.func G) (lA []) J.toArray] w0 F0 (vi r):=by
 have Y:=Acv hF;refine Go 8 Tryz.func263<|sR [0]<|Vs 1<|nR (rG 4)<|Vs 2 ?_;obtain⟨h1,h2,h3⟩:=bS h;refine Cl' (cO 284) Y (Kn N w0 F0 Y.pers hG I G J O Z (fun w1 F1 y0 r h4 h5 h6=>h0 w1 F1 y0 r h4 h5 h6) true _ h2) ?_;rintro _ F1 h8 h7 h9 rfl;refine Vs 1<|Nt<|Rt ?_;obtain rfl:=Aa h3;exact Re [vi h1] h7 rfl
def ON(N:Nat)(G:AcP):Option (AcP×AcP×Bool):=
 ((Cz N G (fun J=>BV N J)).bind fun O=>(((IE G 0 (W64 (O + 1))).bind fun Y=>((IE G (W64 (O + 1)) (G.length:Int)).bind fun Z=>some (Y,Z))).bind fun I=>((bif(decide ((W64 (O + 1)) > 0))then((HX N I.1).bind fun h0=>(bif h0 then((HW N I.2 4 (fun J=>CI N J)).bind fun h1=>some h1)else some false))else some false).bind fun h2=>some (I.1,I.2,h2))))
theorem Wc(N:Nat)(w0:World)(F0:Mem)(hF:AcR w0 F0)(hG:BH F0)(J:AcP)(r:(AcP×AcP×Bool))(h:ON N J=some r):
  cA 222 [sv J] w0 F0 (.tuple #[sv r.1,sv r.2.1,.bool r.2.2]):=by
 have h5:=Acv hF;refine Go 27 Tryz.func222<|sR [0,1,2]<|Vs 3<|nR (rG 4)<|Vs 1 ?_;obtain⟨h0,ha,hb⟩:=bS h;refine Cl' (cO 263) h5 (Ko N w0 F0 h5.pers hG J 199 [] (fun I=>BV N I) (cO 199) (fun w1 F1 I r hc h1 h2=>JG N w1 F1 h1 I r h2) _ ha) ?_;rintro _ F1 ba hg bb rfl;refine Vs 2<|Nss ?_;obtain⟨G,hh,hm⟩:=bS hb;refine RD 8 8 [] [] hg (kP w0 F0 F1 [] [] [(2,(sv G.1)),(3,(sv G.2)),(5,(vi (W64 (h0 + 1))))]) (fun bc hn=>?_) ?_
 ·refine Dv [0,1] ?_;obtain⟨h6,ho,hp⟩:=bS hh;refine Dt 2 11 9 (sv h6) (fun _ hq=>DB (t:=9) (x:=.tmp 9) (lo:=none) (hi:=some (.tmp 10)) (a:=J) (il:=0) (ih:=W64 (h0 + 1)) (v:=h6) rfl (by kernel_rfl) rfl rfl ho)<|Dv [3,4] ?_;obtain⟨h7,hr,ht⟩:=bS hp;refine Dt 5 14 9 (sv h7) (fun _ hq=>DB (t:=9) (x:=.tmp 12) (lo:=some (.tmp 13)) (hi:=none) (a:=J) (il:=W64 (h0 + 1)) (ih:=(J.length:Int)) (v:=h7) rfl (by kernel_rfl) rfl rfl hr)<|Dv [6,7] ?_;obtain rfl:=Aa ht;exact AcG (by kernel_rfl) ⟨F1,hn,Acu _,fI⟩
 ·rintro f hu ⟨O,h3,bd,⟨_,rfl⟩⟩;refine Ab<|sR (rG 15) ?_;obtain⟨h8,hw,hx⟩:=bS hm;refine Acz (kP w0 F0 O [] [] [(2,(sv G.1)),(3,(sv G.2)),(4,(.bool h8))]) ?_ ?_
  ·refine Vs 5<|Sp hw (fun Y hy=>?_) (fun Y hz=>?_)
   ·refine Vgs Y 1 ?_;obtain⟨be,b0,b1⟩:=bS hy;refine Cg Y (cO 225) h3 (NK N hu O h3.pers G.1 _ b0) ?_;rintro _ F4 b2 h4 h9 rfl;refine Pk1 Y<|Vs 1<|Sp b1 (fun Z b3=>?_) (fun Z b4=>?_)
    ·refine Vgs Z 1 ?_;obtain⟨bf,b5,b6⟩:=bS b3;refine Cg Z (cO 198) h4 (I9 N b2 F4 h4.pers G.2 4 264 [] [] (fun I=>CI N I) (cO 264) (fun w1 F1 I r hc h1 h2=>Ir N w1 F1 h1 I r h2) _ b5) ?_;rintro _ F5 bg b7 b8 rfl;refine Pk1 Z<|Vs 3 ?_;obtain rfl:=Aa b6;exact Aco ⟨rfl,F5,b7,h9.t b8,fI⟩
    ·refine Ss Z 2<|Pk0 Z<|Vs 3 ?_;obtain rfl:=Aa b4;exact Aco ⟨rfl,F4,h4,h9,fI⟩
   ·refine Ss Y 2<|Pk0 Y<|Vs 1<|Ss rF 2<|Pk0 rF<|Vs 3 ?_;obtain rfl:=Aa hz;exact Aco ⟨rfl,O,h3,Acu _,fI⟩
  ·rintro f bh ⟨F3,b9,bi,⟨_,rfl⟩⟩;refine Ab<|Rt ?_;obtain rfl:=Aa hx;exact Re [sv G.1,sv G.2,.bool h8] b9 rfl
theorem aK{P:Program}{w:World}{f:Fr}{rs:Array ResultVar}(l:List ResultVar)(vs:List Value)(h:Zv P w f l vs)(hr:rs.toList=l:=by kernel_rfl):(EZ rs f).run P w=.ok (Nf vs) w:=AK hr h
theorem aL{P:Program}{w:World}(t s:Nat){b o:Nat}{C:Array Value}{E:TypeId}{fz:Nat×Nat}(hb:w.heap[b]? =some (.cells C E fz))(ht:Gh P t=some (true,s):=by kernel_rfl)(hl:(Aw C o s).length=s:=by exact rfl):(loadVar t ⟨b,o,none⟩).run P w=.ok (mkV true (Aw C o s)) w:=Al ht hb hl (.inl rfl)
def AN(N:Nat)(I:AcP):Option (BQ×Bool):=
 ((ON N I).bind fun G=>some (({Area:=([]:AcP),Prefix:=G.1,Suffix:=G.2.1,Stroke:=([]:AcP)}:BQ),G.2.2))
theorem Hz(N:Nat)(w0:World)(F0:Mem)(hF:AcR w0 F0)(hG:BH F0)(I:AcP)(r:(BQ×Bool))(h:AN N I=some r):
  cA 221 [sv I] w0 F0 (.tuple #[.agg (El r.1),.bool r.2]):=by
 have Y:=Acv hF;refine Go 17 Tryz.func221<|sR [0,1]<|Al' 186 #[sE,sE,sE,sE] Y (fun Z h0 J=>?_);refine Vs 1<|nR (rG 9)<|Vs 1 ?_;obtain⟨G,h1,h2⟩:=bS h;refine Cl' (cO 222) J (Wc N h0 F0 J.pers hG I _ h1) ?_;rintro _ F1 h4 h3 h5 rfl;refine Vs 7<|nR (rG 6)<|Vs 4<|St0 #[sE,sv G.1,sv G.2.1,sE] h3 (fun h6 O=>?_);refine Vs 1<|Nt<|Rt ?_;obtain rfl:=Aa h2;exact⟨rfl,.tuple #[.agg #[sE,sv G.1,sv G.2.1,sE],.bool G.2.2],aK [.cell 2 186,.tmp 3] [.agg #[sE,sv G.1,sv G.2.1,sE],.bool G.2.2] ⟨Z,0,rfl,aL 186 4 O.at0,⟨rfl,trivial⟩⟩,.tuple #[.agg #[sE,sv G.1,sv G.2.1,sE],.bool G.2.2],F1,rfl,O.clear,rfl⟩
def Ft(N:Nat)(J:(List AcP))(z0:(AcP->Option (BQ×Bool))):Option (BQ×Bool):=
 (((idx J 0).bind fun O=>((z0 O).bind fun G=>some (G.2,G.1.Area,G.1.Prefix,G.1.Suffix,G.1.Stroke))).bind fun I=>some (({Area:=I.2.1,Prefix:=I.2.2.1,Suffix:=I.2.2.2.1,Stroke:=I.2.2.2.2}:BQ),I.1))
theorem SW(N:Nat)(w0:World)(F0:Mem)(hF:AcR w0 F0)(O:(List AcP))(h1:AcQ)(h2:Nat)(hz:LC O.length h2)(h7:SlA AJ F0 h1 O)(h3:Nat)(z0:(AcP->Option (BQ×Bool)))(Y:FuncId)(I J:List Value)(h8:Ai Tryz.prog Y)(h9:Mj F0 Y I J z0)(ha:F0 h3=some (oc #[.func (.func Y) I.toArray J.toArray] 188))(r:(BQ×Bool))(h:Ft N O z0=some r):
  cA 223 [sL h1 O h2,pt h3 0] w0 F0 (.tuple #[.agg (El r.1),.bool r.2]):=by
 have hb:=Acv hF;refine Go 12 Tryz.func223<|sR [0,1]<|Al' 186 #[sE,sE,sE,sE] hb (fun Z b0 hc=>?_);refine Vs 1<|Nss ?_;obtain⟨G,hg,hh⟩:=bS h;refine RD 9 9 [] [] hc (kP w0 F0 F0 [sb Z #[sv G.2.1,sv G.2.2.1,sv G.2.2.2.1,sv G.2.2.2.2] 186] [] [(3,(pt Z 0)),(4,(.bool G.1))]) (fun hm h4=>?_) ?_
 ·refine Dl 0 (fun _ hq=>hq.1.1 _ _ ha) ?_;refine Dv [1] ?_;obtain⟨h0,hn,ho⟩:=bS hg;obtain⟨hp,hx36'⟩:=Ag hn;obtain⟨b1,b2,b3,b4,b5,rfl,hF45,hE46⟩:=AcB h7 hx36';have hr:=hE46 _ _ hx36';refine Di 2 hp<|Dx 3 0 (fun _ hq=>hq.1.1 _ _ hF45) hr<|D1 4 ?_;obtain⟨ht,hu,hw⟩:=bS ho;refine AcF (l':=[tt,tt,tt,tt,tt,ff,ff,ff,ff]) (zd:=true) (by kernel_rfl) (by kernel_rfl) (by kernel_rfl) (dst:=some 9) (ty:=187) (g:=none) (by kernel_rfl) rfl (f0:=.tmp 5) (aos:=#[.tmp 8]) (ats:=#[9]) (fid:=Y) (first:=I.toArray) (cap:=J.toArray) (args:=I++(([sv h0]:List Value)++J)) rfl h8 (GD (l:=[sv h0]) (fi:=I) (k:=J) rfl) h4 (h9 hm F0 h0 _ (Acu _) h4.pers hu) ?_;rintro _ F2 b6 hx h5 rfl;refine Dv [5,6]<|D1 7<|EF (El ht.1) hx h5 (fun b7 hy=>?_);refine Dv [8] ?_;obtain rfl:=Aa hw;exact AcG (by kernel_rfl) ⟨F2,hy,h5,fI⟩
 ·rintro f b8 ⟨F1,h6,b9,⟨_,rfl⟩⟩;refine Ab<|Rt ?_;obtain rfl:=Aa hh;exact⟨rfl,.tuple #[.agg #[sv G.2.1,sv G.2.2.1,sv G.2.2.2.1,sv G.2.2.2.2],.bool G.1],aK [.cell 3 186,.tmp 4] [.agg #[sv G.2.1,sv G.2.2.1,sv G.2.2.2.1,sv G.2.2.2.2],.bool G.1] ⟨Z,0,rfl,aL 186 4 h6.at0,⟨rfl,trivial⟩⟩,.tuple #[.agg #[sv G.2.1,sv G.2.2.1,sv G.2.2.2.1,sv G.2.2.2.2],.bool G.1],F1,rfl,h6.clear,rfl⟩
def Fq(N:Nat)(I:(List AcP))(z0:(AcP->Option (BQ×Bool))):Option (BQ×Bool):=
 (((idx I 1).bind fun Z=>((z0 Z).bind fun J=>some (J.2,J.1.Area,J.1.Prefix,J.1.Suffix,J.1.Stroke))).bind fun G=>((idx I 0).bind fun Y=>((bif G.1 then((idx I 0).bind fun h0=>((HX N h0).bind fun h1=>(bif h1 then((idx I 0).bind fun h2=>((idx I 1).bind fun h3=>some ((decide ((h2.length:Int) < (h3.length:Int))),Y,G.2.2.1,G.2.2.2.1,G.2.2.2.2)))else some (false,Y,G.2.2.1,G.2.2.2.1,G.2.2.2.2))))else some (false,Y,G.2.2.1,G.2.2.2.1,G.2.2.2.2)).bind fun O=>some (({Area:=O.2.1,Prefix:=O.2.2.1,Suffix:=O.2.2.2.1,Stroke:=O.2.2.2.2}:BQ),O.1))))
theorem SV(N:Nat)(w0:World)(F0:Mem)(hF:AcR w0 F0)(Z:(List AcP))(hc:AcQ)(h3:Nat)(cm:LC Z.length h3)(ho:SlA AJ F0 hc Z)(hp:Nat)(z0:(AcP->Option (BQ×Bool)))(h8:FuncId)(h0 h1:List Value)(hr:Ai Tryz.prog h8)(ht:Mj F0 h8 h0 h1 z0)(b1:F0 hp=some (oc #[.func (.func h8) h0.toArray h1.toArray] 188))(r:(BQ×Bool))(h:Fq N Z z0=some r):
  cA 224 [sL hc Z h3,pt hp 0] w0 F0 (.tuple #[.agg (El r.1),.bool r.2]):=by
 have b2:=Acv hF;refine Go 38 Tryz.func224<|sR [0,1]<|Al' 186 #[sE,sE,sE,sE] b2 (fun h4 cn b3=>?_);refine Vs 1<|Nss ?_;obtain⟨G,b4,b5⟩:=bS h;refine RD 11 11 [sb h4 #[sE,sE,sE,sE] 186] [] b3 (fun f w=>∃F1 ha,HS w0 F0 w F1 [sb ha #[sv G.2.1,sv G.2.2.1,sv G.2.2.2.1,sv G.2.2.2.2] 186,sb h4 #[sE,sE,sE,sE] 186]/\Acs F0 F1/\FI f [] [(0,(sL hc Z h3)),(3,(pt h4 0)),(5,(pt ha 0)),(6,(.bool G.1))]) (fun b6 hg=>?_) ?_
 ·refine Dl 0 (fun _ hq=>hq.1.1 _ _ b1) ?_;refine Dv [1] ?_;obtain⟨h5,b7,hu⟩:=bS b4;obtain⟨b8,hx39'⟩:=Ag b7;obtain⟨co,cp,cq,cr,ct,rfl,hF48,hE49⟩:=AcB ho hx39';have b9:=hE49 _ _ hx39';refine Di 2 b8<|Dx 3 0 (fun _ hq=>hq.1.1 _ _ hF48) b9<|AcC (i:=4) (j:=8) (by kernel_rfl) ?_ ?_
  ·obtain⟨ba,bb,bc⟩:=bS hu;refine AcF (l':=[tt,tt,tt,tt,tt,ff,ff,ff,ff,ff,ff]) (zd:=true) (by kernel_rfl) (by kernel_rfl) (by kernel_rfl) (dst:=some 12) (ty:=187) (g:=none) (by kernel_rfl) rfl (f0:=.tmp 8) (aos:=#[.tmp 11]) (ats:=#[9]) (fid:=h8) (first:=h0.toArray) (cap:=h1.toArray) (args:=h0++(([sv h5]:List Value)++h1)) rfl hr (GD (l:=[sv h5]) (fi:=h0) (k:=h1) rfl) hg (ht b6 F0 h5 _ (Acu _) hg.pers bb) ?_;rintro _ F2 cu bd hh rfl;refine Dv [5,6,7]<|D1 8<|DAl 186 #[sE,sE,sE,sE] bd hh (fun be cv bf=>?_);refine D1 9<|EF (El ba.1) bf hh (fun cw bg=>?_);refine Dv [10] ?_;obtain rfl:=Aa bc;exact AcG (by kernel_rfl) ⟨F2,be,bg,hh,fI⟩
  ·refine DAl 186 #[sE,sE,sE,sE] hg (Acu _) (fun bh bi hw=>?_);refine D1 4 ?_;obtain⟨bj,bk,bl⟩:=bS hu;refine AcF (l':=[tt,tt,tt,tt,tt,ff,ff,ff,tt,ff,ff]) (zd:=true) (by kernel_rfl) (by kernel_rfl) (by kernel_rfl) (dst:=some 12) (ty:=187) (g:=none) (by kernel_rfl) rfl (f0:=.tmp 8) (aos:=#[.tmp 11]) (ats:=#[9]) (fid:=h8) (first:=h0.toArray) (cap:=h1.toArray) (args:=h0++(([sv h5]:List Value)++h1)) rfl hr (GD (l:=[sv h5]) (fi:=h0) (k:=h1) rfl) hw (ht bi F0 h5 _ (Acu _) hw.pers bk) ?_;rintro _ F3 cx bm hx rfl;refine Dv [5,6,7]<|D1 9<|EF (El bj.1) bm hx (fun cy bn=>?_);refine Dv [10] ?_;obtain rfl:=Aa bl;exact AcG (by kernel_rfl) ⟨F3,bh,bn,hx,fI⟩
 ·rintro f cz ⟨F1,ha,hy,bo,⟨_,rfl⟩⟩;refine Ab<|sR (rG 5)<|Vs 1 ?_;obtain⟨h9,bp,bq⟩:=bS b5;obtain⟨br,hx79'⟩:=Ag bp;obtain⟨O,Y,d0,d1,d2,rfl,hF88,hE89⟩:=AcB (Acw ho bo) hx79';have bs:=hE89 _ _ hx79';refine Ix br<|Lx 0 (hy.pers _ _ hF88) bs<|Vs 1<|St0 #[sv h9,sv G.2.2.1,sv G.2.2.2.1,sv G.2.2.2.2] hy (fun d3 bt=>?_);refine Nss ?_;obtain⟨I,bu,bv⟩:=bS bq;refine RD 21 21 [sb ha #[sv h9,sv G.2.2.1,sv G.2.2.2.1,sv G.2.2.2.2] 186] [] bt (kP w0 F0 F1 [sb h4 #[sv I.2.1,sv I.2.2.1,sv I.2.2.2.1,sv I.2.2.2.2] 186] [] [(3,(pt h4 0)),(4,(.bool I.1))]) (fun bw hm=>?_) ?_
  ·refine Dl 0 (fun _ hq=>hq.1.2 0 _ _ rfl) ?_;refine Dvl [1,2] (tf 3 18)<|Sd bu (fun h2 bx=>?_) (fun h2 bz=>?_)
   ·refine Dgl 3 22 55 _ (tf 4 17) 2 true 21 h2 (fun _ hq=>mv 0 (sS O Y Z h3)) ?_;obtain⟨hn,c0,c1⟩:=bS bx;obtain⟨c3,hx109'⟩:=Ag c0;have c4:=hE89 _ _ hx109';refine Dgl 4 23 0 (.pointer (some ⟨O,Y + (0:Int).toNat * 1,none⟩)) (tf 5 16) 2 true 21 h2 (fun _ hq=>Co (t:=55) (x:=.tmp 22) (y:=.const (vi 0)) (b:=O) (o:=Y) (E:=9) (s:=1) (by_:=16) rfl rfl (by kernel_rfl) c3)<|Dgl 5 24 9 _ (tf 6 15) 2 true 21 h2 (fun _ hq=>lx 9 23 0 1 false 1 (sv hn) (hq.1.1 _ _ hF88) c4)<|D1 6 ?_;obtain⟨c5,c6,c7⟩:=bS c1;refine AcF (l':=[tt,tt,tt,tt,tt,tt,tt,ff,ff,ff,ff,ff,ff,ff,ff,ff,ff,ff,ff,ff,ff]) (zd:=true) (by kernel_rfl) (by kernel_rfl) (by kernel_rfl) (dst:=some 25) (ty:=4) (g:=some (2,true)) (by kernel_rfl) (KI (d:=21) (by kernel_rfl) rfl h2) (f0:=.func 225) (aos:=#[.tmp 24]) (ats:=#[9]) (fid:=225) (first:=#[]) (cap:=#[]) (args:=[sv hn]) rfl (cO 225) rfl hm (NK N bw F1 hm.pers hn _ c6) ?_;rintro _ F5 d4 hz hb rfl;refine Dtl 7 26 4 _ (tf 8 13) (fun _ hq=>p1 21 (.tmp 25) (.const bF) (.bool c5) h2)<|Dvl [8] (tf 9 12)<|Sd c7 (fun J c8=>?_) (fun J c9=>?_)
    ·refine Dgl 9 28 55 _ (tf 10 11) 8 true 27 J (fun _ hq=>mv 0 (sS O Y Z h3)) ?_;obtain⟨h6,ca,cb⟩:=bS c8;obtain⟨cc,hx126'⟩:=Ag ca;have cd:=hE89 _ _ hx126';refine Dgl 10 29 0 (.pointer (some ⟨O,Y + (0:Int).toNat * 1,none⟩)) (tf 11 10) 8 true 27 J (fun _ hq=>Co (t:=55) (x:=.tmp 28) (y:=.const (vi 0)) (b:=O) (o:=Y) (E:=9) (s:=1) (by_:=16) rfl rfl (by kernel_rfl) cc)<|Dgl 11 30 9 _ (tf 12 9) 8 true 27 J (fun _ hq=>lx 9 29 0 1 false 1 (sv h6) (hq.1.1 _ _ hF88) cd)<|Dgl 12 31 3 (vi (h6.length:Int)) (tf 13 8) 8 true 27 J (fun _ hq=>LD (x:=.tmp 30) (ats:=#[9]) (t:=9) (a:=h6) rfl rfl (by kernel_rfl))<|Dgl 13 32 55 _ (tf 14 7) 8 true 27 J (fun _ hq=>mv 0 (sS O Y Z h3)) ?_;obtain⟨h7,ce,cf⟩:=bS cb;obtain⟨cg,hx132'⟩:=Ag ce;have ch:=hE89 _ _ hx132';refine Dgl 14 33 0 (.pointer (some ⟨O,Y + (1:Int).toNat * 1,none⟩)) (tf 15 6) 8 true 27 J (fun _ hq=>Co (t:=55) (x:=.tmp 32) (y:=.const (vi 1)) (b:=O) (o:=Y) (E:=9) (s:=1) (by_:=16) rfl rfl (by kernel_rfl) cg)<|Dgl 15 34 9 _ (tf 16 5) 8 true 27 J (fun _ hq=>lx 9 33 0 1 false 1 (sv h7) (hq.1.1 _ _ hF88) ch)<|Dgl 16 35 3 (vi (h7.length:Int)) (tf 17 4) 8 true 27 J (fun _ hq=>LD (x:=.tmp 34) (ats:=#[9]) (t:=9) (a:=h7) rfl rfl (by kernel_rfl))<|Dgl 17 36 4 (.bool (decide ((h6.length:Int) < (h7.length:Int)))) (tf 18 3) 8 true 27 J (fun _ hq=>Ky (t:=3) (t':=3) (x:=.tmp 31) (y:=.tmp 35) (k:=.i64) (a:=(h6.length:Int)) (b:=(h7.length:Int)) rfl rfl)<|Dtl 18 37 4 _ (tf 19 2) (fun _ hq=>p1 27 (.tmp 36) (.const bF) (.bool (decide ((h6.length:Int) < (h7.length:Int)))) J)<|D1 19<|Qp #[sv h9,sv G.2.2.1,sv G.2.2.2.1,sv G.2.2.2.2] hz hb (fun d6 ci=>?_);refine Dvl [20] (tf 21 0) ?_;obtain rfl:=Aa cf;exact AcG (by kernel_rfl) ⟨F5,ci.dr0,hb,fI⟩
    ·refine Dkl [(9,28),(10,29),(11,30),(12,31),(13,32),(14,33)] 8 true 27 J (tf 15 6)<|Dkl [(15,34),(16,35),(17,36)] 8 true 27 J (tf 18 3)<|Dtl 18 37 4 _ (tf 19 2) (fun _ hq=>p0 27 (.tmp 36) (.const bF) bF J)<|D1 19<|Qp #[sv h9,sv G.2.2.1,sv G.2.2.2.1,sv G.2.2.2.2] hz hb (fun d7 cj=>?_);refine Dvl [20] (tf 21 0) ?_;obtain rfl:=Aa c9;exact AcG (by kernel_rfl) ⟨F5,cj.dr0,hb,fI⟩
   ·refine Dkl [(3,22),(4,23),(5,24),(6,25)] 2 true 21 h2 (tf 7 14)<|Dtl 7 26 4 _ (tf 8 13) (fun _ hq=>p0 21 (.tmp 25) (.const bF) bF h2)<|Dvl [8] (tf 9 12)<|Dkl [(9,28),(10,29),(11,30),(12,31),(13,32),(14,33)] 8 true 27 rfl (tf 15 6)<|Dkl [(15,34),(16,35),(17,36)] 8 true 27 rfl (tf 18 3)<|Dtl 18 37 4 _ (tf 19 2) (fun _ hq=>p0 27 (.tmp 36) (.const bF) bF rfl)<|D1 19<|Qp #[sv h9,sv G.2.2.1,sv G.2.2.2.1,sv G.2.2.2.2] hm (Acu _) (fun d8 cl=>?_);refine Dvl [20] (tf 21 0) ?_;obtain rfl:=Aa bz;exact AcG (by kernel_rfl) ⟨F1,cl.dr0,Acu _,fI⟩
  ·rintro f d9 ⟨F4,b0,da,⟨_,rfl⟩⟩;refine Ab<|Rt ?_;obtain rfl:=Aa bv;exact⟨rfl,.tuple #[.agg #[sv I.2.1,sv I.2.2.1,sv I.2.2.2.1,sv I.2.2.2.2],.bool I.1],aK [.cell 3 186,.tmp 4] [.agg #[sv I.2.1,sv I.2.2.1,sv I.2.2.2.1,sv I.2.2.2.2],.bool I.1] ⟨h4,0,rfl,aL 186 4 b0.at0,⟨rfl,trivial⟩⟩,.tuple #[.agg #[sv I.2.1,sv I.2.2.1,sv I.2.2.2.1,sv I.2.2.2.2],.bool I.1],F4,rfl,b0.clear,rfl⟩
def Gt(N:Nat)(I:AcP):Option Bool:=
 (((HW N I 4 (fun G=>CI N G)).bind fun J=>(bif J then some true else((HW N I 1 (fun G=>BV N G)).bind fun O=>some O))).bind fun Y=>some Y)
theorem OL(N:Nat)(w0:World)(F0:Mem)(hF:AcR w0 F0)(J:AcP)(r:Bool)(h:Gt N J=some r):
  cA 227 [sv J] w0 F0 (.bool r):=by
 have h0:=Acv hF;refine Go 9 Tryz.func227<|sR [0]<|Vs 1<|nR (rG 7) ?_;obtain⟨h1,h3,h4⟩:=bS h;refine Acz (kP w0 F0 F0 [] [] [(2,(.bool h1))]) ?_ ?_
 ·refine Vs 1 ?_;obtain⟨hn,h5,h6⟩:=bS h3;refine Cl' (cO 198) h0 (I9 N w0 F0 h0.pers J 4 264 [] [] (fun G=>CI N G) (cO 264) (fun w1 F1 G r h7 O Y=>Ir N w1 F1 O G r Y) _ h5) ?_;rintro _ F2 h8 Z h2 rfl;refine Vs 1<|Sp h6 (fun I h9=>?_) (fun I ha=>?_)
  ·refine Ss I 2<|Pk1 I<|Vs 1 ?_;obtain rfl:=Aa h9;exact Aco ⟨rfl,F2,Z,h2,fI⟩
  ·refine Vgs I 1 ?_;obtain⟨ho,hb,hc⟩:=bS ha;refine Cg I (cO 198) Z (I9 N h8 F2 Z.pers J 1 199 [] [] (fun G=>BV N G) (cO 199) (fun w1 F1 G r h7 O Y=>JG N w1 F1 O G r Y) _ hb) ?_;rintro _ F3 hp hg hh rfl;refine Pk0 I<|Vs 1 ?_;obtain rfl:=Aa hc;exact Aco ⟨rfl,F3,hg,h2.t hh,fI⟩
 ·rintro f hq ⟨F1,hm,hr,⟨_,rfl⟩⟩;refine Ab<|Rt ?_;obtain rfl:=Aa h4;exact Re [.bool h1] hm rfl
def Fp(N:Nat)(O:(List AcP))(z0:(AcP->Option (BQ×Bool))):Option (BQ×Bool):=
 (((idx O 0).bind fun Z=>((z0 Z).bind fun I=>some (I.2,I.1.Area,I.1.Prefix,I.1.Suffix,I.1.Stroke))).bind fun G=>((idx O 1).bind fun Y=>((bif G.1 then((idx O 1).bind fun h0=>((Gt N h0).bind fun h1=>some (h1,G.2.1,G.2.2.1,G.2.2.2.1,Y)))else some (false,G.2.1,G.2.2.1,G.2.2.2.1,Y)).bind fun J=>some (({Area:=J.2.1,Prefix:=J.2.2.1,Suffix:=J.2.2.2.1,Stroke:=J.2.2.2.2}:BQ),J.1))))
theorem SU(N:Nat)(w0:World)(F0:Mem)(hF:AcR w0 F0)(Z:(List AcP))(h6:AcQ)(h3:Nat)(c7:LC Z.length h3)(hg:SlA AJ F0 h6 Z)(hh:Nat)(z0:(AcP->Option (BQ×Bool)))(h2:FuncId)(J O:List Value)(hm:Ai Tryz.prog h2)(hn:Mj F0 h2 J O z0)(hx:F0 hh=some (oc #[.func (.func h2) J.toArray O.toArray] 188))(r:(BQ×Bool))(h:Fp N Z z0=some r):
  cA 226 [sL h6 Z h3,pt hh 0] w0 F0 (.tuple #[.agg (El r.1),.bool r.2]):=by
 have hy:=Acv hF;refine Go 27 Tryz.func226<|sR [0,1]<|Al' 186 #[sE,sE,sE,sE] hy (fun h0 c8 hz=>?_);refine Vs 1<|Nss ?_;obtain⟨I,b0,b1⟩:=bS h;refine RD 11 11 [sb h0 #[sE,sE,sE,sE] 186] [] hz (fun f w=>∃F1 h4,HS w0 F0 w F1 [sb h4 #[sv I.2.1,sv I.2.2.1,sv I.2.2.2.1,sv I.2.2.2.2] 186,sb h0 #[sE,sE,sE,sE] 186]/\Acs F0 F1/\FI f [] [(0,(sL h6 Z h3)),(3,(pt h0 0)),(5,(pt h4 0)),(6,(.bool I.1))]) (fun b2 h7=>?_) ?_
 ·refine Dl 0 (fun _ hq=>hq.1.1 _ _ hx) ?_;refine Dv [1] ?_;obtain⟨h1,b3,ho⟩:=bS b0;obtain⟨b4,hx39'⟩:=Ag b3;obtain⟨c9,ca,cb,cc,cd,rfl,hF48,hE49⟩:=AcB hg hx39';have b5:=hE49 _ _ hx39';refine Di 2 b4<|Dx 3 0 (fun _ hq=>hq.1.1 _ _ hF48) b5<|AcC (i:=4) (j:=8) (by kernel_rfl) ?_ ?_
  ·obtain⟨b6,b7,b8⟩:=bS ho;refine AcF (l':=[tt,tt,tt,tt,tt,ff,ff,ff,ff,ff,ff]) (zd:=true) (by kernel_rfl) (by kernel_rfl) (by kernel_rfl) (dst:=some 12) (ty:=187) (g:=none) (by kernel_rfl) rfl (f0:=.tmp 8) (aos:=#[.tmp 11]) (ats:=#[9]) (fid:=h2) (first:=J.toArray) (cap:=O.toArray) (args:=J++(([sv h1]:List Value)++O)) rfl hm (GD (l:=[sv h1]) (fi:=J) (k:=O) rfl) h7 (hn b2 F0 h1 _ (Acu _) h7.pers b7) ?_;rintro _ F2 ce b9 h8 rfl;refine Dv [5,6,7]<|D1 8<|DAl 186 #[sE,sE,sE,sE] b9 h8 (fun ba cf bb=>?_);refine D1 9<|EF (El b6.1) bb h8 (fun cg bc=>?_);refine Dv [10] ?_;obtain rfl:=Aa b8;exact AcG (by kernel_rfl) ⟨F2,ba,bc,h8,fI⟩
  ·refine DAl 186 #[sE,sE,sE,sE] h7 (Acu _) (fun bd be hp=>?_);refine D1 4 ?_;obtain⟨bf,bg,bh⟩:=bS ho;refine AcF (l':=[tt,tt,tt,tt,tt,ff,ff,ff,tt,ff,ff]) (zd:=true) (by kernel_rfl) (by kernel_rfl) (by kernel_rfl) (dst:=some 12) (ty:=187) (g:=none) (by kernel_rfl) rfl (f0:=.tmp 8) (aos:=#[.tmp 11]) (ats:=#[9]) (fid:=h2) (first:=J.toArray) (cap:=O.toArray) (args:=J++(([sv h1]:List Value)++O)) rfl hm (GD (l:=[sv h1]) (fi:=J) (k:=O) rfl) hp (hn be F0 h1 _ (Acu _) hp.pers bg) ?_;rintro _ F3 ch bi hr rfl;refine Dv [5,6,7]<|D1 9<|EF (El bf.1) bi hr (fun ci bj=>?_);refine Dv [10] ?_;obtain rfl:=Aa bh;exact AcG (by kernel_rfl) ⟨F3,bd,bj,hr,fI⟩
 ·rintro f cj ⟨F1,h4,ht,bk,⟨_,rfl⟩⟩;refine Ab<|sR (rG 5)<|Vs 1 ?_;obtain⟨h5,bl,bm⟩:=bS b1;obtain⟨bn,hx79'⟩:=Ag bl;obtain⟨h9,ha,cl,cm,cn,rfl,hF88,hE89⟩:=AcB (Acw hg bk) hx79';have bo:=hE89 _ _ hx79';refine Ix bn<|Lx 0 (ht.pers _ _ hF88) bo<|Vs 1<|St0 #[sv I.2.1,sv I.2.2.1,sv I.2.2.2.1,sv h5] ht (fun co bp=>?_);refine Nss ?_;obtain⟨G,bq,br⟩:=bS bm;refine RD 10 10 [sb h4 #[sv I.2.1,sv I.2.2.1,sv I.2.2.2.1,sv h5] 186] [] bp (kP w0 F0 F1 [sb h0 #[sv G.2.1,sv G.2.2.1,sv G.2.2.2.1,sv G.2.2.2.2] 186] [] [(3,(pt h0 0)),(4,(.bool G.1))]) (fun bs hb=>?_) ?_
  ·refine Dl 0 (fun _ hq=>hq.1.2 0 _ _ rfl) ?_;refine Dv [1,2]<|Sd bq (fun Y bt=>?_) (fun Y bu=>?_)
   ·refine Dg 3 22 55 _ 2 true 21 Y (fun _ hq=>mv 0 (sS h9 ha Z h3)) ?_;obtain⟨hc,bv,bw⟩:=bS bt;obtain⟨bx,hx109'⟩:=Ag bv;have bz:=hE89 _ _ hx109';refine Dg 4 23 0 (.pointer (some ⟨h9,ha + (1:Int).toNat * 1,none⟩)) 2 true 21 Y (fun _ hq=>Co (t:=55) (x:=.tmp 22) (y:=.const (vi 1)) (b:=h9) (o:=ha) (E:=9) (s:=1) (by_:=16) rfl rfl (by kernel_rfl) bx)<|Dg 5 24 9 _ 2 true 21 Y (fun _ hq=>lx 9 23 0 1 false 1 (sv hc) (hq.1.1 _ _ hF88) bz)<|D1 6 ?_;obtain⟨c0,c1,c3⟩:=bS bw;refine AcF (l':=[tt,tt,tt,tt,tt,tt,tt,ff,ff,ff]) (zd:=true) (by kernel_rfl) (by kernel_rfl) (by kernel_rfl) (dst:=some 25) (ty:=4) (g:=some (2,true)) (by kernel_rfl) (KI (d:=21) (by kernel_rfl) rfl Y) (f0:=.func 227) (aos:=#[.tmp 24]) (ats:=#[9]) (fid:=227) (first:=#[]) (cap:=#[]) (args:=[sv hc]) rfl (cO 227) rfl hb (OL N bs F1 hb.pers hc _ c1) ?_;rintro _ F5 cp c4 hu rfl;refine Dt 7 26 4 _ (fun _ hq=>p1 21 (.tmp 25) (.const bF) (.bool c0) Y)<|D1 8<|Qp #[sv I.2.1,sv I.2.2.1,sv I.2.2.2.1,sv h5] c4 hu (fun cq c5=>?_);refine Dv [9] ?_;obtain rfl:=Aa c3;exact AcG (by kernel_rfl) ⟨F5,c5.dr0,hu,fI⟩
   ·refine Dk [(3,22),(4,23),(5,24),(6,25)] 2 true 21 Y ?_;refine Dt 7 26 4 _ (fun _ hq=>p0 21 (.tmp 25) (.const bF) bF Y)<|D1 8<|Qp #[sv I.2.1,sv I.2.2.1,sv I.2.2.2.1,sv h5] hb (Acu _) (fun cr c6=>?_);refine Dv [9] ?_;obtain rfl:=Aa bu;exact AcG (by kernel_rfl) ⟨F1,c6.dr0,Acu _,fI⟩
  ·rintro f ct ⟨F4,hw,cu,⟨_,rfl⟩⟩;refine Ab<|Rt ?_;obtain rfl:=Aa br;exact⟨rfl,.tuple #[.agg #[sv G.2.1,sv G.2.2.1,sv G.2.2.2.1,sv G.2.2.2.2],.bool G.1],aK [.cell 3 186,.tmp 4] [.agg #[sv G.2.1,sv G.2.2.1,sv G.2.2.2.1,sv G.2.2.2.2],.bool G.1] ⟨h0,0,rfl,aL 186 4 hw.at0,⟨rfl,trivial⟩⟩,.tuple #[.agg #[sv G.2.1,sv G.2.2.1,sv G.2.2.2.1,sv G.2.2.2.2],.bool G.1],F4,rfl,hw.clear,rfl⟩
def Fo(N:Nat)(J:(List AcP))(z0:(AcP->Option (BQ×Bool))):Option (BQ×Bool):=
 (((idx J 1).bind fun Z=>((z0 Z).bind fun O=>some (O.2,O.1.Area,O.1.Prefix,O.1.Suffix,O.1.Stroke))).bind fun G=>(((idx J 0).bind fun h0=>((idx J 2).bind fun h1=>some (h0,h1))).bind fun I=>((bif G.1 then((idx J 0).bind fun h2=>((HX N h2).bind fun h3=>(bif h3 then((idx J 2).bind fun h4=>((Gt N h4).bind fun h5=>some (h5,I.1,G.2.2.1,G.2.2.2.1,I.2)))else some (false,I.1,G.2.2.1,G.2.2.2.1,I.2))))else some (false,I.1,G.2.2.1,G.2.2.2.1,I.2)).bind fun Y=>some (({Area:=Y.2.1,Prefix:=Y.2.2.1,Suffix:=Y.2.2.2.1,Stroke:=Y.2.2.2.2}:BQ),Y.1))))
theorem ST(N:Nat)(w0:World)(F0:Mem)(hF:AcR w0 F0)(Y:(List AcP))(h6:AcQ)(h3:Nat)(d0:LC Y.length h3)(hb:SlA AJ F0 h6 Y)(hp:Nat)(z0:(AcP->Option (BQ×Bool)))(h7:FuncId)(Z h0:List Value)(hr:Ai Tryz.prog h7)(ht:Mj F0 h7 Z h0 z0)(b2:F0 hp=some (oc #[.func (.func h7) Z.toArray h0.toArray] 188))(r:(BQ×Bool))(h:Fo N Y z0=some r):
  cA 228 [sL h6 Y h3,pt hp 0] w0 F0 (.tuple #[.agg (El r.1),.bool r.2]):=by
 have b3:=Acv hF;refine Go 37 Tryz.func228<|sR [0,1]<|Al' 186 #[sE,sE,sE,sE] b3 (fun O d1 b4=>?_);refine Vs 1<|Nss ?_;obtain⟨G,b5,b6⟩:=bS h;refine RD 11 11 [sb O #[sE,sE,sE,sE] 186] [] b4 (fun f w=>∃F1 h4,HS w0 F0 w F1 [sb h4 #[sv G.2.1,sv G.2.2.1,sv G.2.2.2.1,sv G.2.2.2.2] 186,sb O #[sE,sE,sE,sE] 186]/\Acs F0 F1/\FI f [] [(0,(sL h6 Y h3)),(3,(pt O 0)),(5,(pt h4 0)),(6,(.bool G.1))]) (fun b7 hc=>?_) ?_
 ·refine Dl 0 (fun _ hq=>hq.1.1 _ _ b2) ?_;refine Dv [1] ?_;obtain⟨h5,b8,hu⟩:=bS b5;obtain⟨b9,hx39'⟩:=Ag b8;obtain⟨d2,d3,d4,d6,d7,rfl,hF48,hE49⟩:=AcB hb hx39';have ba:=hE49 _ _ hx39';refine Di 2 b9<|Dx 3 0 (fun _ hq=>hq.1.1 _ _ hF48) ba<|AcC (i:=4) (j:=8) (by kernel_rfl) ?_ ?_
  ·obtain⟨bb,bc,bd⟩:=bS hu;refine AcF (l':=[tt,tt,tt,tt,tt,ff,ff,ff,ff,ff,ff]) (zd:=true) (by kernel_rfl) (by kernel_rfl) (by kernel_rfl) (dst:=some 12) (ty:=187) (g:=none) (by kernel_rfl) rfl (f0:=.tmp 8) (aos:=#[.tmp 11]) (ats:=#[9]) (fid:=h7) (first:=Z.toArray) (cap:=h0.toArray) (args:=Z++(([sv h5]:List Value)++h0)) rfl hr (GD (l:=[sv h5]) (fi:=Z) (k:=h0) rfl) hc (ht b7 F0 h5 _ (Acu _) hc.pers bc) ?_;rintro _ F2 d8 be hg rfl;refine Dv [5,6,7]<|D1 8<|DAl 186 #[sE,sE,sE,sE] be hg (fun bf d9 bg=>?_);refine D1 9<|EF (El bb.1) bg hg (fun da bh=>?_);refine Dv [10] ?_;obtain rfl:=Aa bd;exact AcG (by kernel_rfl) ⟨F2,bf,bh,hg,fI⟩
  ·refine DAl 186 #[sE,sE,sE,sE] hc (Acu _) (fun bi bj hw=>?_);refine D1 4 ?_;obtain⟨bk,bl,bm⟩:=bS hu;refine AcF (l':=[tt,tt,tt,tt,tt,ff,ff,ff,tt,ff,ff]) (zd:=true) (by kernel_rfl) (by kernel_rfl) (by kernel_rfl) (dst:=some 12) (ty:=187) (g:=none) (by kernel_rfl) rfl (f0:=.tmp 8) (aos:=#[.tmp 11]) (ats:=#[9]) (fid:=h7) (first:=Z.toArray) (cap:=h0.toArray) (args:=Z++(([sv h5]:List Value)++h0)) rfl hr (GD (l:=[sv h5]) (fi:=Z) (k:=h0) rfl) hw (ht bj F0 h5 _ (Acu _) hw.pers bl) ?_;rintro _ F3 db bn hx rfl;refine Dv [5,6,7]<|D1 9<|EF (El bk.1) bn hx (fun dc bo=>?_);refine Dv [10] ?_;obtain rfl:=Aa bm;exact AcG (by kernel_rfl) ⟨F3,bi,bo,hx,fI⟩
 ·rintro f dd ⟨F1,h4,bp,hy,⟨_,rfl⟩⟩;refine Ab<|Sq ?_;obtain⟨J,bq,br⟩:=bS b6;refine RD 9 10 [sb O #[sE,sE,sE,sE] 186] [] bp (kP w0 F0 F1 [sb h4 #[sv J.1,sv G.2.2.1,sv G.2.2.2.1,sv J.2] 186,sb O #[sE,sE,sE,sE] 186] [] [(0,(sL h6 Y h3)),(3,(pt O 0)),(5,(pt h4 0)),(6,(.bool G.1))]) (fun de bs=>?_) ?_
  ·refine Dv [0] ?_;obtain⟨hz,bt,bu⟩:=bS bq;obtain⟨bv,hx92'⟩:=Ag bt;obtain⟨df,dg,dh,di,dj,rfl,hF101,hE102⟩:=AcB (Acw hb hy) hx92';have bw:=hE102 _ _ hx92';refine Di 1 bv<|Dx 2 0 (fun _ hq=>hq.1.1 _ _ hF101) bw<|Dv [3] ?_;obtain⟨bx,bz,c0⟩:=bS bu;obtain⟨c1,hx106'⟩:=Ag bz;have c3:=hE102 _ _ hx106';refine Di 4 c1<|Dx 5 0 (fun _ hq=>hq.1.1 _ _ hF101) c3<|Dv [6]<|D1 7<|EF #[sv hz,sv G.2.2.1,sv G.2.2.2.1,sv G.2.2.2.2] bs (Acu _) (fun dk c4=>?_);refine Dv [8]<|D1 9<|EF #[sv hz,sv G.2.2.1,sv G.2.2.2.1,sv bx] c4 (Acu _) (fun dl c5=>?_);obtain rfl:=Aa c0;exact AcG (by kernel_rfl) ⟨F1,c5,Acu _,fI⟩
  ·rintro f dm ⟨F4,c6,c7,⟨_,rfl⟩⟩;refine Ab<|Sq ?_;obtain⟨I,c8,c9⟩:=bS br;refine RD 16 16 [sb h4 #[sv J.1,sv G.2.2.1,sv G.2.2.2.1,sv J.2] 186] [] c6 (kP w0 F0 F4 [sb O #[sv I.2.1,sv I.2.2.1,sv I.2.2.2.1,sv I.2.2.2.2] 186] [] [(3,(pt O 0)),(4,(.bool I.1))]) (fun ca hh=>?_) ?_
   ·refine Dl 0 (fun _ hq=>hq.1.2 0 _ _ rfl) ?_;refine Dv [1,2]<|Sd c8 (fun h1 cb=>?_) (fun h1 cc=>?_)
    ·refine Dg 3 26 55 _ 2 true 25 h1 (fun _ hq=>mv 0 (sL h6 Y h3)) ?_;obtain⟨hm,cd,ce⟩:=bS cb;obtain⟨cf,hx130'⟩:=Ag cd;obtain⟨h8,h9,dn,dp,dq,rfl,hF139,hE140⟩:=AcB (Acw hb (hy.t c7)) hx130';have cg:=hE140 _ _ hx130';refine Dg 4 27 0 (.pointer (some ⟨h8,h9 + (0:Int).toNat * 1,none⟩)) 2 true 25 h1 (fun _ hq=>Co (t:=55) (x:=.tmp 26) (y:=.const (vi 0)) (b:=h8) (o:=h9) (E:=9) (s:=1) (by_:=16) rfl rfl (by kernel_rfl) cf)<|Dg 5 28 9 _ 2 true 25 h1 (fun _ hq=>lx 9 27 0 1 false 1 (sv hm) (hq.1.1 _ _ hF139) cg)<|D1 6 ?_;obtain⟨ch,ci,cj⟩:=bS ce;refine AcF (l':=[tt,tt,tt,tt,tt,tt,tt,ff,ff,ff,ff,ff,ff,ff,ff,ff]) (zd:=true) (by kernel_rfl) (by kernel_rfl) (by kernel_rfl) (dst:=some 29) (ty:=4) (g:=some (2,true)) (by kernel_rfl) (KI (d:=25) (by kernel_rfl) rfl h1) (f0:=.func 225) (aos:=#[.tmp 28]) (ats:=#[9]) (fid:=225) (first:=#[]) (cap:=#[]) (args:=[sv hm]) rfl (cO 225) rfl hh (NK N ca F4 hh.pers hm _ ci) ?_;rintro _ F6 cl hn ha rfl;refine Dt 7 30 4 _ (fun _ hq=>p1 25 (.tmp 29) (.const bF) (.bool ch) h1)<|Dv [8]<|Sd cj (fun h2 cm=>?_) (fun h2 cn=>?_)
     ·refine Dg 9 32 55 _ 8 true 31 h2 (fun _ hq=>mv 0 (sS h8 h9 Y h3)) ?_;obtain⟨ho,co,cp⟩:=bS cm;obtain⟨cq,hx155'⟩:=Ag co;have cr:=hE140 _ _ hx155';refine Dg 10 33 0 (.pointer (some ⟨h8,h9 + (2:Int).toNat * 1,none⟩)) 8 true 31 h2 (fun _ hq=>Co (t:=55) (x:=.tmp 32) (y:=.const (vi 2)) (b:=h8) (o:=h9) (E:=9) (s:=1) (by_:=16) rfl rfl (by kernel_rfl) cq)<|Dg 11 34 9 _ 8 true 31 h2 (fun _ hq=>lx 9 33 0 1 false 1 (sv ho) (hq.1.1 _ _ hF139) cr)<|D1 12 ?_;obtain⟨ct,cu,cv⟩:=bS cp;refine AcF (l':=[tt,tt,tt,tt,tt,tt,tt,tt,tt,tt,tt,tt,tt,ff,ff,ff]) (zd:=true) (by kernel_rfl) (by kernel_rfl) (by kernel_rfl) (dst:=some 35) (ty:=4) (g:=some (8,true)) (by kernel_rfl) (KI (d:=31) (by kernel_rfl) rfl h2) (f0:=.func 227) (aos:=#[.tmp 34]) (ats:=#[9]) (fid:=227) (first:=#[]) (cap:=#[]) (args:=[sv ho]) rfl (cO 227) rfl hn (OL N cl F6 hn.pers ho _ cu) ?_;rintro _ F7 dr cw b0 rfl;refine Dt 13 36 4 _ (fun _ hq=>p1 31 (.tmp 35) (.const bF) (.bool ct) h2)<|D1 14<|Qp #[sv J.1,sv G.2.2.1,sv G.2.2.2.1,sv J.2] cw (ha.t b0) (fun ds cx=>?_);refine Dv [15] ?_;obtain rfl:=Aa cv;exact AcG (by kernel_rfl) ⟨F7,cx.dr0,ha.t b0,fI⟩
     ·refine Dk [(9,32),(10,33),(11,34),(12,35)] 8 true 31 h2 ?_;refine Dt 13 36 4 _ (fun _ hq=>p0 31 (.tmp 35) (.const bF) bF h2)<|D1 14<|Qp #[sv J.1,sv G.2.2.1,sv G.2.2.2.1,sv J.2] hn ha (fun dt cy=>?_);refine Dv [15] ?_;obtain rfl:=Aa cn;exact AcG (by kernel_rfl) ⟨F6,cy.dr0,ha,fI⟩
    ·refine Dk [(3,26),(4,27),(5,28),(6,29)] 2 true 25 h1 ?_;refine Dt 7 30 4 _ (fun _ hq=>p0 25 (.tmp 29) (.const bF) bF h1)<|Dv [8]<|Dk [(9,32),(10,33),(11,34),(12,35)] 8 true 31 rfl<|Dt 13 36 4 _ (fun _ hq=>p0 31 (.tmp 35) (.const bF) bF rfl)<|D1 14<|Qp #[sv J.1,sv G.2.2.1,sv G.2.2.2.1,sv J.2] hh (Acu _) (fun du cz=>?_);refine Dv [15] ?_;obtain rfl:=Aa cc;exact AcG (by kernel_rfl) ⟨F4,cz.dr0,Acu _,fI⟩
   ·rintro f dv ⟨F5,b1,dw,⟨_,rfl⟩⟩;refine Ab<|Rt ?_;obtain rfl:=Aa c9;exact⟨rfl,.tuple #[.agg #[sv I.2.1,sv I.2.2.1,sv I.2.2.2.1,sv I.2.2.2.2],.bool I.1],aK [.cell 3 186,.tmp 4] [.agg #[sv I.2.1,sv I.2.2.1,sv I.2.2.2.1,sv I.2.2.2.2],.bool I.1] ⟨O,0,rfl,aL 186 4 b1.at0,⟨rfl,trivial⟩⟩,.tuple #[.agg #[sv I.2.1,sv I.2.2.1,sv I.2.2.2.1,sv I.2.2.2.2],.bool I.1],F5,rfl,b1.clear,rfl⟩
def Pp(N:Nat):Option (List Cm):=
 some [({words_:=1,split_:=(fun G=>Ft N G (fun G=>AN N G))}:Cm),({words_:=2,split_:=(fun G=>Fq N G (fun G=>AN N G))}:Cm),({words_:=2,split_:=(fun G=>Fp N G (fun G=>AN N G))}:Cm),({words_:=3,split_:=(fun G=>Fo N G (fun G=>AN N G))}:Cm)]
theorem Vi(N:Nat)(w0:World)(F0:Mem)(hF:AcR w0 F0)(hG:BH F0)(r:(List Cm))(h:Pp N=some r):
  cP 184 (lA []) w0 (AD w0 F0 fun F' v=>∃(h5:AcQ)(h6:Nat),v=(sL h5 r h6)/\LC r.length h6/\SlA SZ F' h5 r):=by
 have h8:=Acv hF;refine Go 11 Tryz.func184<|sR [0]<|Vs 1<|nR [0,1]<|Al' 188 #[.nilFunc] h8 (fun J hn h9=>?_);refine St0 #[fV 221 #[]] h9 (fun ho ha=>?_);refine nR (rG 10)<|Vs 8 ?_;obtain⟨F1,hb,h3,hF28⟩:=ha.fc0;refine Bs 228 [vi 1,fV 223 #[pt J 0],vi 2,fV 224 #[pt J 0],vi 2,fV 226 #[pt J 0],vi 3,fV 228 #[pt J 0]] hb (fun h4 hp hc=>?_);have h7:Aq SZ 228 F1 (sA h4) 4 [({words_:=1,split_:=(fun G=>Ft N G (fun G=>AN N G))}:Cm),({words_:=2,split_:=(fun G=>Fq N G (fun G=>AN N G))}:Cm),({words_:=2,split_:=(fun G=>Fp N G (fun G=>AN N G))}:Cm),({words_:=3,split_:=(fun G=>Fo N G (fun G=>AN N G))}:Cm)] (some h4,.cells (lA [vi 1,fV 223 #[pt J 0],vi 2,fV 224 #[pt J 0],vi 2,fV 226 #[pt J 0],vi 3,fV 228 #[pt J 0]]) 228 (0,0)):=AcJ ⟨⟨223,[],[pt J 0],rfl,cO 223,(fun w1 F1 G Z h0 h1 h2 r I O Y=>SW N w1 F1 O G Z h0 h1 h2 J (fun G=>AN N G) 221 [] [] (cO 221) (Mj.mono (fun w1 F1 G r I O Y=>Hz N w1 F1 O (hG.mono (h3.t I)) G r Y) I) (I _ _ hF28) r Y)⟩,⟨⟨224,[],[pt J 0],rfl,cO 224,(fun w1 F1 G Z h0 h1 h2 r I O Y=>SV N w1 F1 O G Z h0 h1 h2 J (fun G=>AN N G) 221 [] [] (cO 221) (Mj.mono (fun w1 F1 G r I O Y=>Hz N w1 F1 O (hG.mono (h3.t I)) G r Y) I) (I _ _ hF28) r Y)⟩,⟨⟨226,[],[pt J 0],rfl,cO 226,(fun w1 F1 G Z h0 h1 h2 r I O Y=>SU N w1 F1 O G Z h0 h1 h2 J (fun G=>AN N G) 221 [] [] (cO 221) (Mj.mono (fun w1 F1 G r I O Y=>Hz N w1 F1 O (hG.mono (h3.t I)) G r Y) I) (I _ _ hF28) r Y)⟩,⟨⟨228,[],[pt J 0],rfl,cO 228,(fun w1 F1 G Z h0 h1 h2 r I O Y=>ST N w1 F1 O G Z h0 h1 h2 J (fun G=>AN N G) 221 [] [] (cO 221) (Mj.mono (fun w1 F1 G r I O Y=>Hz N w1 F1 O (hG.mono (h3.t I)) G r Y) I) (I _ _ hF28) r Y)⟩,rfl⟩⟩⟩⟩ (by simp);refine Vs 1<|Nt<|Rt ?_;have hg:=AcH h7;obtain⟨F2,hh,hq,hm⟩:=hc.fr0 h7;obtain rfl:=Aa h;exact Re [sS h4 0 [({words_:=1,split_:=(fun G=>Ft N G (fun G=>AN N G))}:Cm),({words_:=2,split_:=(fun G=>Fq N G (fun G=>AN N G))}:Cm),({words_:=2,split_:=(fun G=>Fp N G (fun G=>AN N G))}:Cm),({words_:=3,split_:=(fun G=>Fo N G (fun G=>AN N G))}:Cm)] 4] hh ⟨some ⟨h4,0,none⟩,4,rfl,hg,hm⟩
def Ep(N:Nat)(x0:AcP)(I:(List AcP))(J:(List Cm)):Int->Option (A2 (BQ×Bool) Int):=fun G=>
 (bif(decide (G < (J.length:Int)))then((idx J G).bind fun O=>bif(O.words_ !=(I.length:Int))then some (.next (W64 (G + 1)))else((O.split_ I).bind fun Y=>(bif Y.2 then some (.ret (Y.1,true))else some (.next (W64 (G + 1))))))else some (.done G))
def Mz(N:Nat)(G:AcP):Option (BQ×Bool):=
 (bif(decide ((G.length:Int) > 16))then some (({Area:=([]:AcP),Prefix:=([]:AcP),Suffix:=([]:AcP),Stroke:=([]:AcP)}:BQ),false)else((strings_Split N G ([47]:AcP)).bind fun I=>((Pp N).bind fun J=>((AF (Ep N G I J) N 0).bind fun o=>o.k (fun r=>some r) (fun h0=>some (({Area:=([]:AcP),Prefix:=([]:AcP),Suffix:=([]:AcP),Stroke:=([]:AcP)}:BQ),false))))))
theorem Vh(N:Nat)(w0:World)(F0:Mem)(hF:AcR w0 F0)(hG:BH F0)(x0:AcP)(r:(BQ×Bool))(h:Mz N x0=some r):
  cA 143 [sv x0] w0 F0 (.tuple #[.agg (El r.1),.bool r.2]):=by
 have hn:=Acv hF;refine Go 37 Tryz.func143<|sR [0,1]<|Al' 186 #[sE,sE,sE,sE] hn (fun G ho h1=>?_);refine Vs 1<|Nss<|sR [0,1,2]<|Vs 3<|Nt<|Cd h (fun hp hq=>?_) (fun hp hr=>?_)
 ·refine sR [0,1,2]<|Vs 1<|St0 #[sE,sE,sE,sE] h1 (fun c7 h6=>?_);refine Vs 1<|Nt<|Rt<|Ad ?_;obtain rfl:=Aa hq;exact⟨rfl,.tuple #[.agg #[sE,sE,sE,sE],bF],aK [.cell 2 186,.tmp 3] [.agg #[sE,sE,sE,sE],bF] ⟨G,0,rfl,aL 186 4 h6.at0,⟨rfl,trivial⟩⟩,.tuple #[.agg #[sE,sE,sE,sE],bF],F0,rfl,h6.clear,rfl⟩
 ·refine Sc<|Ab<|sR [0,1,2]<|Vs 1 ?_;obtain⟨h2,ht,hu⟩:=bS hr;refine Cl' (cO 93) h1 (EB N ho F0 h1.pers hG x0 ([47]:AcP) _ ht) ?_;rintro _ F1 hw h7 hx ⟨h8,h9,rfl,hy,hz⟩;refine Vs 1<|Nss<|sR [0,1,2] ?_;obtain⟨h3,b0,b1⟩:=bS hu;refine Cl' (cO 184) h7 (Vi N hw F1 h7.pers (hG.mono hx) _ b0) ?_;rintro _ F2 c8 b2 b3 ⟨b4,b5,rfl,c9,b6⟩;refine Vs 2<|Nt ?_;obtain⟨ha,b7,hb⟩:=bS b1;refine AcA (fun f w=>∃(hc:Int)(F4:_),ha=.done hc/\HS w0 F0 w F4 [sb G #[sE,sE,sE,sE] 186]/\Acs F2 F4/\FI f [] [(2,(pt G 0))]) ?_ ?_
  ·refine Bk<|Acr (by kernel_rfl) (fun m f w=>∃(I:Int)(J:Mem),AF (Ep N x0 h2 h3) m I=some ha/\HS w0 F0 w J [sb G #[sE,sE,sE,sE] 186]/\Acs F2 J/\FI f [] [(2,(pt G 0)),(4,(sL h8 h2 h9)),(15,(sL b4 h3 b5)),(16,(vi (h3.length:Int))),(17,(vi I))]) N ⟨0,F2,b7,b2,Acu _,fI⟩ ?_;rintro ca f cb ⟨I,J,b8,h4,O,⟨_,rfl⟩⟩;obtain⟨hg,cc,rfl,b9,h0⟩:=AB b8;refine sR [0]<|Vs 1<|Nss<|Cd b9 (fun ba bb=>?_) (fun ba bc=>?_)
   ·refine Sc<|Ab<|Sq<|Bk<|sR (rG 4) ?_;obtain⟨bd,be,bf⟩:=bS bb;obtain⟨bg,hx74'⟩:=Ag be;obtain⟨cd,ce,cf,cg,ch,rfl,hF83,hE84⟩:=AcB (Acw b6 O) hx74';obtain⟨bh,bi,bj,bk,bl,bm⟩:=hE84 _ _ hx74';refine Ix bg<|Lx 0 (h4.pers _ _ hF83) bk<|Al' 228 #[vi 0,.nilFunc] h4 (fun ci cj bn=>?_);refine St0 #[vi bd.words_,.func (.func bh) bi.toArray bj.toArray] bn (fun bo Y=>?_);refine Nss<|sR (rG 5)<|Vs 1<|Ld Y.at0<|Vs 3<|Nt<|Cd bf (fun bp bq=>?_) (fun bp br=>?_)
    ·refine Ex<|Ak<|Av rfl<|Ab<|Rg [0,1]<|Vs 2<|Aco ?_;have bs:=Ay bq h0;exact⟨hg,xF _,W64 (I + 1),J,bs,Y.dr0,O,fI⟩
    ·refine Sc<|Ab<|sR (rG 10)<|Vs 1<|Ld Y.at0<|Vs 1 ?_;obtain⟨Z,bt,bu⟩:=bS br;refine Cq bl Y (bm bo J h2 h8 h9 hy (Acw hz (b3.t O)) _ (Acu _) Y.pers bt) ?_;rintro _ F5 cl bv bw rfl;refine Vs 3<|Al' 186 #[sE,sE,sE,sE] bv (fun cm cn bx=>?_);refine St0 (El Z.1) bx (fun co h5=>?_);refine Vs 1<|nR [0]<|Vs 1<|Nt<|Cd bu (fun bz c0=>?_) (fun bz c1=>?_)
     ·refine sR [0,1,2]<|Ld h5.at0<|St2 (El Z.1) h5 (fun cp hh=>?_);refine Vs 1<|Nt<|Rt<|Ar<|Ad<|Ad<|Ar ?_;have hret:=Bf c0 h0;subst hret;refine .inr<|Ad ?_;obtain rfl:=Aa hb;exact⟨rfl,.tuple #[.agg (El Z.1),bT],aK [.cell 2 186,.tmp 3] [.agg (El Z.1),bT] ⟨G,0,rfl,aL 186 4 hh.at2,⟨rfl,trivial⟩⟩,.tuple #[.agg (El Z.1),bT],F5,rfl,hh.clear,rfl⟩
     ·refine Sc<|Am<|Ab<|Rg [0,1]<|Vs 2<|Aco ?_;have c3:=Ay c1 h0;exact⟨hg,xF _,W64 (I + 1),F5,c3,h5.dr0.dr0,O.t bw,fI⟩
   ·refine Ex<|Ak<|Ak<|Av rfl ?_;have c4:=AA bc h0;exact .inl ⟨rfl,I,J,c4,h4,O,fI⟩
  ·rintro f cq ⟨hc,F4,rfl,c5,cr,⟨_,rfl⟩⟩;have c6:=AW hb;refine Ab<|sR [0,1,2]<|Vs 1<|St0 #[sE,sE,sE,sE] c5 (fun ct hm=>?_);refine Vs 1<|Nt<|Rt ?_;obtain rfl:=Aa c6;exact⟨rfl,.tuple #[.agg #[sE,sE,sE,sE],bF],aK [.cell 2 186,.tmp 3] [.agg #[sE,sE,sE,sE],bF] ⟨G,0,rfl,aL 186 4 hm.at0,⟨rfl,trivial⟩⟩,.tuple #[.agg #[sE,sE,sE,sE],bF],F4,rfl,hm.clear,rfl⟩
def Jc(N:Nat)(G:AcP):Option Bool:=
 ((Mz N G).bind fun I=>some I.2)
theorem Pm(N:Nat)(w0:World)(F0:Mem)(hF:AcR w0 F0)(hG:BH F0)(G:AcP)(r:Bool)(h:Jc N G=some r):
  cA 79 [sv G] w0 F0 (.bool r):=by
 have I:=Acv hF;refine Go 11 Tryz.func79<|sR [0]<|Vs 1<|nR (rG 8)<|Vs 1 ?_;obtain⟨J,O,Y⟩:=bS h;refine Cl' (cO 143) I (Vh N w0 F0 I.pers hG G _ O) ?_;rintro _ F1 h2 Z h3 rfl;refine Vs 3<|Al' 186 #[sE,sE,sE,sE] Z (fun h4 h5 h0=>?_);refine St0 (El J.1) h0 (fun h6 h1=>?_);refine Vs 1<|nR [0,1]<|Vs 2<|Nt<|Rt ?_;obtain rfl:=Aa Y;exact Re [.bool J.2] h1 rfl
theorem aZ{P:Program}{w:World}{ρ:Operand->Value}{ty:TypeId}(x y:Operand){a b v:AcP}(h:A5 a b=some v)(hx:ρ x=.string ⟨a.toArray⟩:=by exact rfl)(hy:ρ y=.string ⟨b.toArray⟩:=by exact rfl):(As ρ (.binOp .add 9 x y 9) ty).run P w=.ok (.value (.string ⟨v.toArray⟩)) w:=Az hx hy h
def CH(N:Nat)(I J:Int):Option AcP:=
 ((strconv_Itoa N I).bind fun G=>((strings_Repeat N ([48]:AcP) (max 0 (W64 (J - (G.length:Int))))).bind fun O=>((A5 O G).bind fun Y=>some Y)))
theorem KY(N:Nat)(w0:World)(F0:Mem)(hF:AcR w0 F0)(hG:BH F0)(G I:Int)(r:AcP)(h:CH N G I=some r):
  cA 146 [vi G,vi I] w0 F0 (sv r):=by
 have J:=Acv hF;refine Go 16 Tryz.func146<|sR [0]<|Vs 1<|nR [0,1,2]<|Vs 1 ?_;obtain⟨O,h0,h1⟩:=bS h;refine Cl' (cO 85) J (Ba N w0 F0 J.pers hG G _ h0) ?_;rintro _ F1 h2 Y h9 rfl;refine Vs 1<|nR (rG 9)<|Vs 5 ?_;obtain⟨h3,h4,h5⟩:=bS h1;refine Cl' (cO 186) Y (Ph N h2 F1 Y.pers ([48]:AcP) (max 0 (W64 (I - (O.length:Int)))) _ h4) ?_;rintro _ F2 ha h6 hb rfl;refine Vs 1 ?_;obtain⟨Z,h7,h8⟩:=bS h5;refine V 15 9 (aZ (.tmp 13) (.tmp 14) h7)<|Vs 1<|Nt<|Rt ?_;obtain rfl:=Aa h8;exact Re [sv Z] h6 rfl
def DM(N:Nat)(G:Int):Option (AcP×Int):=
 ((Jb N G 0 20000).bind fun I=>bif(!I)then some (([]:AcP),1)else((strconv_Itoa N (W64 ((W64 (Int.tdiv G 1440)) + 1))).bind fun J=>((A5 J ([32]:AcP)).bind fun O=>((CH N (Int.tmod (W64 (Int.tdiv G 60)) 24) 2).bind fun Y=>((A5 O Y).bind fun Z=>((CH N (Int.tmod G 60) 2).bind fun h0=>((A5 Z h0).bind fun h1=>some (h1,0))))))))
theorem Lk(N:Nat)(w0:World)(F0:Mem)(hF:AcR w0 F0)(hG:BH F0)(G:Int)(r:(AcP×Int))(h:DM N G=some r):
  cA 82 [vi G] w0 F0 (.tuple #[sv r.1,vi r.2]):=by
 have O:=Acv hF;refine Go 21 Tryz.func82<|sR [0,1]<|Vs 2<|Nss<|sR [0,1,2]<|Vs 1 ?_;obtain⟨b2,h4,h5⟩:=bS h;refine Cl' (cO 140) O (KX N w0 F0 O.pers G 0 20000 _ h4) ?_;rintro _ F1 h6 I J rfl;refine Vs 1<|Nt<|Cd h5 (fun h7 h8=>?_) (fun h7 h9=>?_)
 ·refine sR [0,1]<|Vs 2<|Nt<|Rt<|Ad ?_;obtain rfl:=Aa h8;exact Re [sE,vi 1] I rfl
 ·refine Sc<|Ab<|sR (rG 16)<|Vs 3 ?_;obtain⟨ha,hb,hc⟩:=bS h9;refine Cl' (cO 85) I (Ba N h6 F1 I.pers (hG.mono J) (W64 ((W64 (Int.tdiv G 1440)) + 1)) _ hb) ?_;rintro _ F2 hg Y Z rfl;obtain⟨h0,hh,hm⟩:=bS hc;refine V 11 9 (aZ (.tmp 10) (.const (sv ([32]:AcP))) hh)<|Vs 3 ?_;obtain⟨hn,ho,hp⟩:=bS hm;refine Cl' (cO 146) Y (KY N hg F2 Y.pers (hG.mono (J.t Z)) (Int.tmod (W64 (Int.tdiv G 60)) 24) 2 _ ho) ?_;rintro _ F3 hq h1 hr rfl;obtain⟨h2,ht,hu⟩:=bS hp;refine V 16 9 (aZ (.tmp 11) (.tmp 15) ht)<|Vs 2 ?_;obtain⟨hw,hx,hy⟩:=bS hu;refine Cl' (cO 146) h1 (KY N hq F3 h1.pers (hG.mono ((J.t Z).trans hr)) (Int.tmod G 60) 2 _ hx) ?_;rintro _ F4 b3 hz b4 rfl;obtain⟨h3,b0,b1⟩:=bS hy;refine V 20 9 (aZ (.tmp 16) (.tmp 19) b0)<|Vs 2<|Nt<|Rt ?_;obtain rfl:=Aa b1;exact Re [sv h3,vi 0] hz rfl
def D3(N:Nat)(I:(List AcP)):Int->Option (A2 AcP Int):=fun G=>
 (bif(decide (G < (I.length:Int)))then((idx I G).bind fun J=>bif(J !=([]:AcP))then some (.ret J)else some (.next (W64 (G + 1))))else some (.done G))
def Hx(N:Nat)(G:(List AcP)):Option AcP:=
 ((AF (D3 N G) N 0).bind fun o=>o.k (fun r=>some r) (fun h0=>some ([]:AcP)))
theorem Qn(N:Nat)(w0:World)(F0:Mem)(hF:AcR w0 F0)(G:(List AcP))(O:AcQ)(Y:Nat)(hz:LC G.length Y)(h5:SlA AJ F0 O G)(r:AcP)(h:Hx N G=some r):
  cA 147 [sL O G Y] w0 F0 (sv r):=by
 have h6:=Acv hF;refine Go 18 Tryz.func147<|sR [0]<|Vs 1<|nR [0]<|Vs 1<|Nss<|sR [0,1,2]<|Vs 3<|Nt ?_;obtain⟨h2,h7,h3⟩:=bS h;refine AcA (fun f w=>∃(h4:Int)(Z:_),h2=.done h4/\HS w0 F0 w Z []/\Acs F0 Z/\FI f [] [(3,sE)]) ?_ ?_
 ·refine Bk<|Acr (by kernel_rfl) (fun m f w=>∃(I:Int)(F1:Mem),AF (D3 N G) m I=some h2/\HS w0 F0 w F1 []/\Acs F0 F1/\FI f [] [(3,sE),(6,(sL O G Y)),(7,(vi (G.length:Int))),(8,(vi I))]) N ⟨0,F0,h7,h6,Acu _,fI⟩ ?_;rintro b0 f b1 ⟨I,F1,h8,J,h0,⟨_,rfl⟩⟩;obtain⟨h9,b2,rfl,ha,h1⟩:=AB h8;refine sR [0]<|Vs 1<|Nss<|Cd ha (fun hb hc=>?_) (fun hb hg=>?_)
  ·refine Sc<|Ab<|Sq<|Bk<|sR [0,1,2] ?_;obtain⟨hh,hm,hn⟩:=bS hc;obtain⟨ho,hx49'⟩:=Ag hm;obtain⟨b3,b4,b5,b6,b7,rfl,hF58,hE59⟩:=AcB (Acw h5 h0) hx49';have hp:=hE59 _ _ hx49';refine Ix ho<|Lx 0 (J.pers _ _ hF58) hp<|Vs 1<|nR [0,1,2]<|Vs 3<|Nt<|Cd hn (fun hq hr=>?_) (fun hq ht=>?_)
   ·refine sR [0,1]<|Vs 2<|Nt<|Rt<|Ar<|Ad<|Ad<|Ar ?_;have hret:=Bf hr h1;subst hret;refine .inr<|Ad ?_;obtain rfl:=Aa h3;exact Re [sv hh] J rfl
   ·refine Sc<|Am<|Ab<|Rg [0,1]<|Vs 2<|Aco ?_;have hu:=Ay ht h1;exact⟨h9,xF _,W64 (I + 1),F1,hu,J,h0,fI⟩
  ·refine Ex<|Ak<|Ak<|Av rfl ?_;have hw:=AA hg h1;exact .inl ⟨rfl,I,F1,hw,J,h0,fI⟩
 ·rintro f b8 ⟨h4,Z,rfl,hx,b9,⟨_,rfl⟩⟩;have hy:=AW h3;refine Ab<|sR [0,1]<|Vs 2<|Nt<|Rt ?_;obtain rfl:=Aa hy;exact Re [sE] hx rfl
def CM(N:Nat)(x0:Ac)(x1:Af)(h0:Bool)(J:(List AZ)):(List AcP×Int)->Option (A2 (AcP×Int) (List AcP×Int)):=fun G=>
 (bif(decide (G.2 < (J.length:Int)))then((idx J G.2).bind fun I=>((bif I.has_ then((CH N I.n_ I.digits_).bind fun O=>((CD G.1 [O]).bind fun Y=>some Y))else some G.1).bind fun Z=>some (.next (Z,(W64 (G.2 + 1))))))else some (.done (G.1,G.2)))
def BG(N:Nat)(G:Ac)(I:Af):Option (AcP×Int):=
 ((CP N (lY G) ({Report:=I.Report,Serial:=I.Serial,Zone:=I.Zone}:Af)).bind fun J=>bif(!J)then some (([]:AcP),1)else((D7 N (lY G) ({Report:=I.Report,Serial:=I.Serial,Zone:=I.Zone}:Af)).bind fun O=>((AF (CM N G I J O) N (([]:List AcP),0)).bind fun o=>o.k (fun r=>some r) (fun Y=>((strings_Join N Y.1 ([32]:AcP)).bind fun Z=>((Hx N ([Z,([45]:AcP)])).bind fun h0=>some (h0,0)))))))
theorem FL(N:Nat)(w0:World)(F0:Mem)(hF:AcR w0 F0)(hG:BH F0)(G:Ac)(I:Af)(r:(AcP×Int))(h:BG N G I=some r):
  cA 83 [.agg (Ah G),.agg (Bc I)] w0 F0 (.tuple #[sv r.1,vi r.2]):=by
 have b3:=Acv hF;refine Go 36 Tryz.func83<|sR (rG 4)<|Bx' 23 (Ah G) b3 (fun d7 d8 b4=>?_);refine Bx' 32 (Bc I) b4 (fun d9 b5 h5=>?_);refine Vs 2<|Nss<|sR (rG 4)<|Ld h5.at1<|Ld h5.at0 ?_;obtain⟨b6,b7,b8⟩:=bS h;refine Cl' (cO 75) h5 (FK N b5 F0 h5.pers (lY G) ({Report:=I.Report,Serial:=I.Serial,Zone:=I.Zone}:Af) _ b7) ?_;rintro _ F1 b9 Z ba rfl;refine Vs 1<|Nt<|Cd b8 (fun bb bc=>?_) (fun bb bd=>?_)
 ·refine sR [0,1]<|Vs 2<|Nt<|Rt<|Ad ?_;obtain rfl:=Aa bc;exact Re [sE,vi 1] Z rfl
 ·refine Sc<|Ab<|sR [0]<|Vs 1<|Nss<|sR (rG 5)<|Ld Z.at1<|Ld Z.at0 ?_;obtain⟨h0,be,bf⟩:=bS bd;refine Cl' (cO 138) Z (HU N b9 F1 Z.pers (lY G) ({Report:=I.Report,Serial:=I.Serial,Zone:=I.Zone}:Af) _ be) ?_;rintro _ F2 da bg bh ⟨bi,hr,rfl,db,bj⟩;refine Vs 2<|Nt ?_;have bk:=bg.dr0.dr0.dummy (oc #[] 0);obtain⟨ht,bl,bm⟩:=bS bf;refine AcA (fun f w=>∃(h1:(List AcP×Int))(F4:_)(h6:AcQ)(h7:_)(hg:_),ht=.done h1/\HS w0 F0 w F4 [hg]/\Acs F2 F4/\FI f [] [(6,(sL h6 h1.1 h7))]/\Aq AJ 9 F4 h6 h7 h1.1 hg) ?_ ?_
  ·refine Bk<|Acr (by kernel_rfl) (fun m f w=>∃(J:(List AcP×Int))(O:Mem)(h2:AcQ)(h3:Nat)(h4:oO),AF (CM N G I b6 h0) m J=some ht/\HS w0 F0 w O [h4]/\Acs F2 O/\FI f [] [(6,(sL h2 J.1 h3)),(15,(sL bi h0 hr)),(16,(vi (h0.length:Int))),(17,(vi J.2))]/\Aq AJ 9 O h2 h3 J.1 h4) N ⟨(([]:List AcP),0),F2,none,0,(none,.cells #[] 0 (0,0)),bl,bk,Acu _,fI,AcI AJ 9 F2 _⟩ ?_;rintro dc f dd ⟨J,O,h2,h3,h4,bn,hh,h8,⟨_,rfl⟩,hm⟩;obtain⟨bo,de,rfl,bp,hu⟩:=AB bn;refine sR [0]<|Vs 1<|Nss<|Cd bp (fun bq br=>?_) (fun bq bs=>?_)
   ·refine Sc<|Ab<|Sq<|Bk<|sR (rG 4) ?_;obtain⟨hn,bt,bu⟩:=bS br;obtain⟨bv,hx76'⟩:=Ag bt;obtain⟨bw,bx,df,dg,dh,rfl,hF85,hE86⟩:=AcB (Acw bj h8) hx76';have bz:=hE86 _ _ hx76';refine Ix bv<|Lx 0 (hh.pers _ _ hF85) bz<|Al' 180 #[bF,vi 0,vi 0,vi 0] hh (fun di dj c0=>?_);refine St0 (Mt hn) c0 (fun c1 Y=>?_);refine nR [0,1]<|Vs 1<|Ld Y.at0<|Nt ?_;obtain⟨ho,c3,c4⟩:=bS bu;refine AcA (fun f w=>∃(F5:_)(h9:AcQ)(ha:_)(hb:_),HS w0 F0 w F5 [hb]/\Acs O F5/\FI f [] [(6,(sL h9 ho ha)),(15,(sS bw bx h0 hr)),(16,(vi (h0.length:Int))),(17,(vi J.2))]/\Aq AJ 9 F5 h9 ha ho hb) ?_ ?_
    ·refine Cd c3 (fun c5 c6=>?_) (fun c5 c7=>?_)
     ·refine Rg (rG 9)<|Vs 2<|Ld Y.at0<|Vs 1<|Ld Y.at0 ?_;obtain⟨hp,c8,c9⟩:=bS c6;refine Cl' (cO 146) Y (KY N c1 O Y.pers (hG.mono ((ba.t bh).trans h8)) hn.n_ hn.digits_ _ c8) ?_;rintro _ F6 dk ca hw rfl;refine Bs 9 [sv hp] ca (fun hx dl hy=>?_);have cb:Aq AJ 9 F6 (sA hx) 1 [hp] (some hx,.cells (lA [sv hp]) 9 (0,0)):=AcJ ⟨rfl,rfl⟩ (by simp);obtain⟨dm,cc,cd⟩:=bS c9;refine Ap2 PR hy (hm.mono hw) (hy.rd0 cb) cc (fun ce cf cg dn ch ci=>?_);refine Vs 1<|Aco ?_;obtain rfl:=Aa cd;exact .inl ⟨rfl,F6,ce,cf,cg,ch.dr0.dr0,hw,fI,ci⟩
     ·refine Sc ?_;obtain rfl:=Aa c7;exact .inl ⟨rfl,O,h2,h3,h4,Y.dr0,Acu _,fI,hm⟩
    ·rintro f dp ⟨F5,h9,ha,hb,cj,cl,⟨_,rfl⟩,cm⟩;refine Am<|Ab<|Rg [0,1]<|Vs 2<|Aco ?_;have cn:=Ay c4 hu;exact⟨bo,xF _,(ho,(W64 (J.2 + 1))),F5,h9,ha,hb,cn,cj,h8.t cl,fI,cm⟩
   ·refine Ex<|Ak<|Ak<|Av rfl ?_;have co:=AA bs hu;exact .inl ⟨rfl,(J.1,J.2),O,h2,h3,h4,co,hh,h8,fI,hm⟩
  ·rintro f cp ⟨h1,F4,h6,h7,hg,rfl,cq,dq,⟨_,rfl⟩,hz⟩;have cr:=AW bm;refine Ab<|sR (rG 6)<|Vs 1 ?_;have ct:=AcH hz;obtain⟨F7,b0,dr,cu⟩:=cq.fr0 hz;obtain⟨hc,cv,cw⟩:=bS cr;refine Cl' (cO 84) b0 (D4 N cp F7 b0.pers h1.1 h6 h7 ct cu ([32]:AcP) _ cv) ?_;rintro _ F8 ds cx dt rfl;refine Bs 9 [sv hc,sv ([45]:AcP)] cx (fun hq cy cz=>?_);have b1:Aq AJ 9 F8 (sA hq) 2 [hc,([45]:AcP)] (some hq,.cells (lA [sv hc,sv ([45]:AcP)]) 9 (0,0)):=AcJ ⟨rfl,⟨rfl,rfl⟩⟩ (by simp);have d0:=AcH b1;obtain⟨F9,b2,du,d1⟩:=cz.fr0 b1;obtain⟨d2,d3,d4⟩:=bS cw;refine Cl' (cO 147) b2 (Qn N cy F9 b2.pers ([hc,([45]:AcP)]) (sA hq) 2 d0 d1 _ d3) ?_;rintro _ dv dw d6 dx rfl;refine Vs 2<|Nt<|Rt ?_;obtain rfl:=Aa d4;exact Re [sv d2,vi 0] d6 rfl
def CE(N:Nat)(x0 I:Int):(Int×AcP)->Option (A2 AcP (Int×AcP)):=fun G=>
 (bif((decide (G.1 > 0))||(decide ((G.2.length:Int) < I)))then((IE ([48,49,50,51,52,53,54,55,56,57]:AcP) (Int.tmod G.1 10) (W64 ((Int.tmod G.1 10) + 1))).bind fun J=>((A5 J G.2).bind fun O=>some (.next ((W64 (Int.tdiv G.1 10)),O))))else some (.done (G.1,G.2)))
def Bi(N:Nat)(G I:Int):Option AcP:=
 ((AF (CE N G I) N (G,([]:AcP))).bind fun o=>o.k (fun r=>some r) (fun J=>some J.2))
theorem Dy(N:Nat)(w0:World)(F0:Mem)(hF:AcR w0 F0)(Y J:Int)(r:AcP)(h:Bi N Y J=some r):
  cA 151 [vi Y,vi J] w0 F0 (sv r):=by
 have h8:=Acv hF;refine Go 25 Tryz.func151<|sR [0]<|Vs 1<|nR [0]<|Vs 1<|Nss ?_;obtain⟨h0,h9,ha⟩:=bS h;refine AcA (fun f w=>∃(Z:(Int×AcP))(F2:_),h0=.done Z/\HS w0 F0 w F2 []/\Acs F0 F2/\FI f [] [(5,(sv Z.2))]) ?_ ?_
 ·refine Bk<|Acr (by kernel_rfl) (fun m f w=>∃(G:(Int×AcP))(F1:Mem),AF (CE N Y J) m G=some h0/\HS w0 F0 w F1 []/\Acs F0 F1/\FI f [] [(0,(vi G.1)),(1,(vi J)),(5,(sv G.2))]) N ⟨(Y,([]:AcP)),F0,h9,h8,Acu _,fI⟩ ?_;rintro hy f hz ⟨G,F1,hb,h1,h2,⟨_,rfl⟩⟩;obtain⟨hc,b0,rfl,hg,h3⟩:=AB hb;refine Sq<|sR (rG 8)<|Acz (kP w0 F0 F1 [] [] [(0,(vi G.1)),(1,(vi J)),(5,(sv G.2)),(13,(.bool ((decide (G.1 > 0))||(decide ((G.2.length:Int) < J)))))]) ?_ ?_
  ·refine Vs 3<|Acy (decide (G.1 > 0)) (fun I=>?_) (fun I=>?_)
   ·refine Ss I 4<|Pk1 I ?_;exact Aco ⟨rfl,F1,h1,Acu _,fJ ⟨rfl,rfl,rfl,congrArg Value.bool (Ej I rfl),trivial⟩⟩
   ·refine Vgs I 4<|Pk0 I ?_;exact Aco ⟨rfl,F1,h1,Acu _,fJ ⟨rfl,rfl,rfl,congrArg Value.bool (Ch I rfl),trivial⟩⟩
  ·rintro f b1 ⟨O,h4,h5,⟨_,rfl⟩⟩;refine Ab<|Cd hg (fun hh hm=>?_) (fun hh hn=>?_)
   ·refine Sc<|Ab<|Bk<|sR (rG 9)<|Vs 5 ?_;obtain⟨h6,ho,hp⟩:=bS hm;refine V 19 9 (DB (t:=9) (x:=.const (sv ([48,49,50,51,52,53,54,55,56,57]:AcP))) (lo:=some (.tmp 15)) (hi:=some (.tmp 18)) (a:=([48,49,50,51,52,53,54,55,56,57]:AcP)) (il:=Int.tmod G.1 10) (ih:=W64 ((Int.tmod G.1 10) + 1)) (v:=h6) rfl (by kernel_rfl) rfl rfl ho)<|Vs 1 ?_;obtain⟨h7,hq,hr⟩:=bS hp;refine V 21 9 (aZ (.tmp 19) (.tmp 20) hq)<|Vs 1<|Nt<|Rg [0,1,2]<|Vs 3<|Aco<|Am ?_;have ht:=Ay hr h3;exact⟨hc,xF _,((W64 (Int.tdiv G.1 10)),h7),O,ht,h4,h2.t h5,fI⟩
   ·refine Ex<|Ak<|Ak<|Av rfl ?_;have hu:=AA hn h3;exact .inl ⟨rfl,(G.1,G.2),O,hu,h4,h2.t h5,fI⟩
 ·rintro f b2 ⟨Z,F2,rfl,hw,b3,⟨_,rfl⟩⟩;have hx:=AW ha;refine Ab<|sR [0,1]<|Vs 2<|Nt<|Rt ?_;obtain rfl:=Aa hx;exact Re [sv Z.2] hw rfl
def CS(N:Nat)(G:Int):Option (AcP×Int):=
 ((DC N G 0 20000).bind fun I=>bif(!I)then some (([]:AcP),1)else((Bi N (W64 ((W64 (Int.tdiv G 1440)) + 1)) 1).bind fun J=>((A5 J ([32]:AcP)).bind fun O=>((Bi N (W64 (Int.tdiv (Int.tmod G 1440) 60)) 2).bind fun Y=>((A5 O Y).bind fun Z=>((Bi N (Int.tmod (Int.tmod G 1440) 60) 2).bind fun h0=>((A5 Z h0).bind fun h1=>some (h1,0))))))))
theorem JF(N:Nat)(w0:World)(F0:Mem)(hF:AcR w0 F0)(G:Int)(r:(AcP×Int))(h:CS N G=some r):
  cA 86 [vi G] w0 F0 (.tuple #[sv r.1,vi r.2]):=by
 have J:=Acv hF;refine Go 23 Tryz.func86<|sR [0,1]<|Vs 2<|Nss<|sR [0,1,2]<|Vs 1 ?_;obtain⟨hz,h2,h3⟩:=bS h;refine Cl' (cO 150) J (D5 N w0 F0 J.pers G 0 20000 _ h2) ?_;rintro _ F1 h4 I b0 rfl;refine Vs 1<|Nt<|Cd h3 (fun h5 h6=>?_) (fun h5 h7=>?_)
 ·refine sR [0,1]<|Vs 2<|Nt<|Rt<|Ad ?_;obtain rfl:=Aa h6;exact Re [sE,vi 1] I rfl
 ·refine Sc<|Ab<|sR [0,1,2]<|Vs 3<|nR (rG 15)<|Vs 3 ?_;obtain⟨h8,h9,ha⟩:=bS h7;refine Cl' (cO 151) I (Dy N h4 F1 I.pers (W64 ((W64 (Int.tdiv G 1440)) + 1)) 1 _ h9) ?_;rintro _ F2 hb O b1 rfl;obtain⟨Y,hc,hg⟩:=bS ha;refine V 14 9 (aZ (.tmp 13) (.const (sv ([32]:AcP))) hc)<|Vs 2 ?_;obtain⟨hh,hm,hn⟩:=bS hg;refine Cl' (cO 151) O (Dy N hb F2 O.pers (W64 (Int.tdiv (Int.tmod G 1440) 60)) 2 _ hm) ?_;rintro _ F3 ho Z b2 rfl;obtain⟨h0,hp,hq⟩:=bS hn;refine V 18 9 (aZ (.tmp 14) (.tmp 17) hp)<|Vs 2 ?_;obtain⟨hr,ht,hu⟩:=bS hq;refine Cl' (cO 151) Z (Dy N ho F3 Z.pers (Int.tmod (Int.tmod G 1440) 60) 2 _ ht) ?_;rintro _ F4 b3 hw b4 rfl;obtain⟨h1,hx,hy⟩:=bS hu;refine V 22 9 (aZ (.tmp 18) (.tmp 21) hx)<|Vs 2<|Nt<|Rt ?_;obtain rfl:=Aa hy;exact Re [sv h1,vi 0] hw rfl
def E5(N:Nat)(I:(List AcP)):(AcP×Int)->Option (A2 AcP (AcP×Int)):=fun G=>
 (bif(decide (G.2 < (I.length:Int)))then((bif(decide (G.2 > 0))then((A5 G.1 ([32]:AcP)).bind fun J=>some J)else some G.1).bind fun O=>((idx I G.2).bind fun Y=>((A5 O Y).bind fun Z=>some (.next (Z,(W64 (G.2 + 1)))))))else some (.done (G.1,G.2)))
def Jq(N:Nat)(G:(List AcP)):Option AcP:=
 ((AF (E5 N G) N (([]:AcP),0)).bind fun o=>o.k (fun r=>some r) (fun I=>some I.1))
theorem SO(N:Nat)(w0:World)(F0:Mem)(hF:AcR w0 F0)(I:(List AcP))(J:AcQ)(O:Nat)(ba:LC I.length O)(h8:SlA AJ F0 J I)(r:AcP)(h:Jq N I=some r):
  cA 152 [sL J I O] w0 F0 (sv r):=by
 have h9:=Acv hF;refine Go 22 Tryz.func152<|sR [0]<|Vs 1<|nR [0]<|Vs 1<|Nss<|sR [0]<|Vs 1<|Nt ?_;obtain⟨h2,ha,hb⟩:=bS h;refine AcA (fun f w=>∃(Y:(AcP×Int))(F2:_),h2=.done Y/\HS w0 F0 w F2 []/\Acs F0 F2/\FI f [] [(3,(sv Y.1))]) ?_ ?_
 ·refine Bk<|Acr (by kernel_rfl) (fun m f w=>∃(G:(AcP×Int))(F1:Mem),AF (E5 N I) m G=some h2/\HS w0 F0 w F1 []/\Acs F0 F1/\FI f [] [(0,(sL J I O)),(3,(sv G.1)),(4,(vi G.2))]) N ⟨(([]:AcP),0),F0,ha,h9,Acu _,fI⟩ ?_;rintro bb f bc ⟨G,F1,hc,h0,h1,⟨_,rfl⟩⟩;obtain⟨hg,bd,rfl,hh,h3⟩:=AB hc;refine Sq<|sR (rG 4)<|Vs 4<|Nt<|Cd hh (fun hm hn=>?_) (fun hm ho=>?_)
  ·refine Sc<|Ab<|Sq<|Bk<|Sq<|sR [0,1]<|Vs 2<|Nt ?_;obtain⟨h4,hp,hq⟩:=bS hn;refine AcA (kP w0 F0 F1 [] [] [(0,(sL J I O)),(3,(sv h4)),(4,(vi G.2))]) ?_ ?_
   ·refine Cd hp (fun hr ht=>?_) (fun hr hu=>?_)
    ·refine Rg [0,1,2]<|Vs 1 ?_;obtain⟨hw,hx,hy⟩:=bS ht;refine V 14 9 (aZ (.tmp 13) (.const (sv ([32]:AcP))) hx)<|Vs 1<|Aco ?_;obtain rfl:=Aa hy;exact .inl ⟨rfl,F1,h0,Acu _,fI⟩
    ·refine Sc ?_;obtain rfl:=Aa hu;exact .inl ⟨rfl,F1,h0,Acu _,fI⟩
   ·rintro f be ⟨Z,h5,h6,⟨_,rfl⟩⟩;refine Ab<|Rg (rG 7)<|Vs 3 ?_;obtain⟨hz,b0,b1⟩:=bS hq;obtain⟨b2,hx64'⟩:=Ag b0;obtain⟨bf,bg,bh,bi,bj,rfl,hF73,hE74⟩:=AcB (Acw h8 (h1.t h6)) hx64';have b3:=hE74 _ _ hx64';refine Ix b2<|Lx 0 (h5.pers _ _ hF73) b3 ?_;obtain⟨h7,b4,b5⟩:=bS b1;refine V 20 9 (aZ (.tmp 15) (.tmp 19) b4)<|Vs 1<|Aco<|Am<|Ab<|Rg [0,1,2]<|Vs 3<|Aco ?_;have b6:=Ay b5 h3;exact⟨hg,xF _,(h7,(W64 (G.2 + 1))),Z,b6,h5,h1.t h6,fI⟩
  ·refine Ex<|Ak<|Ak<|Av rfl ?_;have b7:=AA ho h3;exact .inl ⟨rfl,(G.1,G.2),F1,b7,h0,h1,fI⟩
 ·rintro f bk ⟨Y,F2,rfl,b8,bl,⟨_,rfl⟩⟩;have b9:=AW hb;refine Ab<|sR [0,1]<|Vs 2<|Nt<|Rt ?_;obtain rfl:=Aa b9;exact Re [sv Y.1] b8 rfl
def Bg(N:Nat)(G:Ac)(I:Af):Option (AcP×Int):=
 ((Cr N (lY G) ({Report:=I.Report,Serial:=I.Serial,Zone:=I.Zone}:Af)).bind fun Z=>bif(!Z)then some (([]:AcP),1)else((bif G.Report then((Bi N I.Report 1).bind fun h0=>((CD ([]:List AcP) [h0]).bind fun h1=>some h1))else some ([]:List AcP)).bind fun J=>((bif G.Serial then((Bi N I.Serial 3).bind fun h2=>((CD J [h2]).bind fun h3=>some h3))else some J).bind fun O=>((bif G.Zone then((Bi N I.Zone 2).bind fun h4=>((CD O [h4]).bind fun h5=>some h5))else some O).bind fun Y=>bif((Y.length:Int)==0)then some (([45]:AcP),0)else((Jq N Y).bind fun h6=>some (h6,0))))))
theorem EN(N:Nat)(w0:World)(F0:Mem)(hF:AcR w0 F0)(I:Ac)(G:Af)(r:(AcP×Int))(h:Bg N I G=some r):
  cA 87 [.agg (Ah I),.agg (Bc G)] w0 F0 (.tuple #[sv r.1,vi r.2]):=by
 have b6:=Acv hF;refine Go 40 Tryz.func87<|sR (rG 4)<|Bx' 23 (Ah I) b6 (fun h1 d9 b7=>?_);refine Bx' 32 (Bc G) b7 (fun h2 b8 h3=>?_);refine Vs 2<|Nss<|sR (rG 4)<|Ld h3.at1<|Ld h3.at0 ?_;obtain⟨da,b9,ba⟩:=bS h;refine Cl' (cO 78) h3 (EM N b8 F0 h3.pers (lY I) ({Report:=G.Report,Serial:=G.Serial,Zone:=G.Zone}:Af) _ b9) ?_;rintro _ F1 bb ho db rfl;refine Vs 1<|Nt<|Cd ba (fun bc bd=>?_) (fun bc be=>?_)
 ·refine sR [0,1]<|Vs 2<|Nt<|Rt<|Ad ?_;obtain rfl:=Aa bd;exact Re [sE,vi 1] ho rfl
 ·refine Sc<|Ab<|sR [0]<|Vs 1 ?_;have Y:=ho.dummy (oc #[] 0);refine Nss<|sR [0,1]<|Vs 1<|Ld Y.at2<|Nt ?_;obtain⟨hp,bf,bg⟩:=bS be;refine AcA (fun f w=>∃(J:_)(h4:AcQ)(h5:_)(h6:_),HS w0 F0 w J [h6,sb h2 (Bc G) 32,sb h1 (Ah I) 23]/\Acs F1 J/\FI f [] [(2,(pt h1 0)),(3,(pt h2 0)),(6,(sL h4 hp h5))]/\Aq AJ 9 J h4 h5 hp h6) ?_ ?_
  ·refine Cd bf (fun bh bi=>?_) (fun bh bj=>?_)
   ·refine Rg (rG 7)<|Vs 2<|Ld Y.at1 ?_;obtain⟨hc,bk,bl⟩:=bS bi;refine Cl' (cO 151) Y (Dy N bb F1 Y.pers G.Report 1 _ bk) ?_;rintro _ F3 dc bm bn rfl;refine Bs 9 [sv hc] bm (fun hq dd hr=>?_);have bo:Aq AJ 9 F3 (sA hq) 1 [hc] (some hq,.cells (lA [sv hc]) 9 (0,0)):=AcJ ⟨rfl,rfl⟩ (by simp);obtain⟨de,bp,bq⟩:=bS bl;refine Ap1 PR hr (AcI AJ 9 F3 _) (hr.rd0 bo) bp (fun br bs bt df bu bv=>?_);refine Vs 1<|Aco ?_;obtain rfl:=Aa bq;exact .inl ⟨rfl,F3,br,bs,bt,bu.dr0,bn,fI,bv⟩
   ·refine Sc ?_;obtain rfl:=Aa bj;exact .inl ⟨rfl,F1,none,0,(none,.cells #[] 0 (0,0)),Y,Acu _,fI,AcI AJ 9 F1 _⟩
  ·rintro f bw ⟨J,h4,h5,h6,Z,dg,⟨_,rfl⟩,ht⟩;refine Ab<|Sq<|sR [0,1]<|Vs 1<|Ld Z.at2<|Nt ?_;obtain⟨hu,bx,bz⟩:=bS bg;refine AcA (fun f w=>∃(O:_)(h7:AcQ)(h8:_)(h9:_),HS w0 F0 w O [h9,sb h2 (Bc G) 32,sb h1 (Ah I) 23]/\Acs J O/\FI f [] [(2,(pt h1 0)),(3,(pt h2 0)),(6,(sL h7 hu h8))]/\Aq AJ 9 O h7 h8 hu h9) ?_ ?_
   ·refine Cd bx (fun c0 c1=>?_) (fun c0 c3=>?_)
    ·refine Rg (rG 7)<|Vs 2<|Ld Z.at1 ?_;obtain⟨hg,c4,c5⟩:=bS c1;refine Cl' (cO 151) Z (Dy N bw J Z.pers G.Serial 3 _ c4) ?_;rintro _ F5 dh c6 hw rfl;refine Bs 9 [sv hg] c6 (fun hx di hy=>?_);have c7:Aq AJ 9 F5 (sA hx) 1 [hg] (some hx,.cells (lA [sv hg]) 9 (0,0)):=AcJ ⟨rfl,rfl⟩ (by simp);obtain⟨dj,c8,c9⟩:=bS c5;refine Ap1 PR hy (ht.mono hw) (hy.rd0 c7) c8 (fun ca cb cc dk cd ce=>?_);refine Vs 1<|Aco ?_;obtain rfl:=Aa c9;exact .inl ⟨rfl,F5,ca,cb,cc,cd.dr0,hw,fI,ce⟩
    ·refine Sc ?_;obtain rfl:=Aa c3;exact .inl ⟨rfl,J,h4,h5,h6,Z,Acu _,fI,ht⟩
   ·rintro f cf ⟨O,h7,h8,h9,h0,dl,⟨_,rfl⟩,hz⟩;refine Ab<|Sq<|sR [0,1]<|Vs 1<|Ld h0.at2<|Nt ?_;obtain⟨hh,cg,ch⟩:=bS bz;refine AcA (fun f w=>∃(F6:_)(ha:AcQ)(hb:_)(hm:_),HS w0 F0 w F6 [hm]/\Acs O F6/\FI f [] [(6,(sL ha hh hb))]/\Aq AJ 9 F6 ha hb hh hm) ?_ ?_
    ·refine Cd cg (fun ci cj=>?_) (fun ci cl=>?_)
     ·refine Rg (rG 7)<|Vs 2<|Ld h0.at1 ?_;obtain⟨hn,cm,cn⟩:=bS cj;refine Cl' (cO 151) h0 (Dy N cf O h0.pers G.Zone 2 _ cm) ?_;rintro _ F7 dm co b0 rfl;refine Bs 9 [sv hn] co (fun b1 dn b2=>?_);have cp:Aq AJ 9 F7 (sA b1) 1 [hn] (some b1,.cells (lA [sv hn]) 9 (0,0)):=AcJ ⟨rfl,rfl⟩ (by simp);obtain⟨dp,cq,cr⟩:=bS cn;refine Ap1 PR b2 (hz.mono b0) (b2.rd0 cp) cq (fun ct cu cv dq cw cx=>?_);refine Vs 1<|Aco ?_;obtain rfl:=Aa cr;exact .inl ⟨rfl,F7,ct,cu,cv,cw.dr0.dr1.dr1,b0,fI,cx⟩
     ·refine Sc ?_;obtain rfl:=Aa cl;exact .inl ⟨rfl,O,h7,h8,h9,h0.dr1.dr1,Acu _,fI,hz⟩
    ·rintro f cy ⟨F6,ha,hb,hm,b3,dr,⟨_,rfl⟩,b4⟩;refine Ab<|Sq<|sR [0,1,2]<|Vs 3<|Nt<|Cd ch (fun cz d0=>?_) (fun cz d1=>?_)
     ·refine sR [0,1]<|Vs 2<|Nt<|Rt<|Ad ?_;obtain rfl:=Aa d0;exact Re [sv ([45]:AcP),vi 0] b3 rfl
     ·refine Sc<|Ab<|sR (rG 4)<|Vs 1 ?_;have d2:=AcH b4;obtain⟨F8,b5,ds,d3⟩:=b3.fr0 b4;obtain⟨d4,d6,d7⟩:=bS d1;refine Cl' (cO 152) b5 (SO N cy F8 b5.pers hh ha hb d2 d3 _ d6) ?_;rintro _ F9 dt d8 du rfl;refine Vs 2<|Nt<|Rt ?_;obtain rfl:=Aa d7;exact Re [sv d4,vi 0] d8 rfl
def AV(N:Nat)(I:(List AcP))(J:AcP):Int->Option (A2 Int Int):=fun G=>
 (bif(decide (G < (I.length:Int)))then((idx I G).bind fun O=>bif(J==O)then some (.ret G)else some (.next (W64 (G + 1))))else some (.done G))
def A8(N:Nat)(G:(List AcP))(I:AcP):Option Int:=
 ((AF (AV N G I) N 0).bind fun o=>o.k (fun r=>some r) (fun h0=>some (-1)))
theorem EC(N:Nat)(w0:World)(F0:Mem)(hF:AcR w0 F0)(G:(List AcP))(Y:AcQ)(Z:Nat)(hy:LC G.length Z)(h5:SlA AJ F0 Y G)(J:AcP)(r:Int)(h:A8 N G J=some r):
  cA 94 [sL Y G Z,sv J] w0 F0 (vi r):=by
 have h6:=Acv hF;refine Go 19 Tryz.func94<|sR [0]<|Vs 1<|Nss<|sR [0,1,2]<|Vs 3<|Nt ?_;obtain⟨h2,h7,h3⟩:=bS h;refine AcA (fun f w=>∃(h4:Int)(F2:_),h2=.done h4/\HS w0 F0 w F2 []/\Acs F0 F2/\FI f [] []) ?_ ?_
 ·refine Bk<|Acr (by kernel_rfl) (fun m f w=>∃(I:Int)(F1:Mem),AF (AV N G J) m I=some h2/\HS w0 F0 w F1 []/\Acs F0 F1/\FI f [] [(0,(sL Y G Z)),(1,(sv J)),(7,(vi (G.length:Int))),(8,(vi I))]) N ⟨0,F0,h7,h6,Acu _,fI⟩ ?_;rintro hz f b0 ⟨I,F1,h8,O,h0,⟨_,rfl⟩⟩;obtain⟨h9,b1,rfl,ha,h1⟩:=AB h8;refine sR [0]<|Vs 1<|Nss<|Cd ha (fun hb hc=>?_) (fun hb hg=>?_)
  ·refine Sc<|Ab<|Sq<|Bk<|sR [0,1]<|Vs 2<|nR (rG 6)<|Vs 3 ?_;obtain⟨b2,hh,hm⟩:=bS hc;obtain⟨hn,hx48'⟩:=Ag hh;obtain⟨b3,b4,b5,b6,b7,rfl,hF57,hE58⟩:=AcB (Acw h5 h0) hx48';have ho:=hE58 _ _ hx48';refine Ix hn<|Lx 0 (O.pers _ _ hF57) ho<|Vs 1<|Nt<|Cd hm (fun hp hq=>?_) (fun hp hr=>?_)
   ·refine sR [0,1]<|Vs 2<|Nt<|Rt<|Ar<|Ad<|Ad<|Ar ?_;have hret:=Bf hq h1;subst hret;refine .inr<|Ad ?_;obtain rfl:=Aa h3;exact Re [vi I] O rfl
   ·refine Sc<|Am<|Ab<|Rg [0,1]<|Vs 2<|Aco ?_;have ht:=Ay hr h1;exact⟨h9,xF _,W64 (I + 1),F1,ht,O,h0,fI⟩
  ·refine Ex<|Ak<|Ak<|Av rfl ?_;have hu:=AA hg h1;exact .inl ⟨rfl,I,F1,hu,O,h0,fI⟩
 ·rintro f b8 ⟨h4,F2,rfl,hw,b9,⟨_,rfl⟩⟩;have hx:=AW h3;refine Ab<|sR [0]<|Vs 1<|Nt<|Rt ?_;obtain rfl:=Aa hx;exact Re [vi (-1)] hw rfl
def Df(N:Nat)(G:AcP):Option Int:=
 ((HW N G 9 (fun I=>BV N I)).bind fun J=>bif(!J)then some (-1)else((CW N G).bind fun O=>some O.1))
theorem G8(N:Nat)(w0:World)(F0:Mem)(hF:AcR w0 F0)(hG:BH F0)(G:AcP)(r:Int)(h:Df N G=some r):
  cA 165 [sv G] w0 F0 (vi r):=by
 have O:=Acv hF;refine Go 14 Tryz.func165<|sR [0]<|Vs 1<|Nss<|sR [0,1,2]<|Vs 1 ?_;obtain⟨hb,Y,Z⟩:=bS h;refine Cl' (cO 198) O (I9 N w0 F0 O.pers G 9 199 [] [] (fun I=>BV N I) (cO 199) (fun w1 F1 I r hc h0 h1=>JG N w1 F1 h0 I r h1) _ Y) ?_;rintro _ F1 h2 J h3 rfl;refine Vs 1<|Nt<|Cd Z (fun h4 h5=>?_) (fun h4 h6=>?_)
 ·refine sR [0]<|Vs 1<|Nt<|Rt<|Ad ?_;obtain rfl:=Aa h5;exact Re [vi (-1)] J rfl
 ·refine Sc<|Ab<|sR (rG 7)<|Vs 1 ?_;obtain⟨h7,h8,h9⟩:=bS h6;refine Cl' (cO 163) J (L6 N h2 F1 J.pers (hG.mono h3) G _ h8) ?_;rintro _ F2 hg ha hh ⟨hm,rfl,hn⟩;refine Vs 5<|nR [0,1]<|Vs 2<|Nt<|Rt ?_;obtain rfl:=Aa h9;exact Re [vi h7.1] ha rfl
def Jd(N:Nat)(J:AcP):Option (Int×Int):=
 ((strings_Cut N J ([32]:AcP)).bind fun O=>((Df N O.1).bind fun I=>((Df N O.2.1).bind fun G=>bif((decide (I < 1))||((decide (I > 20000))||(decide (G < 0))))then some (0,13)else((DM N (W64 ((W64 ((W64 ((W64 (I - 1)) * 1440)) + (W64 ((W64 (Int.tdiv G 100)) * 60)))) + (Int.tmod G 100)))).bind fun Y=>bif((Y.2 !=0)||(Y.1 !=J))then some (0,13)else some ((W64 ((W64 ((W64 ((W64 (I - 1)) * 1440)) + (W64 ((W64 (Int.tdiv G 100)) * 60)))) + (Int.tmod G 100))),0)))))
theorem Pn(N:Nat)(w0:World)(F0:Mem)(hF:AcR w0 F0)(hG:BH F0)(Z:AcP)(r:(Int×Int))(h:Jd N Z=some r):
  cA 96 [sv Z] w0 F0 (.tuple #[vi r.1,vi r.2]):=by
 have h4:=Acv hF;refine Go 55 Tryz.func96<|sR [0,1]<|Vs 2<|nR (rG 9)<|Vs 1 ?_;obtain⟨h5,hb,hc⟩:=bS h;refine Cl' (cO 164) h4 (M6 N w0 F0 h4.pers hG Z ([32]:AcP) _ hb) ?_;rintro _ F1 hg h6 h0 rfl;refine Vs 7<|nR (rG 6)<|Vs 1 ?_;obtain⟨G,hh,hm⟩:=bS hc;refine Cl' (cO 165) h6 (G8 N hg F1 h6.pers (hG.mono h0) h5.1 _ hh) ?_;rintro _ F2 hn h7 h8 rfl;refine Vs 1 ?_;obtain⟨I,ho,hp⟩:=bS hm;refine Cl' (cO 165) h7 (G8 N hn F2 h7.pers (hG.mono (h0.t h8)) h5.2.1 _ ho) ?_;rintro _ F3 b3 h1 hq rfl;refine Vs 2<|Nss<|sR (rG 10)<|Acz (kP w0 F0 F3 [] [] [(0,(sv Z)),(7,(vi G)),(8,(vi I)),(31,(.bool ((decide (G < 1))||((decide (G > 20000))||(decide (I < 0))))))]) ?_ ?_
 ·refine Vs 3<|Acy (decide (G < 1)) (fun J=>?_) (fun J=>?_)
  ·refine Ss J 2<|Pk1 J<|Vs 1<|Ss rT 2<|Pk1 rT ?_;exact Aco ⟨rfl,F3,h1,Acu _,fJ ⟨rfl,rfl,rfl,congrArg Value.bool (Ej J rfl),trivial⟩⟩
  ·refine Vgs J 2<|Pk0 J<|Vs 1<|Acy (decide (G > 20000)) (fun O=>?_) (fun O=>?_)
   ·refine Ss O 2<|Pk1 O ?_;exact Aco ⟨rfl,F3,h1,Acu _,fJ ⟨rfl,rfl,rfl,congrArg Value.bool (Ch J (Ej O rfl)),trivial⟩⟩
   ·refine Vgs O 2<|Pk0 O ?_;exact Aco ⟨rfl,F3,h1,Acu _,fJ ⟨rfl,rfl,rfl,congrArg Value.bool (Ch J (Ch O rfl)),trivial⟩⟩
 ·rintro f hr ⟨F4,h2,ht,⟨_,rfl⟩⟩;refine Ab<|Cd hp (fun hu hw=>?_) (fun hu hx=>?_)
  ·refine sR [0,1]<|Vs 2<|Nt<|Rt<|Ad ?_;obtain rfl:=Aa hw;exact Re [vi 0,vi 13] h2 rfl
  ·refine Sc<|Ab<|sR (rG 11)<|Vs 11<|Nss<|sR (rG 7)<|Vs 1 ?_;obtain⟨h3,hy,hz⟩:=bS hx;refine Cl' (cO 82) h2 (Lk N hr F4 h2.pers (hG.mono (((h0.t h8).trans hq).trans ht)) (W64 ((W64 ((W64 ((W64 (G - 1)) * 1440)) + (W64 ((W64 (Int.tdiv I 100)) * 60)))) + (Int.tmod I 100))) _ hy) ?_;rintro _ F5 b4 h9 b5 rfl;refine Vs 5<|nR (rG 7)<|Acz (kP w0 F0 F5 [] [] [(9,(vi (W64 ((W64 ((W64 ((W64 (G - 1)) * 1440)) + (W64 ((W64 (Int.tdiv I 100)) * 60)))) + (Int.tmod I 100))))),(53,(.bool ((h3.2 !=0)||(h3.1 !=Z))))]) ?_ ?_
   ·refine Vs 3<|Acy (h3.2 !=0) (fun Y=>?_) (fun Y=>?_)
    ·refine Ss Y 3<|Pk1 Y ?_;exact Aco ⟨rfl,F5,h9,Acu _,fJ ⟨rfl,congrArg Value.bool (Ej Y rfl),trivial⟩⟩
    ·refine Vgs Y 3<|Pk0 Y ?_;exact Aco ⟨rfl,F5,h9,Acu _,fJ ⟨rfl,congrArg Value.bool (Ch Y rfl),trivial⟩⟩
   ·rintro f b6 ⟨F6,ha,b7,⟨_,rfl⟩⟩;refine Ab<|Cd hz (fun b0 b1=>?_) (fun b0 b2=>?_)
    ·refine sR [0,1]<|Vs 2<|Nt<|Rt<|Ad ?_;obtain rfl:=Aa b1;exact Re [vi 0,vi 13] ha rfl
    ·refine Sc<|Ab<|sR [0,1,2]<|Vs 3<|Nt<|Rt ?_;obtain rfl:=Aa b2;exact Re [vi (W64 ((W64 ((W64 ((W64 (G - 1)) * 1440)) + (W64 ((W64 (Int.tdiv I 100)) * 60)))) + (Int.tmod I 100))),vi 0] ha rfl
def Gu(N:Nat)(G:Ac)(Y:AcP):Option (Af×Int):=
 ((strings_Split N Y ([32]:AcP)).bind fun O=>(((D7 N (lY G) zE).bind fun h1=>((idx h1 0).bind fun h2=>(bif h2.has_ then some (decide ((O.length:Int) > 0))else some false))).bind fun h3=>((bif h3 then((idx O 0).bind fun h4=>((Df N h4).bind fun h5=>((sub O 1 (O.length:Int)).bind fun h6=>some (h6,h5))))else some (O,0)).bind fun I=>(((D7 N (lY G) ({Report:=I.2,Serial:=0,Zone:=0}:Af)).bind fun h7=>((idx h7 1).bind fun h8=>(bif h8.has_ then some (decide ((I.1.length:Int) > 0))else some false))).bind fun h9=>((bif h9 then((idx I.1 0).bind fun ha=>((Df N ha).bind fun hb=>((sub I.1 1 (I.1.length:Int)).bind fun hc=>some (hc,hb))))else some (I.1,0)).bind fun J=>(((D7 N (lY G) ({Report:=I.2,Serial:=J.2,Zone:=0}:Af)).bind fun hg=>((idx hg 2).bind fun hh=>(bif hh.has_ then some (decide ((J.1.length:Int) > 0))else some false))).bind fun hm=>((bif hm then((idx J.1 0).bind fun hn=>((Df N hn).bind fun ho=>((sub J.1 1 (J.1.length:Int)).bind fun hp=>some (hp,ho))))else some (J.1,0)).bind fun Z=>((BG N (lY G) ({Report:=I.2,Serial:=J.2,Zone:=Z.2}:Af)).bind fun h0=>bif((h0.2 !=0)||(h0.1 !=Y))then some (zE,1)else some (({Report:=I.2,Serial:=J.2,Zone:=Z.2}:Af),0)))))))))
theorem Md(N:Nat)(w0:World)(F0:Mem)(hF:AcR w0 F0)(hG:BH F0)(I:Ac)(x1:AcP)(r:(Af×Int))(h:Gu N I x1=some r):
  cA 97 [.agg (Ah I),sv x1] w0 F0 (.tuple #[.agg (Bc r.1),vi r.2]):=by
 have br:=Acv hF;refine Go 60 Tryz.func97<|sR [0,1,2]<|Bx' 23 (Ah I) br (fun h0 gy bs=>?_);refine Al' 32 #[vi 0,vi 0,vi 0] bs (fun Z bt bb=>?_);refine Vs 1<|nR [0,1,2]<|Vs 1 ?_;obtain⟨hx,bu,bv⟩:=bS h;refine Cl' (cO 93) bb (EB N bt F0 bb.pers hG x1 ([32]:AcP) _ bu) ?_;rintro _ F1 gz bw hq ⟨bc,hy,rfl,bd,hz⟩;refine Vs 1<|nR [0]<|Al' 32 #[vi 0,vi 0,vi 0] bw (fun G i0 bx=>?_);refine Nss<|sR (rG 6)<|Vs 3<|Bs 194 [pt G 0,pt G 1,pt G 2] bx (fun O bz h8=>?_);refine Vs 2<|Nt<|Bk<|CWP.unroll (by kernel_rfl) 4<|URL.step<|sR [0]<|Vs 1<|Nss<|C1 rT<|Sc<|Ab<|Sq<|Bk<|sR (rG 5) ?_;refine Vs 1<|V 22 0 (Aba (v1:=pt O 0) (by rfl) (BX (t:=200) (x:=.tmp 17) (y:=.tmp 19) (b:=O) (nn:=3) (c:=3) (E:=194) (s:=1) (by_:=8) (j:=0) rfl rfl (by kernel_rfl) (by decide)))<|Ld h8.at0<|Vs 2<|nR (rG 12) ?_;obtain⟨c0,c1,c3⟩:=bS bv;refine Acz (kP w0 F0 F1 [sb O #[pt G 0,pt G 1,pt G 2] 194,sb G #[vi 0,vi 0,vi 0] 32,sb Z #[vi 0,vi 0,vi 0] 32,sb h0 (Ah I) 23] [] [(1,(sv x1)),(2,(pt h0 0)),(4,(pt Z 0)),(6,(sL bc hx hy)),(7,(pt G 0)),(9,(pt G 0)),(17,(.slice (sA O) 3 3)),(18,(vi 3)),(19,(vi 0)),(35,(.bool c0))]) ?_ ?_
 ·refine Ld h8.at3<|Ld h8.at1 ?_;obtain⟨i1,c4,c5⟩:=bS c1;refine Cl' (cO 138) h8 (HU N bz F1 h8.pers (lY I) (zE) _ c4) ?_;rintro _ F3 i2 b0 be ⟨i3,i4,rfl,i5,c6⟩;refine Vs 1 ?_;obtain⟨i6,c7,c8⟩:=bS c5;obtain⟨c9,hx67'⟩:=Ag c7;obtain⟨i7,i8,i9,ia,ib,rfl,hF76,hE77⟩:=AcB c6 hx67';have ca:=hE77 _ _ hx67';refine Ix c9<|Vs 1<|Lx 0 (b0.pers _ _ hF76) ca<|Vs 1<|Sp c8 (fun h9 cb=>?_) (fun h9 cc=>?_)
  ·refine Vgs h9 3<|Pk1 h9 ?_;obtain rfl:=Aa cb;exact Aco ⟨rfl,F3,b0,be,fI⟩
  ·refine Ss h9 3<|Pk0 h9 ?_;obtain rfl:=Aa cc;exact Aco ⟨rfl,F3,b0,be,fI⟩
 ·rintro f cd ⟨F2,hr,h2,⟨_,rfl⟩⟩;refine Ab ?_;obtain⟨J,ce,cf⟩:=bS c3;refine AcA (fun f w=>∃(F4:_)(ha:AcQ)(h4:_),HS w0 F0 w F4 [sb O #[pt G 0,pt G 1,pt G 2] 194,sb G #[vi J.2,vi 0,vi 0] 32,sb Z #[vi 0,vi 0,vi 0] 32,sb h0 (Ah I) 23]/\Acs F2 F4/\FI f [] [(1,(sv x1)),(2,(pt h0 0)),(4,(pt Z 0)),(6,(sL ha J.1 h4)),(7,(pt G 0)),(17,(.slice (sA O) 3 3)),(18,(vi 3)),(19,(vi 0))]/\LC J.1.length h4/\SlA AJ F4 ha J.1) ?_ ?_
  ·refine Cd ce (fun cg ch=>?_) (fun cg ci=>?_)
   ·refine sR (rG 7)<|Vs 2 ?_;obtain⟨cj,cl,cm⟩:=bS ch;obtain⟨cn,hx102'⟩:=Ag cl;obtain⟨co,cp,ic,ie,ig,rfl,hF111,hE112⟩:=AcB (Acw hz h2) hx102';have cq:=hE112 _ _ hx102';refine Ix cn<|Lx 0 (hr.pers _ _ hF111) cq ?_;obtain⟨cr,ct,cu⟩:=bS cm;refine Cl' (cO 165) hr (G8 N cd F2 hr.pers (hG.mono (hq.t h2)) cj _ ct) ?_;rintro _ F5 ii cv bf rfl;refine Vs 1<|St1 #[vi cr,vi 0,vi 0] cv (fun ij cw=>?_);refine Nt<|Rg [0,1,2]<|Vs 1 ?_;obtain⟨cx,cy,cz⟩:=bS cu;obtain⟨d0,d1,d2,d3,d4⟩:=GT (P:=Tryz.prog) (T:=AJ) (lo:=some (.const (vi 1))) (hi:=none) (mx:=none) (t:=55) (E:=9) (by_:=16) (c:=hy) (a:=some ⟨co,cp,none⟩) (l:=hx) (r:=cx) (il:=1) (ih:=(hx.length:Int)) (im:=0) (by kernel_rfl) (by kernel_rfl) bd (Acw hz (h2.t bf)) (fun h=>by first | rfl | cases h) cy;refine V 43 55 (d4 (x:=.tmp 42) rfl rfl rfl trivial)<|Vs 1<|Aco ?_;obtain rfl:=Aa cz;exact .inl ⟨rfl,F5,d0,d1,cw,bf,fI,d2,d3⟩
   ·refine Sc ?_;obtain rfl:=Aa ci;exact .inl ⟨rfl,F2,bc,hy,hr,Acu _,fI,bd,Acw hz h2⟩
  ·rintro f d6 ⟨F4,ha,h4,hb,b1,⟨_,rfl⟩,bg,b2⟩;refine Am<|Ab<|Rg [0,1]<|Vs 2<|Nt<|URL.step<|sR [0]<|Vs 1<|Nss<|C1 rT<|Sc<|Ab<|Sq<|Bk<|sR (rG 5) ?_;refine Vs 1<|V 22 0 (Aba (v1:=pt O 1) (by rfl) (BX (t:=200) (x:=.tmp 17) (y:=.tmp 19) (b:=O) (nn:=3) (c:=3) (E:=194) (s:=1) (by_:=8) (j:=1) rfl rfl (by kernel_rfl) (by decide)))<|Ld hb.at0<|Vs 2<|nR (rG 12) ?_;obtain⟨d7,d8,d9⟩:=bS cf;refine Acz (kP w0 F0 F4 [sb O #[pt G 0,pt G 1,pt G 2] 194,sb G #[vi J.2,vi 0,vi 0] 32,sb Z #[vi 0,vi 0,vi 0] 32,sb h0 (Ah I) 23] [] [(1,(sv x1)),(2,(pt h0 0)),(4,(pt Z 0)),(6,(sL ha J.1 h4)),(7,(pt G 0)),(9,(pt G 1)),(17,(.slice (sA O) 3 3)),(18,(vi 3)),(19,(vi 1)),(35,(.bool d7))]) ?_ ?_
   ·refine Ld hb.at3<|Ld hb.at1 ?_;obtain⟨ik,da,db⟩:=bS d8;refine Cl' (cO 138) hb (HU N d6 F4 hb.pers (lY I) ({Report:=J.2,Serial:=0,Zone:=0}:Af) _ da) ?_;rintro _ F7 io b3 bh ⟨ip,iq,rfl,ir,dc⟩;refine Vs 1 ?_;obtain⟨it,dd,de⟩:=bS db;obtain⟨df,hx159'⟩:=Ag dd;obtain⟨iu,iv,iw,iy,iz,rfl,hF168,hE169⟩:=AcB dc hx159';have dg:=hE169 _ _ hx159';refine Ix df<|Vs 1<|Lx 0 (b3.pers _ _ hF168) dg<|Vs 1<|Sp de (fun hc dh=>?_) (fun hc di=>?_)
    ·refine Vgs hc 3<|Pk1 hc ?_;obtain rfl:=Aa dh;exact Aco ⟨rfl,F7,b3,bh,fI⟩
    ·refine Ss hc 3<|Pk0 hc ?_;obtain rfl:=Aa di;exact Aco ⟨rfl,F7,b3,bh,fI⟩
   ·rintro f dj ⟨F6,ht,h5,⟨_,rfl⟩⟩;refine Ab ?_;obtain⟨Y,dk,dl⟩:=bS d9;refine AcA (fun f w=>∃(F8:_)(hg:AcQ)(h6:_),HS w0 F0 w F8 [sb O #[pt G 0,pt G 1,pt G 2] 194,sb G #[vi J.2,vi Y.2,vi 0] 32,sb Z #[vi 0,vi 0,vi 0] 32,sb h0 (Ah I) 23]/\Acs F6 F8/\FI f [] [(1,(sv x1)),(2,(pt h0 0)),(4,(pt Z 0)),(6,(sL hg Y.1 h6)),(7,(pt G 0)),(17,(.slice (sA O) 3 3)),(18,(vi 3)),(19,(vi 1))]/\LC Y.1.length h6/\SlA AJ F8 hg Y.1) ?_ ?_
    ·refine Cd dk (fun dm dn=>?_) (fun dm dp=>?_)
     ·refine sR (rG 7)<|Vs 2 ?_;obtain⟨dq,dr,ds⟩:=bS dn;obtain⟨dt,hx194'⟩:=Ag dr;obtain⟨du,dv,j0,j1,j2,rfl,hF203,hE204⟩:=AcB (Acw b2 h5) hx194';have dw:=hE204 _ _ hx194';refine Ix dt<|Lx 0 (ht.pers _ _ hF203) dw ?_;obtain⟨dx,dy,dz⟩:=bS ds;refine Cl' (cO 165) ht (G8 N dj F6 ht.pers (hG.mono (((hq.t h2).trans b1).trans h5)) dq _ dy) ?_;rintro _ F9 j3 e0 bi rfl;refine Vs 1<|St1 #[vi J.2,vi dx,vi 0] e0 (fun j4 e1=>?_);refine Nt<|Rg [0,1,2]<|Vs 1 ?_;obtain⟨e2,e3,e4⟩:=bS dz;obtain⟨e6,e7,e8,e9,ea⟩:=GT (P:=Tryz.prog) (T:=AJ) (lo:=some (.const (vi 1))) (hi:=none) (mx:=none) (t:=55) (E:=9) (by_:=16) (c:=h4) (a:=some ⟨du,dv,none⟩) (l:=J.1) (r:=e2) (il:=1) (ih:=(J.1.length:Int)) (im:=0) (by kernel_rfl) (by kernel_rfl) bg (Acw b2 (h5.t bi)) (fun h=>by first | rfl | cases h) e3;refine V 43 55 (ea (x:=.tmp 42) rfl rfl rfl trivial)<|Vs 1<|Aco ?_;obtain rfl:=Aa e4;exact .inl ⟨rfl,F9,e6,e7,e1,bi,fI,e8,e9⟩
     ·refine Sc ?_;obtain rfl:=Aa dp;exact .inl ⟨rfl,F6,ha,h4,ht,Acu _,fI,bg,Acw b2 h5⟩
    ·rintro f eb ⟨F8,hg,h6,hh,bj,⟨_,rfl⟩,bk,b4⟩;refine Am<|Ab<|Rg [0,1]<|Vs 2<|Nt<|URL.step<|sR [0]<|Vs 1<|Nss<|C1 rT<|Sc<|Ab<|Sq<|Bk<|sR (rG 5) ?_;refine Vs 1<|V 22 0 (Aba (v1:=pt O 2) (by rfl) (BX (t:=200) (x:=.tmp 17) (y:=.tmp 19) (b:=O) (nn:=3) (c:=3) (E:=194) (s:=1) (by_:=8) (j:=2) rfl rfl (by kernel_rfl) (by decide)))<|Ld hh.at0<|Vs 2<|nR (rG 12) ?_;obtain⟨ec,ed,ee⟩:=bS dl;refine Acz (kP w0 F0 F8 [sb O #[pt G 0,pt G 1,pt G 2] 194,sb G #[vi J.2,vi Y.2,vi 0] 32,sb Z #[vi 0,vi 0,vi 0] 32,sb h0 (Ah I) 23] [] [(1,(sv x1)),(2,(pt h0 0)),(4,(pt Z 0)),(6,(sL hg Y.1 h6)),(7,(pt G 0)),(9,(pt G 2)),(17,(.slice (sA O) 3 3)),(18,(vi 3)),(19,(vi 2)),(35,(.bool ec))]) ?_ ?_
     ·refine Ld hh.at3<|Ld hh.at1 ?_;obtain⟨j5,ef,eg⟩:=bS ed;refine Cl' (cO 138) hh (HU N eb F8 hh.pers (lY I) ({Report:=J.2,Serial:=Y.2,Zone:=0}:Af) _ ef) ?_;rintro _ bl j6 b5 bm ⟨j7,j8,rfl,j9,eh⟩;refine Vs 1 ?_;obtain⟨ja,ei,ej⟩:=bS eg;obtain⟨ek,hx251'⟩:=Ag ei;obtain⟨jb,jc,jd,je,jf,rfl,hF260,hE261⟩:=AcB eh hx251';have el:=hE261 _ _ hx251';refine Ix ek<|Vs 1<|Lx 0 (b5.pers _ _ hF260) el<|Vs 1<|Sp ej (fun hm en=>?_) (fun hm eo=>?_)
      ·refine Vgs hm 3<|Pk1 hm ?_;obtain rfl:=Aa en;exact Aco ⟨rfl,bl,b5,bm,fI⟩
      ·refine Ss hm 3<|Pk0 hm ?_;obtain rfl:=Aa eo;exact Aco ⟨rfl,bl,b5,bm,fI⟩
     ·rintro f ep ⟨h7,hu,hn,⟨_,rfl⟩⟩;refine Ab ?_;obtain⟨h1,er,et⟩:=bS ee;refine AcA (fun f w=>∃(ho:_)(b6:AcQ)(b7:_),HS w0 F0 w ho [sb O #[pt G 0,pt G 1,pt G 2] 194,sb G #[vi J.2,vi Y.2,vi h1.2] 32,sb Z #[vi 0,vi 0,vi 0] 32,sb h0 (Ah I) 23]/\Acs h7 ho/\FI f [] [(1,(sv x1)),(2,(pt h0 0)),(4,(pt Z 0)),(6,(sL b6 h1.1 b7)),(7,(pt G 0)),(17,(.slice (sA O) 3 3)),(18,(vi 3)),(19,(vi 2))]/\LC h1.1.length b7/\SlA AJ ho b6 h1.1) ?_ ?_
      ·refine Cd er (fun eu ev=>?_) (fun eu ew=>?_)
       ·refine sR (rG 7)<|Vs 2 ?_;obtain⟨ex,ey,ez⟩:=bS ev;obtain⟨g0,hx286'⟩:=Ag ey;obtain⟨g1,g2,jg,jh,ji,rfl,hF295,hE296⟩:=AcB (Acw b4 hn) hx286';have g3:=hE296 _ _ hx286';refine Ix g0<|Lx 0 (hu.pers _ _ hF295) g3 ?_;obtain⟨g4,g5,g6⟩:=bS ez;refine Cl' (cO 165) hu (G8 N ep h7 hu.pers (hG.mono (((((hq.t h2).trans b1).trans h5).trans bj).trans hn)) ex _ g5) ?_;rintro _ g7 jj g8 bn rfl;refine Vs 1<|St1 #[vi J.2,vi Y.2,vi g4] g8 (fun jk g9=>?_);refine Nt<|Rg [0,1,2]<|Vs 1 ?_;obtain⟨ga,gh,gi⟩:=bS g6;obtain⟨gk,gl,gm,gn,go⟩:=GT (P:=Tryz.prog) (T:=AJ) (lo:=some (.const (vi 1))) (hi:=none) (mx:=none) (t:=55) (E:=9) (by_:=16) (c:=h6) (a:=some ⟨g1,g2,none⟩) (l:=Y.1) (r:=ga) (il:=1) (ih:=(Y.1.length:Int)) (im:=0) (by kernel_rfl) (by kernel_rfl) bk (Acw b4 (hn.t bn)) (fun h=>by first | rfl | cases h) gh;refine V 43 55 (go (x:=.tmp 42) rfl rfl rfl trivial)<|Vs 1<|Aco ?_;obtain rfl:=Aa gi;exact .inl ⟨rfl,g7,gk,gl,g9,bn,fI,gm,gn⟩
       ·refine Sc ?_;obtain rfl:=Aa ew;exact .inl ⟨rfl,h7,hg,h6,hu,Acu _,fI,bk,Acw b4 hn⟩
      ·rintro f gp ⟨ho,b6,b7,hw,gr,⟨_,rfl⟩,jl,jm⟩;refine Am<|Ab<|Rg [0,1]<|Vs 2<|Nt<|URL.step<|sR [0] ?_;refine Vs 1<|Nss<|C0 rF<|Ex<|Ak<|Ak<|Av rfl<|Ab<|Sq ?_;refine sR (rG 8)<|Ld hw.at3<|Ld hw.at1 ?_;obtain⟨b8,gs,gu⟩:=bS et;refine Cl' (cO 83) hw (FL N gp ho hw.pers (hG.mono ((((((hq.t h2).trans b1).trans h5).trans bj).trans hn).trans gr)) (lY I) ({Report:=J.2,Serial:=Y.2,Zone:=h1.2}:Af) _ gs) ?_;rintro _ b9 jo bo jp rfl;refine Vs 5<|nR (rG 7)<|Acz (kP w0 F0 b9 [sb G #[vi J.2,vi Y.2,vi h1.2] 32,sb Z #[vi 0,vi 0,vi 0] 32] [] [(4,(pt Z 0)),(7,(pt G 0)),(57,(.bool ((b8.2 !=0)||(b8.1 !=x1))))]) ?_ ?_
       ·refine Vs 3<|Acy (b8.2 !=0) (fun h3=>?_) (fun h3=>?_)
        ·refine Ss h3 3<|Pk1 h3 ?_;exact Aco ⟨rfl,b9,bo.dr0.dr2,Acu _,fJ ⟨rfl,rfl,congrArg Value.bool (Ej h3 rfl),trivial⟩⟩
        ·refine Vgs h3 3<|Pk0 h3 ?_;exact Aco ⟨rfl,b9,bo.dr0.dr2,Acu _,fJ ⟨rfl,rfl,congrArg Value.bool (Ch h3 rfl),trivial⟩⟩
       ·rintro f jq ⟨hp,ba,jr,⟨_,rfl⟩⟩;refine Ab<|Cd gu (fun gv gw=>?_) (fun gv gx=>?_)
        ·refine sR [0,1,2]<|Vs 1<|St1 #[vi 0,vi 0,vi 0] ba (fun js bp=>?_);refine Vs 1<|Nt<|Rt<|Ad ?_;obtain rfl:=Aa gw;exact⟨rfl,.tuple #[.agg #[vi 0,vi 0,vi 0],vi 1],aK [.cell 4 32,.tmp 5] [.agg #[vi 0,vi 0,vi 0],vi 1] ⟨Z,0,rfl,aL 32 3 bp.at1,⟨rfl,trivial⟩⟩,.tuple #[.agg #[vi 0,vi 0,vi 0],vi 1],hp,rfl,bp.clear,rfl⟩
        ·refine Sc<|Ab<|sR [0,1,2]<|Ld ba.at0<|St1 #[vi J.2,vi Y.2,vi h1.2] ba (fun jt bq=>?_);refine Vs 1<|Nt<|Rt ?_;obtain rfl:=Aa gx;exact⟨rfl,.tuple #[.agg #[vi J.2,vi Y.2,vi h1.2],vi 0],aK [.cell 4 32,.tmp 5] [.agg #[vi J.2,vi Y.2,vi h1.2],vi 0] ⟨Z,0,rfl,aL 32 3 bq.at1,⟨rfl,trivial⟩⟩,.tuple #[.agg #[vi J.2,vi Y.2,vi h1.2],vi 0],hp,rfl,bq.clear,rfl⟩
def GQ(N:Nat)(I:AcP):(List AcP×Int×Int)->Option (A2 (List AcP) (List AcP×Int×Int)):=fun G=>
 (bif(decide (G.2.2 < (I.length:Int)))then((IF I G.2.2).bind fun O=>((bif(O==32)then((IE I G.2.1 G.2.2).bind fun Y=>((CD G.1 [Y]).bind fun Z=>some (Z,(W64 (G.2.2 + 1)))))else some (G.1,G.2.1)).bind fun J=>some (.next (J.1,J.2,(W64 (G.2.2 + 1))))))else some (.done (G.1,G.2.1,G.2.2)))
def HG(N:Nat)(G:AcP):Option (List AcP):=
 ((AF (GQ N G) N (([]:List AcP),0,0)).bind fun o=>o.k (fun r=>some r) (fun I=>((IE G I.2.1 (G.length:Int)).bind fun J=>((CD I.1 [J]).bind fun O=>some O))))
theorem M8(N:Nat)(w0:World)(F0:Mem)(hF:AcR w0 F0)(I:AcP)(r:(List AcP))(h:HG N I=some r):
  cP 167 (lA [sv I]) w0 (AD w0 F0 fun F' v=>∃(hc:AcQ)(hg:Nat),v=(sL hc r hg)/\LC r.length hg/\SlA AJ F' hc r):=by
 have hx:=Acv hF;refine Go 31 Tryz.func167<|sR [0]<|Vs 1<|nR [0]<|Vs 1<|nR [0]<|Vs 1<|Nss<|sR [0]<|Vs 1<|Nt ?_;have hy:=hx.dummy (oc #[] 0);obtain⟨hh,hz,b0⟩:=bS h;refine AcA (fun f w=>∃(J:(List AcP×Int×Int))(O:_)(h7:AcQ)(h8:_)(h9:_),hh=.done J/\HS w0 F0 w O [h9]/\Acs F0 O/\FI f [] [(0,(sv I)),(3,(sL h7 J.1 h8)),(4,(vi J.2.1))]/\Aq AJ 9 O h7 h8 J.1 h9) ?_ ?_
 ·refine Bk<|Acr (by kernel_rfl) (fun m f w=>∃(G:(List AcP×Int×Int))(F1:Mem)(Y:AcQ)(Z:Nat)(h0:oO),AF (GQ N I) m G=some hh/\HS w0 F0 w F1 [h0]/\Acs F0 F1/\FI f [] [(0,(sv I)),(3,(sL Y G.1 Z)),(4,(vi G.2.1)),(5,(vi G.2.2))]/\Aq AJ 9 F1 Y Z G.1 h0) N ⟨(([]:List AcP),0,0),F0,none,0,(none,.cells #[] 0 (0,0)),hz,hy,Acu _,fI,AcI AJ 9 F0 _⟩ ?_;rintro c9 f ca ⟨G,F1,Y,Z,h0,b1,ha,hm,⟨_,rfl⟩,hb⟩;obtain⟨b2,cb,rfl,b3,hn⟩:=AB b1;refine Sq<|sR (rG 4)<|Vs 4<|Nt<|Cd b3 (fun b4 b5=>?_) (fun b4 b6=>?_)
  ·refine Sc<|Ab<|Sq<|Bk<|sR (rG 4)<|Vs 2 ?_;obtain⟨b7,b8,b9⟩:=bS b5;refine V 14 5 (CA (t:=9) (x:=.tmp 12) (y:=.tmp 13) (a:=I) (k:=.i64) (i:=G.2.2) (v:=b7) rfl rfl (by kernel_rfl) b8)<|Vs 1<|Nt ?_;obtain⟨h1,ba,bb⟩:=bS b9;refine AcA (fun f w=>∃(F3:_)(h2:AcQ)(h3:_)(h4:_),HS w0 F0 w F3 [h4]/\Acs F1 F3/\FI f [] [(0,(sv I)),(3,(sL h2 h1.1 h3)),(4,(vi h1.2)),(5,(vi G.2.2))]/\Aq AJ 9 F3 h2 h3 h1.1 h4) ?_ ?_
   ·refine Cd ba (fun bc bd=>?_) (fun bc be=>?_)
    ·refine sR (rG 8)<|Vs 4 ?_;obtain⟨h5,bf,bg⟩:=bS bd;refine V 20 9 (DB (t:=9) (x:=.tmp 17) (lo:=some (.tmp 18)) (hi:=some (.tmp 19)) (a:=I) (il:=G.2.1) (ih:=G.2.2) (v:=h5) rfl (by kernel_rfl) rfl rfl bf)<|Bs 9 [sv h5] ha (fun ho cc hp=>?_);have bh:Aq AJ 9 F1 (sA ho) 1 [h5] (some ho,.cells (lA [sv h5]) 9 (0,0)):=AcJ ⟨rfl,rfl⟩ (by simp);obtain⟨cd,bi,bj⟩:=bS bg;refine Ap1 PR hp hb (hp.rd0 bh) bi (fun bk bl bm ce bn bo=>?_);refine Vs 1<|Nt<|Rg [0,1,2]<|Vs 3<|Aco ?_;obtain rfl:=Aa bj;exact .inl ⟨rfl,F1,bk,bl,bm,bn.dr0,Acu _,fI,bo⟩
    ·refine Sc ?_;obtain rfl:=Aa be;exact .inl ⟨rfl,F1,Y,Z,h0,ha,Acu _,fI,hb⟩
   ·rintro f cf ⟨F3,h2,h3,h4,bp,bq,⟨_,rfl⟩,br⟩;refine Am<|Ab<|Rg [0,1,2]<|Vs 3<|Aco ?_;have bs:=Ay bb hn;exact⟨b2,xF _,(h1.1,h1.2,(W64 (G.2.2 + 1))),F3,h2,h3,h4,bs,bp,hm.t bq,fI,br⟩
  ·refine Ex<|Ak<|Ak<|Av rfl ?_;have bt:=AA b6 hn;exact .inl ⟨rfl,(G.1,G.2.1,G.2.2),F1,Y,Z,h0,bt,ha,hm,fI,hb⟩
 ·rintro f cg ⟨J,O,h7,h8,h9,rfl,bu,ch,⟨_,rfl⟩,bv⟩;have bw:=AW b0;refine Ab<|sR (rG 7)<|Vs 3 ?_;obtain⟨h6,bx,bz⟩:=bS bw;refine V 28 9 (DB (t:=9) (x:=.tmp 26) (lo:=some (.tmp 27)) (hi:=none) (a:=I) (il:=J.2.1) (ih:=(I.length:Int)) (v:=h6) rfl (by kernel_rfl) rfl rfl bx)<|Bs 9 [sv h6] bu (fun hq ci hr=>?_);have c0:Aq AJ 9 O (sA hq) 1 [h6] (some hq,.cells (lA [sv h6]) 9 (0,0)):=AcJ ⟨rfl,rfl⟩ (by simp);obtain⟨c1,c3,c4⟩:=bS bz;refine Ap1 PR hr bv (hr.rd0 c0) c3 (fun ht hu cj cl c5 hw=>?_);refine Vs 1<|Nt<|Rt ?_;have c6:=AcH hw;obtain⟨F4,c7,cm,c8⟩:=c5.fr1 hw;obtain rfl:=Aa c4;exact Re [sL ht c1 hu] c7 ⟨ht,hu,rfl,c6,c8⟩
def E9(N:Nat)(G:Int):Option Bool:=
 some ((decide (48<=G))&&(decide (G<=57)))
theorem Hy(N:Nat)(w0:World)(F0:Mem)(hF:AcR w0 F0)(G:Int)(r:Bool)(h:E9 N G=some r):
  cA 204 [.int .u8 G] w0 F0 (.bool r):=by
 have J:=Acv hF;refine Go 9 Tryz.func204<|sR [0]<|Vs 1<|nR (rG 7)<|Acz (kP w0 F0 F0 [] [] [(2,(.bool ((decide (48<=G))&&(decide (G<=57)))))]) ?_ ?_
 ·refine Vs 3<|Acy (decide (48<=G)) (fun I=>?_) (fun I=>?_)
  ·refine Vgs I 2<|Pk1 I<|Vs 1 ?_;exact Aco ⟨rfl,F0,J,Acu _,fJ ⟨congrArg Value.bool (Cv I rfl),trivial⟩⟩
  ·refine Ss I 2<|Pk0 I<|Vs 1 ?_;exact Aco ⟨rfl,F0,J,Acu _,fJ ⟨congrArg Value.bool (FG I rfl),trivial⟩⟩
 ·rintro f h0 ⟨F1,O,h1,⟨_,rfl⟩⟩;refine Ab<|Rt ?_;obtain rfl:=Aa h;exact Re [.bool ((decide (48<=G))&&(decide (G<=57)))] O rfl
def Ew(N:Nat)(I:AcP):(Int×Int)->Option (A2 Int (Int×Int)):=fun G=>
 (bif(decide (G.2 < (I.length:Int)))then((IF I G.2).bind fun J=>((E9 N J).bind fun O=>bif(!O)then some (.ret (-1))else((IF I G.2).bind fun Y=>some (.next ((W64 ((W64 (10 * G.1)) + (W64 (IntKind.u8.wrap (Y - 48))))),(W64 (G.2 + 1)))))))else some (.done (G.1,G.2)))
def BD(N:Nat)(G:AcP):Option Int:=
 (bif((decide ((G.length:Int) < 1))||(decide ((G.length:Int) > 9)))then some (-1)else((AF (Ew N G) N (0,0)).bind fun o=>o.k (fun r=>some r) (fun I=>some I.1)))
theorem Fl(N:Nat)(w0:World)(F0:Mem)(hF:AcR w0 F0)(G:AcP)(r:Int)(h:BD N G=some r):
  cA 168 [sv G] w0 F0 (vi r):=by
 have h2:=Acv hF;refine Go 33 Tryz.func168<|sR [0]<|Vs 1<|Nss<|sR (rG 8)<|Acz (kP w0 F0 F0 [] [] [(0,(sv G)),(12,(.bool ((decide ((G.length:Int) < 1))||(decide ((G.length:Int) > 9)))))]) ?_ ?_
 ·refine Vs 4<|Acy (decide ((G.length:Int) < 1)) (fun J=>?_) (fun J=>?_)
  ·refine Ss J 3<|Pk1 J ?_;exact Aco ⟨rfl,F0,h2,Acu _,fJ ⟨rfl,congrArg Value.bool (Ej J rfl),trivial⟩⟩
  ·refine Vgs J 3<|Pk0 J ?_;exact Aco ⟨rfl,F0,h2,Acu _,fJ ⟨rfl,congrArg Value.bool (Ch J rfl),trivial⟩⟩
 ·rintro f b8 ⟨F1,h3,b9,⟨_,rfl⟩⟩;refine Ab<|Cd h (fun ha hb=>?_) (fun ha hc=>?_)
  ·refine sR [0]<|Vs 1<|Nt<|Rt<|Ad ?_;obtain rfl:=Aa hb;exact Re [vi (-1)] h3 rfl
  ·refine Sc<|Ab<|sR [0]<|Vs 1<|Nss<|sR [0]<|Vs 1<|Nt ?_;obtain⟨h4,hg,h5⟩:=bS hc;refine AcA (fun f w=>∃(Y:(Int×Int))(Z:_),h4=.done Y/\HS w0 F0 w Z []/\Acs F1 Z/\FI f [] [(3,(vi Y.1))]) ?_ ?_
   ·refine Bk<|Acr (by kernel_rfl) (fun m f w=>∃(I:(Int×Int))(O:Mem),AF (Ew N G) m I=some h4/\HS w0 F0 w O []/\Acs F1 O/\FI f [] [(0,(sv G)),(3,(vi I.1)),(4,(vi I.2))]) N ⟨(0,0),F1,hg,h3,Acu _,fI⟩ ?_;rintro ba f hh ⟨I,O,hm,h0,h6,⟨_,rfl⟩⟩;obtain⟨hn,bb,rfl,ho,h1⟩:=AB hm;refine Sq<|sR (rG 4)<|Vs 4<|Nt<|Cd ho (fun hp hq=>?_) (fun hp hr=>?_)
    ·refine Sc<|Ab<|Sq<|Bk<|Sq<|sR (rG 5)<|Vs 2 ?_;obtain⟨h7,ht,hu⟩:=bS hq;refine V 21 5 (CA (t:=9) (x:=.tmp 19) (y:=.tmp 20) (a:=G) (k:=.i64) (i:=I.2) (v:=h7) rfl rfl (by kernel_rfl) ht) ?_;obtain⟨bc,hw,hx⟩:=bS hu;refine Cl' (cO 204) h0 (Hy N hh O h0.pers h7 _ hw) ?_;rintro _ F4 bd h8 hy rfl;refine Vs 1<|Nt<|Cd hx (fun hz b0=>?_) (fun hz b1=>?_)
     ·refine sR [0]<|Vs 1<|Nt<|Rt<|Ad<|Ar<|Ad<|Ad<|Ar ?_;have hret:=Bf b0 h1;subst hret;refine .inr<|Ad ?_;obtain rfl:=Aa h5;exact Re [vi (-1)] h8 rfl
     ·refine Sc<|Ab<|Rg (rG 9)<|Vs 4 ?_;obtain⟨h9,b2,b3⟩:=bS b1;refine V 28 5 (CA (t:=9) (x:=.tmp 26) (y:=.tmp 27) (a:=G) (k:=.i64) (i:=I.2) (v:=h9) rfl rfl (by kernel_rfl) b2)<|Vs 4<|Aco<|Am<|Ab<|Rg [0,1,2]<|Vs 3<|Aco ?_;have b4:=Ay b3 h1;exact⟨hn,xF _,((W64 ((W64 (10 * I.1)) + (W64 (IntKind.u8.wrap (h9 - 48))))),(W64 (I.2 + 1))),F4,b4,h8,h6.t hy,fI⟩
    ·refine Ex<|Ak<|Ak<|Av rfl ?_;have b5:=AA hr h1;exact .inl ⟨rfl,(I.1,I.2),O,b5,h0,h6,fI⟩
   ·rintro f be ⟨Y,Z,rfl,b6,bf,⟨_,rfl⟩⟩;have b7:=AW h5;refine Ab<|sR [0,1]<|Vs 2<|Nt<|Rt ?_;obtain rfl:=Aa b7;exact Re [vi Y.1] b6 rfl
def Ga(N:Nat)(I:AcP):Option (Int×Int):=
 ((HG N I).bind fun J=>bif((decide ((I.length:Int) > 20))||((J.length:Int)!=2))then some (0,13)else((idx J 0).bind fun Z=>((BD N Z).bind fun O=>((idx J 1).bind fun h0=>((BD N h0).bind fun G=>bif((decide (O < 1))||(decide (G < 0)))then some (0,13)else((CS N (W64 ((W64 ((W64 ((W64 (O - 1)) * 1440)) + (W64 ((W64 (Int.tdiv G 100)) * 60)))) + (Int.tmod G 100)))).bind fun Y=>bif((Y.2 !=0)||(Y.1 !=I))then some (0,13)else some ((W64 ((W64 ((W64 ((W64 (O - 1)) * 1440)) + (W64 ((W64 (Int.tdiv G 100)) * 60)))) + (Int.tmod G 100))),0)))))))
theorem OE(N:Nat)(w0:World)(F0:Mem)(hF:AcR w0 F0)(G:AcP)(r:(Int×Int))(h:Ga N G=some r):
  cA 100 [sv G] w0 F0 (.tuple #[vi r.1,vi r.2]):=by
 have h4:=Acv hF;refine Go 57 Tryz.func100<|sR [0,1]<|Vs 2<|nR [0,1,2]<|Vs 1 ?_;obtain⟨h5,ha,hb⟩:=bS h;refine Cl' (cO 167) h4 (M8 N w0 F0 h4.pers G _ ha) ?_;rintro _ F1 bi h6 bj ⟨hc,hg,rfl,bk,hh⟩;refine Vs 1<|Nss<|sR (rG 8)<|Acz (kP w0 F0 F1 [] [] [(0,(sv G)),(4,(sL hc h5 hg)),(19,(.bool ((decide ((G.length:Int) > 20))||((h5.length:Int)!=2))))]) ?_ ?_
 ·refine Vs 4<|Acy (decide ((G.length:Int) > 20)) (fun J=>?_) (fun J=>?_)
  ·refine Ss J 3<|Pk1 J ?_;exact Aco ⟨rfl,F1,h6,Acu _,fJ ⟨rfl,rfl,congrArg Value.bool (Ej J rfl),trivial⟩⟩
  ·refine Vgs J 3<|Pk0 J ?_;exact Aco ⟨rfl,F1,h6,Acu _,fJ ⟨rfl,rfl,congrArg Value.bool (Ch J rfl),trivial⟩⟩
 ·rintro f hm ⟨F2,h0,hn,⟨_,rfl⟩⟩;refine Ab<|Cd hb (fun ho hp=>?_) (fun ho hq=>?_)
  ·refine sR [0,1]<|Vs 2<|Nt<|Rt<|Ad ?_;obtain rfl:=Aa hp;exact Re [vi 0,vi 13] h0 rfl
  ·refine Sc<|Ab<|sR (rG 5)<|Vs 1 ?_;obtain⟨hr,ht,hu⟩:=bS hq;obtain⟨hw,hx41'⟩:=Ag ht;obtain⟨bl,bm,bn,bo,bp,rfl,hF50,hE51⟩:=AcB (Acw hh hn) hx41';have hx:=hE51 _ _ hx41';refine Ix hw<|Lx 0 (h0.pers _ _ hF50) hx ?_;obtain⟨Z,hy,hz⟩:=bS hu;refine Cl' (cO 168) h0 (Fl N hm F2 h0.pers hr _ hy) ?_;rintro _ F3 b0 h1 b1 rfl;refine Vs 1<|nR (rG 5)<|Vs 1 ?_;obtain⟨b2,b3,b4⟩:=bS hz;obtain⟨b5,hx63'⟩:=Ag b3;have b6:=hE51 _ _ hx63';refine Ix b5<|Lx 0 (h1.pers _ _ (b1 _ _ hF50)) b6 ?_;obtain⟨I,b7,b8⟩:=bS b4;refine Cl' (cO 168) h1 (Fl N b0 F3 h1.pers b2 _ b7) ?_;rintro _ F4 bq h7 br rfl;refine Vs 1<|Nss<|sR (rG 6)<|Acz (kP w0 F0 F4 [] [] [(0,(sv G)),(5,(vi Z)),(6,(vi I)),(33,(.bool ((decide (Z < 1))||(decide (I < 0)))))]) ?_ ?_
   ·refine Vs 3<|Acy (decide (Z < 1)) (fun O=>?_) (fun O=>?_)
    ·refine Ss O 2<|Pk1 O ?_;exact Aco ⟨rfl,F4,h7,Acu _,fJ ⟨rfl,rfl,rfl,congrArg Value.bool (Ej O rfl),trivial⟩⟩
    ·refine Vgs O 2<|Pk0 O ?_;exact Aco ⟨rfl,F4,h7,Acu _,fJ ⟨rfl,rfl,rfl,congrArg Value.bool (Ch O rfl),trivial⟩⟩
   ·rintro f b9 ⟨F5,h2,bs,⟨_,rfl⟩⟩;refine Ab<|Cd b8 (fun ba bb=>?_) (fun ba bc=>?_)
    ·refine sR [0,1]<|Vs 2<|Nt<|Rt<|Ad ?_;obtain rfl:=Aa bb;exact Re [vi 0,vi 13] h2 rfl
    ·refine Sc<|Ab<|sR (rG 11)<|Vs 11<|nR (rG 7)<|Vs 1 ?_;obtain⟨h3,bd,be⟩:=bS bc;refine Cl' (cO 86) h2 (JF N b9 F5 h2.pers (W64 ((W64 ((W64 ((W64 (Z - 1)) * 1440)) + (W64 ((W64 (Int.tdiv I 100)) * 60)))) + (Int.tmod I 100))) _ bd) ?_;rintro _ F6 bt h8 bu rfl;refine Vs 5<|Nss<|sR (rG 7)<|Acz (kP w0 F0 F6 [] [] [(7,(vi (W64 ((W64 ((W64 ((W64 (Z - 1)) * 1440)) + (W64 ((W64 (Int.tdiv I 100)) * 60)))) + (Int.tmod I 100))))),(55,(.bool ((h3.2 !=0)||(h3.1 !=G))))]) ?_ ?_
     ·refine Vs 3<|Acy (h3.2 !=0) (fun Y=>?_) (fun Y=>?_)
      ·refine Ss Y 3<|Pk1 Y ?_;exact Aco ⟨rfl,F6,h8,Acu _,fJ ⟨rfl,congrArg Value.bool (Ej Y rfl),trivial⟩⟩
      ·refine Vgs Y 3<|Pk0 Y ?_;exact Aco ⟨rfl,F6,h8,Acu _,fJ ⟨rfl,congrArg Value.bool (Ch Y rfl),trivial⟩⟩
     ·rintro f bv ⟨F7,h9,bw,⟨_,rfl⟩⟩;refine Ab<|Cd be (fun bf bg=>?_) (fun bf bh=>?_)
      ·refine sR [0,1]<|Vs 2<|Nt<|Rt<|Ad ?_;obtain rfl:=Aa bg;exact Re [vi 0,vi 13] h9 rfl
      ·refine Sc<|Ab<|sR [0,1,2]<|Vs 3<|Nt<|Rt ?_;obtain rfl:=Aa bh;exact Re [vi (W64 ((W64 ((W64 ((W64 (Z - 1)) * 1440)) + (W64 ((W64 (Int.tdiv I 100)) * 60)))) + (Int.tmod I 100))),vi 0] h9 rfl
def CT(N:Nat)(G:Ac)(Y:AcP):Option (Af×Int):=
 (bif(decide ((Y.length:Int) > 100))then some (zE,1)else((HG N Y).bind fun I=>((bif(G.Report&&(decide (0 < (I.length:Int))))then((idx I 0).bind fun h1=>((BD N h1).bind fun h2=>some ((W64 (0 + 1)),h2)))else some (0,0)).bind fun J=>((bif(G.Serial&&(decide (J.1 < (I.length:Int))))then((idx I J.1).bind fun h3=>((BD N h3).bind fun h4=>some ((W64 (J.1 + 1)),h4)))else some (J.1,0)).bind fun O=>((bif(G.Zone&&(decide (O.1 < (I.length:Int))))then((idx I O.1).bind fun h5=>((BD N h5).bind fun h6=>some h6))else some 0).bind fun Z=>((Bg N (lY G) ({Report:=J.2,Serial:=O.2,Zone:=Z}:Af)).bind fun h0=>bif((h0.2 !=0)||(h0.1 !=Y))then some (zE,1)else some (({Report:=J.2,Serial:=O.2,Zone:=Z}:Af),0)))))))
theorem B1(N:Nat)(w0:World)(F0:Mem)(hF:AcR w0 F0)(G:Ac)(x1:AcP)(r:(Af×Int))(h:CT N G x1=some r):
  cA 101 [.agg (Ah G),sv x1] w0 F0 (.tuple #[.agg (Bc r.1),vi r.2]):=by
 have b1:=Acv hF;refine Go 81 Tryz.func101<|sR [0,1,2]<|Bx' 23 (Ah G) b1 (fun Z d3 b2=>?_);refine Al' 32 #[vi 0,vi 0,vi 0] b2 (fun I b3 hg=>?_);refine Vs 1<|Nss<|sR [0,1,2]<|Vs 3<|Nt<|Cd h (fun b4 b5=>?_) (fun b4 b6=>?_)
 ·refine sR [0,1,2]<|Vs 1<|St0 #[vi 0,vi 0,vi 0] hg (fun d4 hu=>?_);refine Vs 1<|Nt<|Rt<|Ad ?_;obtain rfl:=Aa b5;exact⟨rfl,.tuple #[.agg #[vi 0,vi 0,vi 0],vi 1],aK [.cell 4 32,.tmp 5] [.agg #[vi 0,vi 0,vi 0],vi 1] ⟨I,0,rfl,aL 32 3 hu.at0,⟨rfl,trivial⟩⟩,.tuple #[.agg #[vi 0,vi 0,vi 0],vi 1],F0,rfl,hu.clear,rfl⟩
 ·refine Sc<|Ab<|sR [0,1,2]<|Vs 1 ?_;obtain⟨h0,b7,b8⟩:=bS b6;refine Cl' (cO 167) hg (M8 N b3 F0 hg.pers x1 _ b7) ?_;rintro _ F1 d6 b9 d7 ⟨h6,h7,rfl,d8,hh⟩;refine Vs 1<|nR [0,1,2]<|Vs 1<|Al' 32 #[vi 0,vi 0,vi 0] b9 (fun O d9 ba=>?_);refine St0 #[vi 0,vi 0,vi 0] ba (fun da hm=>?_);refine nR [0]<|Vs 1<|Nss<|sR (rG 8)<|Acz (kP w0 F0 F1 [sb O #[vi 0,vi 0,vi 0] 32,sb I #[vi 0,vi 0,vi 0] 32,sb Z (Ah G) 23] [] [(1,(sv x1)),(2,(pt Z 0)),(4,(pt I 0)),(6,(sL h6 h0 h7)),(7,(pt O 0)),(8,(vi 0)),(25,(.bool (G.Report&&(decide (0 < (h0.length:Int))))))]) ?_ ?_
  ·refine Vs 1<|Ld hm.at2<|Vs 1<|Acy G.Report (fun h1=>?_) (fun h1=>?_)
   ·refine Vgs h1 4<|Pk1 h1 ?_;exact Aco ⟨rfl,F1,hm,Acu _,fJ ⟨rfl,rfl,rfl,rfl,rfl,rfl,congrArg Value.bool (Cv h1 rfl),trivial⟩⟩
   ·refine Ss h1 4<|Pk0 h1 ?_;exact Aco ⟨rfl,F1,hm,Acu _,fJ ⟨rfl,rfl,rfl,rfl,rfl,rfl,congrArg Value.bool (FG h1 rfl),trivial⟩⟩
  ·rintro f bb ⟨F2,h9,hn,⟨_,rfl⟩⟩;refine Ab ?_;obtain⟨J,bc,bd⟩:=bS b8;refine AcA (kP w0 F0 F2 [sb O #[vi J.2,vi 0,vi 0] 32,sb I #[vi 0,vi 0,vi 0] 32,sb Z (Ah G) 23] [] [(1,(sv x1)),(2,(pt Z 0)),(4,(pt I 0)),(6,(sL h6 h0 h7)),(7,(pt O 0)),(8,(vi J.1))]) ?_ ?_
   ·refine Cd bc (fun be bf=>?_) (fun be bg=>?_)
    ·refine sR (rG 7)<|Vs 2 ?_;obtain⟨bh,bi,bj⟩:=bS bf;obtain⟨bk,hx74'⟩:=Ag bi;obtain⟨db,dc,dd,de,df,rfl,hF83,hE84⟩:=AcB (Acw hh hn) hx74';have bl:=hE84 _ _ hx74';refine Ix bk<|Lx 0 (h9.pers _ _ hF83) bl ?_;obtain⟨bm,bn,bo⟩:=bS bj;refine Cl' (cO 168) h9 (Fl N bb F2 h9.pers bh _ bn) ?_;rintro _ F4 dg bp bq rfl;refine Vs 1<|St0 #[vi bm,vi 0,vi 0] bp (fun dh br=>?_);refine Nt<|Rg [0,1,2]<|Vs 3<|Aco ?_;obtain rfl:=Aa bo;exact .inl ⟨rfl,F4,br,bq,fI⟩
    ·refine Sc ?_;obtain rfl:=Aa bg;exact .inl ⟨rfl,F2,h9,Acu _,fI⟩
   ·rintro f di ⟨F3,ho,hw,⟨_,rfl⟩⟩;refine Ab<|Sq<|sR (rG 8)<|Acz (kP w0 F0 F3 [sb O #[vi J.2,vi 0,vi 0] 32,sb I #[vi 0,vi 0,vi 0] 32,sb Z (Ah G) 23] [] [(1,(sv x1)),(2,(pt Z 0)),(4,(pt I 0)),(6,(sL h6 h0 h7)),(7,(pt O 0)),(8,(vi J.1)),(41,(.bool (G.Serial&&(decide (J.1 < (h0.length:Int))))))]) ?_ ?_
    ·refine Vs 1<|Ld ho.at2<|Vs 1<|Acy G.Serial (fun h2=>?_) (fun h2=>?_)
     ·refine Vgs h2 4<|Pk1 h2 ?_;exact Aco ⟨rfl,F3,ho,Acu _,fJ ⟨rfl,rfl,rfl,rfl,rfl,rfl,congrArg Value.bool (Cv h2 rfl),trivial⟩⟩
     ·refine Ss h2 4<|Pk0 h2 ?_;exact Aco ⟨rfl,F3,ho,Acu _,fJ ⟨rfl,rfl,rfl,rfl,rfl,rfl,congrArg Value.bool (FG h2 rfl),trivial⟩⟩
    ·rintro f bs ⟨F5,ha,hx,⟨_,rfl⟩⟩;refine Ab ?_;obtain⟨Y,bt,bu⟩:=bS bd;refine AcA (kP w0 F0 F5 [sb O #[vi J.2,vi Y.2,vi 0] 32,sb I #[vi 0,vi 0,vi 0] 32,sb Z (Ah G) 23] [] [(1,(sv x1)),(2,(pt Z 0)),(4,(pt I 0)),(6,(sL h6 h0 h7)),(7,(pt O 0)),(8,(vi Y.1))]) ?_ ?_
     ·refine Cd bt (fun bv bw=>?_) (fun bv bx=>?_)
      ·refine sR (rG 7)<|Vs 2 ?_;obtain⟨bz,c0,c1⟩:=bS bw;obtain⟨c3,hx126'⟩:=Ag c0;obtain⟨dj,dk,dl,dm,dn,rfl,hF135,hE136⟩:=AcB (Acw hh ((hn.t hw).trans hx)) hx126';have c4:=hE136 _ _ hx126';refine Ix c3<|Lx 0 (ha.pers _ _ hF135) c4 ?_;obtain⟨c5,c6,c7⟩:=bS c1;refine Cl' (cO 168) ha (Fl N bs F5 ha.pers bz _ c6) ?_;rintro _ F7 dp c8 c9 rfl;refine Vs 1<|St0 #[vi J.2,vi c5,vi 0] c8 (fun dq ca=>?_);refine Nt<|Rg [0,1,2]<|Vs 3<|Aco ?_;obtain rfl:=Aa c7;exact .inl ⟨rfl,F7,ca,c9,fI⟩
      ·refine Sc ?_;obtain rfl:=Aa bx;exact .inl ⟨rfl,F5,ha,Acu _,fI⟩
     ·rintro f dr ⟨F6,hp,cb,⟨_,rfl⟩⟩;refine Ab<|Sq<|sR (rG 8)<|Acz (kP w0 F0 F6 [sb O #[vi J.2,vi Y.2,vi 0] 32,sb I #[vi 0,vi 0,vi 0] 32,sb Z (Ah G) 23] [] [(1,(sv x1)),(2,(pt Z 0)),(4,(pt I 0)),(6,(sL h6 h0 h7)),(7,(pt O 0)),(8,(vi Y.1)),(57,(.bool (G.Zone&&(decide (Y.1 < (h0.length:Int))))))]) ?_ ?_
      ·refine Vs 1<|Ld hp.at2<|Vs 1<|Acy G.Zone (fun h3=>?_) (fun h3=>?_)
       ·refine Vgs h3 4<|Pk1 h3 ?_;exact Aco ⟨rfl,F6,hp,Acu _,fJ ⟨rfl,rfl,rfl,rfl,rfl,rfl,congrArg Value.bool (Cv h3 rfl),trivial⟩⟩
       ·refine Ss h3 4<|Pk0 h3 ?_;exact Aco ⟨rfl,F6,hp,Acu _,fJ ⟨rfl,rfl,rfl,rfl,rfl,rfl,congrArg Value.bool (FG h3 rfl),trivial⟩⟩
      ·rintro f cc ⟨F8,hb,cd,⟨_,rfl⟩⟩;refine Ab ?_;obtain⟨h4,ce,cf⟩:=bS bu;refine AcA (kP w0 F0 F8 [sb O #[vi J.2,vi Y.2,vi h4] 32,sb I #[vi 0,vi 0,vi 0] 32,sb Z (Ah G) 23] [] [(1,(sv x1)),(2,(pt Z 0)),(4,(pt I 0)),(7,(pt O 0))]) ?_ ?_
       ·refine Cd ce (fun cg ch=>?_) (fun cg ci=>?_)
        ·refine sR (rG 7)<|Vs 2 ?_;obtain⟨cj,cl,cm⟩:=bS ch;obtain⟨cn,hx176'⟩:=Ag cl;obtain⟨ds,dt,du,dv,dw,rfl,hF185,hE186⟩:=AcB (Acw hh ((((hn.t hw).trans hx).trans cb).trans cd)) hx176';have co:=hE186 _ _ hx176';refine Ix cn<|Lx 0 (hb.pers _ _ hF185) co ?_;obtain⟨cp,cq,cr⟩:=bS cm;refine Cl' (cO 168) hb (Fl N cc F8 hb.pers cj _ cq) ?_;rintro _ ct dx cu cv rfl;refine Vs 1<|St0 #[vi J.2,vi Y.2,vi cp] cu (fun dy cw=>?_);refine Nt<|Rg [0,1,2]<|Vs 3<|Aco ?_;obtain rfl:=Aa cr;exact .inl ⟨rfl,ct,cw,cv,fI⟩
        ·refine Sc ?_;obtain rfl:=Aa ci;exact .inl ⟨rfl,F8,hb,Acu _,fI⟩
       ·rintro f cx ⟨F9,hc,dz,⟨_,rfl⟩⟩;refine Ab<|sR (rG 8)<|Ld hc.at2<|Ld hc.at0 ?_;obtain⟨hq,cy,cz⟩:=bS cf;refine Cl' (cO 87) hc (EN N cx F9 hc.pers (lY G) ({Report:=J.2,Serial:=Y.2,Zone:=h4}:Af) _ cy) ?_;rintro _ hr e0 hy e1 rfl;refine Vs 5<|Nss<|sR (rG 7)<|Acz (kP w0 F0 hr [sb O #[vi J.2,vi Y.2,vi h4] 32,sb I #[vi 0,vi 0,vi 0] 32] [] [(4,(pt I 0)),(7,(pt O 0)),(78,(.bool ((hq.2 !=0)||(hq.1 !=x1))))]) ?_ ?_
        ·refine Vs 3<|Acy (hq.2 !=0) (fun h5=>?_) (fun h5=>?_)
         ·refine Ss h5 3<|Pk1 h5 ?_;exact Aco ⟨rfl,hr,hy.dr2,Acu _,fJ ⟨rfl,rfl,congrArg Value.bool (Ej h5 rfl),trivial⟩⟩
         ·refine Vgs h5 3<|Pk0 h5 ?_;exact Aco ⟨rfl,hr,hy.dr2,Acu _,fJ ⟨rfl,rfl,congrArg Value.bool (Ch h5 rfl),trivial⟩⟩
        ·rintro f e2 ⟨h8,ht,e3,⟨_,rfl⟩⟩;refine Ab<|Cd cz (fun d0 d1=>?_) (fun d0 d2=>?_)
         ·refine sR [0,1,2]<|Vs 1<|St1 #[vi 0,vi 0,vi 0] ht (fun e4 hz=>?_);refine Vs 1<|Nt<|Rt<|Ad ?_;obtain rfl:=Aa d1;exact⟨rfl,.tuple #[.agg #[vi 0,vi 0,vi 0],vi 1],aK [.cell 4 32,.tmp 5] [.agg #[vi 0,vi 0,vi 0],vi 1] ⟨I,0,rfl,aL 32 3 hz.at1,⟨rfl,trivial⟩⟩,.tuple #[.agg #[vi 0,vi 0,vi 0],vi 1],h8,rfl,hz.clear,rfl⟩
         ·refine Sc<|Ab<|sR [0,1,2]<|Ld ht.at0<|St1 #[vi J.2,vi Y.2,vi h4] ht (fun e6 b0=>?_);refine Vs 1<|Nt<|Rt ?_;obtain rfl:=Aa d2;exact⟨rfl,.tuple #[.agg #[vi J.2,vi Y.2,vi h4],vi 0],aK [.cell 4 32,.tmp 5] [.agg #[vi J.2,vi Y.2,vi h4],vi 0] ⟨I,0,rfl,aL 32 3 b0.at1,⟨rfl,trivial⟩⟩,.tuple #[.agg #[vi J.2,vi Y.2,vi h4],vi 0],h8,rfl,b0.clear,rfl⟩

def Bl(N:Nat)(G:(List AcP))(I:AcP):Option Bool:=
 ((A8 N G I).bind fun J=>some (decide (J>=0)))
theorem Ha(N:Nat)(w0:World)(F0:Mem)(hF:AcR w0 F0)(G:(List AcP))(I:AcQ)(J:Nat)(Z:LC G.length J)(h0:SlA AJ F0 I G)(O:AcP)(r:Bool)(h:Bl N G O=some r):
  cA 122 [sL I G J,sv O] w0 F0 (.bool r):=by
 have Y:=Acv hF;refine Go 9 Tryz.func122<|sR [0]<|Vs 1<|nR (rG 5)<|Vs 2 ?_;obtain⟨h1,h2,h3⟩:=bS h;refine Cl' (cO 94) Y (EC N w0 F0 Y.pers G I J Z h0 O _ h2) ?_;rintro _ F1 h5 h4 h6 rfl;refine Vs 2<|Nt<|Rt ?_;obtain rfl:=Aa h3;exact Re [.bool (decide (h1>=0))] h4 rfl
def Bv(N:Nat)(x0:List Fix):(Int×Int×List Fix)->Option (A2 (List Fix) (Int×Int×List Fix)):=fun G=>
 (bif(decide (G.1 < G.2.1))then none else some (.done (G.1,G.2.1,G.2.2)))
def BS(N:Nat)(G:List Fix):Option (List Fix):=
 ((AF (Bv N G) N (0,(W64 ((G.length:Int) - 1)),G)).bind fun o=>o.k (fun r=>some r) (fun I=>some I.2.2))
theorem G3(N:Nat){wb w0:World}{Fb F0:Mem}{Lf:Own}(I:List Fix)(J:AcQ)(O:Nat)(e0:oO)(h2:Aq NP 64 F0 J O I e0)(h4:HS wb Fb w0 F0 (e0::Lf))(r:List Fix)(h:BS N I=some r):
  cP 126 (lA [.slice J I.length O]) w0 (fun e w'=>∃ F' e',e=.returned (.tuple #[])/\HS wb Fb w' F' (e'::Lf)/\Acs F0 F'/\Aq NP 64 F' J O r e'):=by
 refine R9 (n:=28) (c:=Sj Tryz.f126) Tryz.func126 (by kernel_rfl) (by kernel_rfl) (by kernel_rfl)<|sR (rG 5)<|Vs 1<|Vs 1<|Vs 1<|Vs 1<|Vs 1<|Nt ?_;obtain⟨o1,h5,h3⟩:=bS h;refine AcA (fun f w=>∃(h0:(Int×Int×List Fix))(Y:_)(h1:_),o1=.done h0/\HS wb Fb w Y (h1::Lf)/\Acs F0 Y/\FI f [] []/\Aq NP 64 Y J O h0.2.2 h1) ?_ ?_
 ·refine Bk<|Acr (by kernel_rfl) (fun m f w=>∃(G:(Int×Int×List Fix))(F1:Mem)(Z:oO),AF (Bv N I) m G=some o1/\HS wb Fb w F1 (Z::Lf)/\Acs F0 F1/\FI f [] [(0,(sL J G.2.2 O)),(2,(vi G.1)),(3,(vi G.2.1))]/\Aq NP 64 F1 J O G.2.2 Z) N ⟨(0,(W64 ((I.length:Int) - 1)),I),F0,e0,h5,h4,Acu _,fI,h2⟩ ?_;rintro hr f w5 ⟨G,F1,Z,h6,h7,h8,⟨_,rfl⟩,h9⟩;obtain⟨ht,hu,rfl,ha,hb⟩:=AB h6;refine Sq<|sR [0,1,2]<|Vs 1<|Vs 1<|Vs 1<|Nt<|Cd ha (fun hc hg=>?_) (fun hc hh=>?_)
  ·cases hg
  ·refine Ex<|Ak<|Ak<|Av rfl ?_;have hm:=AA hh hb;exact .inl ⟨rfl,(G.1,G.2.1,G.2.2),F1,Z,hm,h7,h8,fI,h9⟩
 ·rintro f hw ⟨h0,Y,h1,rfl,hn,ho,⟨_,rfl⟩,hp⟩;have hq:=AW h3;have hfin:=Aa hq;subst hfin;exact⟨rfl,.tuple #[],aK [] [] trivial,Y,_,rfl,hn,ho,hp⟩

def FZ(N:Nat)(I:AcP):(List AcP×Int×Int)->Option (A2 (List AcP) (List AcP×Int×Int)):=fun G=>
 (bif(decide (G.2.2 < (I.length:Int)))then((IF I G.2.2).bind fun O=>((bif(O==47)then((IE I G.2.1 G.2.2).bind fun Y=>((CD G.1 [Y]).bind fun Z=>some (Z,(W64 (G.2.2 + 1)))))else some (G.1,G.2.1)).bind fun J=>some (.next (J.1,J.2,(W64 (G.2.2 + 1))))))else some (.done (G.1,G.2.1,G.2.2)))
def Ik(N:Nat)(G:AcP):Option (List AcP):=
 ((AF (FZ N G) N (([]:List AcP),0,0)).bind fun o=>o.k (fun r=>some r) (fun I=>((IE G I.2.1 (G.length:Int)).bind fun J=>((CD I.1 [J]).bind fun O=>some O))))
theorem Sb(N:Nat)(w0:World)(F0:Mem)(hF:AcR w0 F0)(I:AcP)(r:(List AcP))(h:Ik N I=some r):
  cP 229 (lA [sv I]) w0 (AD w0 F0 fun F' v=>∃(hc:AcQ)(hg:Nat),v=(sL hc r hg)/\LC r.length hg/\SlA AJ F' hc r):=by
 have hx:=Acv hF;refine Go 31 Tryz.func229<|sR [0]<|Vs 1<|nR [0]<|Vs 1<|nR [0]<|Vs 1<|Nss<|sR [0]<|Vs 1<|Nt ?_;have hy:=hx.dummy (oc #[] 0);obtain⟨hh,hz,b0⟩:=bS h;refine AcA (fun f w=>∃(J:(List AcP×Int×Int))(O:_)(h7:AcQ)(h8:_)(h9:_),hh=.done J/\HS w0 F0 w O [h9]/\Acs F0 O/\FI f [] [(0,(sv I)),(3,(sL h7 J.1 h8)),(4,(vi J.2.1))]/\Aq AJ 9 O h7 h8 J.1 h9) ?_ ?_
 ·refine Bk<|Acr (by kernel_rfl) (fun m f w=>∃(G:(List AcP×Int×Int))(F1:Mem)(Y:AcQ)(Z:Nat)(h0:oO),AF (FZ N I) m G=some hh/\HS w0 F0 w F1 [h0]/\Acs F0 F1/\FI f [] [(0,(sv I)),(3,(sL Y G.1 Z)),(4,(vi G.2.1)),(5,(vi G.2.2))]/\Aq AJ 9 F1 Y Z G.1 h0) N ⟨(([]:List AcP),0,0),F0,none,0,(none,.cells #[] 0 (0,0)),hz,hy,Acu _,fI,AcI AJ 9 F0 _⟩ ?_;rintro c9 f ca ⟨G,F1,Y,Z,h0,b1,ha,hm,⟨_,rfl⟩,hb⟩;obtain⟨b2,cb,rfl,b3,hn⟩:=AB b1;refine Sq<|sR (rG 4)<|Vs 4<|Nt<|Cd b3 (fun b4 b5=>?_) (fun b4 b6=>?_)
  ·refine Sc<|Ab<|Sq<|Bk<|sR (rG 4)<|Vs 2 ?_;obtain⟨b7,b8,b9⟩:=bS b5;refine V 14 5 (CA (t:=9) (x:=.tmp 12) (y:=.tmp 13) (a:=I) (k:=.i64) (i:=G.2.2) (v:=b7) rfl rfl (by kernel_rfl) b8)<|Vs 1<|Nt ?_;obtain⟨h1,ba,bb⟩:=bS b9;refine AcA (fun f w=>∃(F3:_)(h2:AcQ)(h3:_)(h4:_),HS w0 F0 w F3 [h4]/\Acs F1 F3/\FI f [] [(0,(sv I)),(3,(sL h2 h1.1 h3)),(4,(vi h1.2)),(5,(vi G.2.2))]/\Aq AJ 9 F3 h2 h3 h1.1 h4) ?_ ?_
   ·refine Cd ba (fun bc bd=>?_) (fun bc be=>?_)
    ·refine sR (rG 8)<|Vs 4 ?_;obtain⟨h5,bf,bg⟩:=bS bd;refine V 20 9 (DB (t:=9) (x:=.tmp 17) (lo:=some (.tmp 18)) (hi:=some (.tmp 19)) (a:=I) (il:=G.2.1) (ih:=G.2.2) (v:=h5) rfl (by kernel_rfl) rfl rfl bf)<|Bs 9 [sv h5] ha (fun ho cc hp=>?_);have bh:Aq AJ 9 F1 (sA ho) 1 [h5] (some ho,.cells (lA [sv h5]) 9 (0,0)):=AcJ ⟨rfl,rfl⟩ (by simp);obtain⟨cd,bi,bj⟩:=bS bg;refine Ap1 PR hp hb (hp.rd0 bh) bi (fun bk bl bm ce bn bo=>?_);refine Vs 1<|Nt<|Rg [0,1,2]<|Vs 3<|Aco ?_;obtain rfl:=Aa bj;exact .inl ⟨rfl,F1,bk,bl,bm,bn.dr0,Acu _,fI,bo⟩
    ·refine Sc ?_;obtain rfl:=Aa be;exact .inl ⟨rfl,F1,Y,Z,h0,ha,Acu _,fI,hb⟩
   ·rintro f cf ⟨F3,h2,h3,h4,bp,bq,⟨_,rfl⟩,br⟩;refine Am<|Ab<|Rg [0,1,2]<|Vs 3<|Aco ?_;have bs:=Ay bb hn;exact⟨b2,xF _,(h1.1,h1.2,(W64 (G.2.2 + 1))),F3,h2,h3,h4,bs,bp,hm.t bq,fI,br⟩
  ·refine Ex<|Ak<|Ak<|Av rfl ?_;have bt:=AA b6 hn;exact .inl ⟨rfl,(G.1,G.2.1,G.2.2),F1,Y,Z,h0,bt,ha,hm,fI,hb⟩
 ·rintro f cg ⟨J,O,h7,h8,h9,rfl,bu,ch,⟨_,rfl⟩,bv⟩;have bw:=AW b0;refine Ab<|sR (rG 7)<|Vs 3 ?_;obtain⟨h6,bx,bz⟩:=bS bw;refine V 28 9 (DB (t:=9) (x:=.tmp 26) (lo:=some (.tmp 27)) (hi:=none) (a:=I) (il:=J.2.1) (ih:=(I.length:Int)) (v:=h6) rfl (by kernel_rfl) rfl rfl bx)<|Bs 9 [sv h6] bu (fun hq ci hr=>?_);have c0:Aq AJ 9 O (sA hq) 1 [h6] (some hq,.cells (lA [sv h6]) 9 (0,0)):=AcJ ⟨rfl,rfl⟩ (by simp);obtain⟨c1,c3,c4⟩:=bS bz;refine Ap1 PR hr bv (hr.rd0 c0) c3 (fun ht hu cj cl c5 hw=>?_);refine Vs 1<|Nt<|Rt ?_;have c6:=AcH hw;obtain⟨F4,c7,cm,c8⟩:=c5.fr1 hw;obtain rfl:=Aa c4;exact Re [sL ht c1 hu] c7 ⟨ht,hu,rfl,c6,c8⟩
def Il(N:Nat)(I:AcP):(Int×Int)->Option (A2 Int (Int×Int)):=fun G=>
 (bif(decide (G.2 < (I.length:Int)))then((IF I G.2).bind fun J=>((E9 N J).bind fun O=>some (.next ((bif O then(W64 (G.2 + 1))else G.1),(W64 (G.2 + 1))))))else some (.done (G.1,G.2)))
def J8(N:Nat)(G:AcP):Option Int:=
 ((AF (Il N G) N (0,0)).bind fun o=>o.k (fun r=>some r) (fun I=>some I.1))
theorem PJ(N:Nat)(w0:World)(F0:Mem)(hF:AcR w0 F0)(I:AcP)(r:Int)(h:J8 N I=some r):
  cA 267 [sv I] w0 F0 (vi r):=by
 have h7:=Acv hF;refine Go 18 Tryz.func267<|sR [0]<|Vs 1<|nR [0]<|Vs 1<|Nss<|sR [0]<|Vs 1<|Nt ?_;obtain⟨h2,h8,h9⟩:=bS h;refine AcA (fun f w=>∃(J:(Int×Int))(Y:_),h2=.done J/\HS w0 F0 w Y []/\Acs F0 Y/\FI f [] [(3,(vi J.1))]) ?_ ?_
 ·refine Bk<|Acr (by kernel_rfl) (fun m f w=>∃(G:(Int×Int))(F1:Mem),AF (Il N I) m G=some h2/\HS w0 F0 w F1 []/\Acs F0 F1/\FI f [] [(0,(sv I)),(3,(vi G.1)),(4,(vi G.2))]) N ⟨(0,0),F0,h8,h7,Acu _,fI⟩ ?_;rintro b1 f ha ⟨G,F1,hb,Z,h3,⟨_,rfl⟩⟩;obtain⟨hc,b2,rfl,hg,h4⟩:=AB hb;refine Sq<|sR (rG 4)<|Vs 4<|Nt<|Cd hg (fun hh hm=>?_) (fun hh hn=>?_)
  ·refine Sc<|Ab<|Sq<|Bk<|sR (rG 4)<|Vs 2 ?_;obtain⟨h5,ho,hp⟩:=bS hm;refine V 13 5 (CA (t:=9) (x:=.tmp 11) (y:=.tmp 12) (a:=I) (k:=.i64) (i:=G.2) (v:=h5) rfl rfl (by kernel_rfl) ho) ?_;obtain⟨h0,hq,hr⟩:=bS hp;refine Cl' (cO 204) Z (Hy N ha F1 Z.pers h5 _ hq) ?_;rintro _ F3 b3 h6 ht rfl;refine Nt<|AcA (kP w0 F0 F3 [] [] [(0,(sv I)),(3,(vi (bif h0 then(W64 (G.2 + 1))else G.1))),(4,(vi G.2))]) ?_ ?_
   ·refine Cp h0 (fun h1=>?_) (fun h1=>?_)
    ·refine Rg [0,1,2]<|Vs 3<|Aco ?_;exact .inl ⟨rfl,F3,h6,Acu _,fJ ⟨rfl,congrArg (Value.int .i64) (Ii h1 rfl),rfl,trivial⟩⟩
    ·refine Sc ?_;exact .inl ⟨rfl,F3,h6,Acu _,fJ ⟨rfl,congrArg (Value.int .i64) (Ku h1 rfl),rfl,trivial⟩⟩
   ·rintro f b4 ⟨O,hu,hw,⟨_,rfl⟩⟩;refine Am<|Ab<|Rg [0,1,2]<|Vs 3<|Aco ?_;have hx:=Ay hr h4;exact⟨hc,xF _,((bif h0 then(W64 (G.2 + 1))else G.1),(W64 (G.2 + 1))),O,hx,hu,(h3.t ht).trans hw,fI⟩
  ·refine Ex<|Ak<|Ak<|Av rfl ?_;have hy:=AA hn h4;exact .inl ⟨rfl,(G.1,G.2),F1,hy,Z,h3,fI⟩
 ·rintro f b5 ⟨J,Y,rfl,hz,b6,⟨_,rfl⟩⟩;have b0:=AW h9;refine Ab<|sR [0,1]<|Vs 2<|Nt<|Rt ?_;obtain rfl:=Aa b0;exact Re [vi J.1] hz rfl
def GR(N:Nat)(G:Int):Option Bool:=
 some ((decide (65<=G))&&(decide (G<=90)))
theorem L9(N:Nat)(w0:World)(F0:Mem)(hF:AcR w0 F0)(G:Int)(r:Bool)(h:GR N G=some r):
  cA 286 [.int .u8 G] w0 F0 (.bool r):=by
 have J:=Acv hF;refine Go 9 Tryz.func286<|sR [0]<|Vs 1<|nR (rG 7)<|Acz (kP w0 F0 F0 [] [] [(2,(.bool ((decide (65<=G))&&(decide (G<=90)))))]) ?_ ?_
 ·refine Vs 3<|Acy (decide (65<=G)) (fun I=>?_) (fun I=>?_)
  ·refine Vgs I 2<|Pk1 I<|Vs 1 ?_;exact Aco ⟨rfl,F0,J,Acu _,fJ ⟨congrArg Value.bool (Cv I rfl),trivial⟩⟩
  ·refine Ss I 2<|Pk0 I<|Vs 1 ?_;exact Aco ⟨rfl,F0,J,Acu _,fJ ⟨congrArg Value.bool (FG I rfl),trivial⟩⟩
 ·rintro f h0 ⟨F1,O,h1,⟨_,rfl⟩⟩;refine Ab<|Rt ?_;obtain rfl:=Aa h;exact Re [.bool ((decide (65<=G))&&(decide (G<=90)))] O rfl
def DW(N:Nat)(I:AcP):Int->Option (A2 Bool Int):=fun G=>
 (bif(decide (G < (I.length:Int)))then(((IF I G).bind fun J=>((GR N J).bind fun O=>bif(!O)then((IF I G).bind fun Y=>((E9 N Y).bind fun Z=>some (!Z)))else some false)).bind fun h0=>(bif h0 then some (.ret false)else some (.next (W64 (G + 1)))))else some (.done G))
def Gz(N:Nat)(G:AcP):Option Bool:=
 ((AF (DW N G) N 0).bind fun o=>o.k (fun r=>some r) (fun h0=>some true))
theorem JZ(N:Nat)(w0:World)(F0:Mem)(hF:AcR w0 F0)(J:AcP)(r:Bool)(h:Gz N J=some r):
  cA 268 [sv J] w0 F0 (.bool r):=by
 have ha:=Acv hF;refine Go 22 Tryz.func268<|sR [0]<|Vs 1<|Nss<|sR [0]<|Vs 1<|Nt ?_;obtain⟨h2,hb,h3⟩:=bS h;refine AcA (fun f w=>∃(h4:Int)(Y:_),h2=.done h4/\HS w0 F0 w Y []/\Acs F0 Y/\FI f [] []) ?_ ?_
 ·refine Bk<|Acr (by kernel_rfl) (fun m f w=>∃(G:Int)(F1:Mem),AF (DW N J) m G=some h2/\HS w0 F0 w F1 []/\Acs F0 F1/\FI f [] [(0,(sv J)),(3,(vi G))]) N ⟨0,F0,hb,ha,Acu _,fI⟩ ?_;rintro bg f hc ⟨G,F1,hg,Z,h5,⟨_,rfl⟩⟩;obtain⟨hh,bh,rfl,hm,h0⟩:=AB hg;refine Sq<|sR (rG 4)<|Vs 4<|Nt<|Cd hm (fun hn ho=>?_) (fun hn hp=>?_)
  ·refine Sc<|Ab<|Sq<|Bk<|sR (rG 12) ?_;obtain⟨hq,hr,ht⟩:=bS ho;refine Acz (kP w0 F0 F1 [] [] [(0,(sv J)),(3,(vi G)),(21,(.bool hq))]) ?_ ?_
   ·refine Vs 2 ?_;obtain⟨h6,hu,hw⟩:=bS hr;refine V 12 5 (CA (t:=9) (x:=.tmp 10) (y:=.tmp 11) (a:=J) (k:=.i64) (i:=G) (v:=h6) rfl rfl (by kernel_rfl) hu) ?_;obtain⟨bi,hx,hy⟩:=bS hw;refine Cl' (cO 286) Z (L9 N hc F1 Z.pers h6 _ hx) ?_;rintro _ F4 hz h1 h7 rfl;refine Vs 2<|Sp hy (fun I b0=>?_) (fun I b1=>?_)
    ·refine Vgs I 2 ?_;obtain⟨h8,b2,b3⟩:=bS b0;refine Vg 18 5 5 true 15 I (CA (t:=9) (x:=.tmp 16) (y:=.tmp 17) (a:=J) (k:=.i64) (i:=G) (v:=h8) rfl rfl (by kernel_rfl) b2) ?_;obtain⟨bj,b4,b5⟩:=bS b3;refine Cg I (cO 204) h1 (Hy N hz F4 h1.pers h8 _ b4) ?_;rintro _ F5 bk b6 b7 rfl;refine Vgs I 1<|Pk1 I ?_;obtain rfl:=Aa b5;exact Aco ⟨rfl,F5,b6,h7.t b7,fI⟩
    ·refine Ss I 5<|Pk0 I ?_;obtain rfl:=Aa b1;exact Aco ⟨rfl,F4,h1,h7,fI⟩
   ·rintro f bl ⟨O,h9,b8,⟨_,rfl⟩⟩;refine Ab<|Cd ht (fun b9 ba=>?_) (fun b9 bb=>?_)
    ·refine sR [0]<|Vs 1<|Nt<|Rt<|Ar<|Ad<|Ad<|Ar ?_;have hret:=Bf ba h0;subst hret;refine .inr<|Ad ?_;obtain rfl:=Aa h3;exact Re [bF] h9 rfl
    ·refine Sc<|Am<|Ab<|Rg [0,1,2]<|Vs 3<|Aco ?_;have bc:=Ay bb h0;exact⟨hh,xF _,W64 (G + 1),O,bc,h9,h5.t b8,fI⟩
  ·refine Ex<|Ak<|Ak<|Av rfl ?_;have bd:=AA hp h0;exact .inl ⟨rfl,G,F1,bd,Z,h5,fI⟩
 ·rintro f bm ⟨h4,Y,rfl,be,bn,⟨_,rfl⟩⟩;have bf:=AW h3;refine Ab<|sR [0]<|Vs 1<|Nt<|Rt ?_;obtain rfl:=Aa bf;exact Re [bT] be rfl
def CN(N:Nat)(I:AcP):Int->Option (A2 Bool Int):=fun G=>
 (bif(decide (G < (I.length:Int)))then((IF I G).bind fun J=>((GR N J).bind fun O=>(bif O then some (.ret true)else some (.next (W64 (G + 1))))))else some (.done G))
def E6(N:Nat)(G:AcP):Option Bool:=
 ((AF (CN N G) N 0).bind fun o=>o.k (fun r=>some r) (fun h0=>some false))
theorem Kp(N:Nat)(w0:World)(F0:Mem)(hF:AcR w0 F0)(I:AcP)(r:Bool)(h:E6 N I=some r):
  cA 269 [sv I] w0 F0 (.bool r):=by
 have h5:=Acv hF;refine Go 14 Tryz.func269<|sR [0]<|Vs 1<|Nss<|sR [0]<|Vs 1<|Nt ?_;obtain⟨Z,h6,h0⟩:=bS h;refine AcA (fun f w=>∃(h1:Int)(J:_),Z=.done h1/\HS w0 F0 w J []/\Acs F0 J/\FI f [] []) ?_ ?_
 ·refine Bk<|Acr (by kernel_rfl) (fun m f w=>∃(G:Int)(F1:Mem),AF (CN N I) m G=some Z/\HS w0 F0 w F1 []/\Acs F0 F1/\FI f [] [(0,(sv I)),(3,(vi G))]) N ⟨0,F0,h6,h5,Acu _,fI⟩ ?_;rintro hz f h7 ⟨G,F1,h8,O,h2,⟨_,rfl⟩⟩;obtain⟨h9,b0,rfl,ha,Y⟩:=AB h8;refine Sq<|sR (rG 4)<|Vs 4<|Nt<|Cd ha (fun hb hc=>?_) (fun hb hg=>?_)
  ·refine Sc<|Ab<|Sq<|Bk<|sR (rG 4)<|Vs 2 ?_;obtain⟨h3,hh,hm⟩:=bS hc;refine V 12 5 (CA (t:=9) (x:=.tmp 10) (y:=.tmp 11) (a:=I) (k:=.i64) (i:=G) (v:=h3) rfl rfl (by kernel_rfl) hh) ?_;obtain⟨b1,hn,ho⟩:=bS hm;refine Cl' (cO 286) O (L9 N h7 F1 O.pers h3 _ hn) ?_;rintro _ F3 b2 h4 hp rfl;refine Nt<|Cd ho (fun hq hr=>?_) (fun hq ht=>?_)
   ·refine sR [0]<|Vs 1<|Nt<|Rt<|Ar<|Ad<|Ad<|Ar ?_;have hret:=Bf hr Y;subst hret;refine .inr<|Ad ?_;obtain rfl:=Aa h0;exact Re [bT] h4 rfl
   ·refine Sc<|Am<|Ab<|Rg [0,1,2]<|Vs 3<|Aco ?_;have hu:=Ay ht Y;exact⟨h9,xF _,W64 (G + 1),F3,hu,h4,h2.t hp,fI⟩
  ·refine Ex<|Ak<|Ak<|Av rfl ?_;have hw:=AA hg Y;exact .inl ⟨rfl,G,F1,hw,O,h2,fI⟩
 ·rintro f b3 ⟨h1,J,rfl,hx,b4,⟨_,rfl⟩⟩;have hy:=AW h0;refine Ab<|sR [0]<|Vs 1<|Nt<|Rt ?_;obtain rfl:=Aa hy;exact Re [bF] hx rfl
def Gi(N:Nat)(G:AcP):Option Bool:=
 ((J8 N G).bind fun I=>(((Gz N G).bind fun J=>(bif J then((DC N I 1 4).bind fun O=>(bif O then((IE G 0 I).bind fun Y=>((E6 N Y).bind fun Z=>(bif Z then((DC N (W64 ((G.length:Int) - I)) 1 4).bind fun h0=>some h0)else some false)))else some false))else some false)).bind fun h1=>some h1))
theorem Ip(N:Nat)(w0:World)(F0:Mem)(hF:AcR w0 F0)(I:AcP)(r:Bool)(h:Gi N I=some r):
  cA 230 [sv I] w0 F0 (.bool r):=by
 have h4:=Acv hF;refine Go 25 Tryz.func230<|sR [0]<|Vs 1<|nR [0,1,2]<|Vs 1 ?_;obtain⟨Z,h9,ha⟩:=bS h;refine Cl' (cO 267) h4 (PJ N w0 F0 h4.pers I _ h9) ?_;rintro _ F1 hb h5 b9 rfl;refine Vs 1<|nR (rG 20) ?_;obtain⟨h6,hc,hg⟩:=bS ha;refine Acz (kP w0 F0 F1 [] [] [(2,(.bool h6))]) ?_ ?_
 ·refine Vs 1 ?_;obtain⟨ba,hh,hm⟩:=bS hc;refine Cl' (cO 268) h5 (JZ N hb F1 h5.pers I _ hh) ?_;rintro _ F3 hn h0 Y rfl;refine Vs 1<|Sp hm (fun J ho=>?_) (fun J hp=>?_)
  ·refine Vgs J 1 ?_;obtain⟨bb,hq,hr⟩:=bS ho;refine Cg J (cO 150) h0 (D5 N hn F3 h0.pers Z 1 4 _ hq) ?_;rintro _ F4 ht h1 h2 rfl;refine Pk1 J<|Vs 1<|Sp hr (fun G hu=>?_) (fun G hw=>?_)
   ·refine Vgs G 2 ?_;obtain⟨h7,hx,hy⟩:=bS hu;refine Vg 15 9 6 true 12 G (DB (t:=9) (x:=.tmp 13) (lo:=none) (hi:=some (.tmp 14)) (a:=I) (il:=0) (ih:=Z) (v:=h7) rfl (by kernel_rfl) rfl rfl hx) ?_;obtain⟨bc,hz,b0⟩:=bS hy;refine Cg G (cO 269) h1 (Kp N ht F4 h1.pers h7 _ hz) ?_;rintro _ F5 b1 h3 h8 rfl;refine Pk1 G<|Vs 1<|Sp b0 (fun O b2=>?_) (fun O b3=>?_)
    ·refine Vgs O 4 ?_;obtain⟨bd,b4,b5⟩:=bS b2;refine Cg O (cO 150) h3 (D5 N b1 F5 h3.pers (W64 ((I.length:Int) - Z)) 1 4 _ b4) ?_;rintro _ F6 be b6 b7 rfl;refine Pk1 O<|Vs 1 ?_;obtain rfl:=Aa b5;exact Aco ⟨rfl,F6,b6,((Y.t h2).trans h8).trans b7,fI⟩
    ·refine Ss O 5<|Pk0 O<|Vs 1 ?_;obtain rfl:=Aa b3;exact Aco ⟨rfl,F5,h3,(Y.t h2).trans h8,fI⟩
   ·refine Ss G 4<|Pk0 G<|Vs 1<|Ss rF 5<|Pk0 rF<|Vs 1 ?_;obtain rfl:=Aa hw;exact Aco ⟨rfl,F4,h1,Y.t h2,fI⟩
  ·refine Ss J 2<|Pk0 J<|Vs 1<|Ss rF 4<|Pk0 rF<|Vs 1<|Ss rF 5<|Pk0 rF<|Vs 1 ?_;obtain rfl:=Aa hp;exact Aco ⟨rfl,F3,h0,Y,fI⟩
 ·rintro f bf ⟨F2,b8,bg,⟨_,rfl⟩⟩;refine Ab<|Rt ?_;obtain rfl:=Aa hg;exact Re [.bool h6] b8 rfl
def IK(N:Nat)(G:AcP):Option Bool:=
 (((Gz N G).bind fun I=>(bif I then((DC N (G.length:Int) 1 4).bind fun J=>(bif J then((E6 N G).bind fun O=>some O)else some false))else some false)).bind fun Y=>some Y)
theorem OD(N:Nat)(w0:World)(F0:Mem)(hF:AcR w0 F0)(J:AcP)(r:Bool)(h:IK N J=some r):
  cA 231 [sv J] w0 F0 (.bool r):=by
 have h0:=Acv hF;refine Go 14 Tryz.func231<|sR [0]<|Vs 1<|nR (rG 12) ?_;obtain⟨h1,h3,h4⟩:=bS h;refine Acz (kP w0 F0 F0 [] [] [(2,(.bool h1))]) ?_ ?_
 ·refine Vs 1 ?_;obtain⟨hr,h5,h6⟩:=bS h3;refine Cl' (cO 268) h0 (JZ N w0 F0 h0.pers J _ h5) ?_;rintro _ F2 h7 O Y rfl;refine Vs 1<|Sp h6 (fun G h8=>?_) (fun G h9=>?_)
  ·refine Vgs G 2 ?_;obtain⟨ht,ha,hb⟩:=bS h8;refine Cg G (cO 150) O (D5 N h7 F2 O.pers (J.length:Int) 1 4 _ ha) ?_;rintro _ F3 hc Z h2 rfl;refine Pk1 G<|Vs 1<|Sp hb (fun I hg=>?_) (fun I hh=>?_)
   ·refine Vgs I 1 ?_;obtain⟨hu,hm,hn⟩:=bS hg;refine Cg I (cO 269) Z (Kp N hc F3 Z.pers J _ hm) ?_;rintro _ F4 hw ho hp rfl;refine Pk1 I<|Vs 1 ?_;obtain rfl:=Aa hn;exact Aco ⟨rfl,F4,ho,(Y.t h2).trans hp,fI⟩
   ·refine Ss I 2<|Pk0 I<|Vs 1 ?_;obtain rfl:=Aa hh;exact Aco ⟨rfl,F3,Z,Y.t h2,fI⟩
  ·refine Ss G 3<|Pk0 G<|Vs 1<|Ss rF 2<|Pk0 rF<|Vs 1 ?_;obtain rfl:=Aa h9;exact Aco ⟨rfl,F2,O,Y,fI⟩
 ·rintro f hx ⟨F1,hq,hy,⟨_,rfl⟩⟩;refine Ab<|Rt ?_;obtain rfl:=Aa h4;exact Re [.bool h1] hq rfl
def GP(N:Nat)(G:AcP):Option Bool:=
 ((bif((G.length:Int)==1)then((IF G 0).bind fun I=>((E9 N I).bind fun J=>some J))else some false).bind fun O=>(bif O then some true else(((Gz N G).bind fun Y=>(bif Y then((DC N (G.length:Int) 1 4).bind fun Z=>(bif Z then((J8 N G).bind fun h0=>some (h0==0))else some false))else some false)).bind fun h1=>some h1)))
theorem L8(N:Nat)(w0:World)(F0:Mem)(hF:AcR w0 F0)(G:AcP)(r:Bool)(h:GP N G=some r):
  cA 232 [sv G] w0 F0 (.bool r):=by
 have Y:=Acv hF;refine Go 23 Tryz.func232<|sR [0]<|Vs 1<|Nss<|sR (rG 8) ?_;obtain⟨h6,h7,h8⟩:=bS h;refine Acz (kP w0 F0 F0 [] [] [(0,(sv G)),(10,(.bool h6))]) ?_ ?_
 ·refine Vs 4<|Sp h7 (fun I h9=>?_) (fun I ha=>?_)
  ·refine Vgs I 1 ?_;obtain⟨h3,hb,hc⟩:=bS h9;refine Vg 8 5 3 true 6 I (CA (t:=9) (x:=.tmp 7) (y:=.const (vi 0)) (a:=G) (k:=.i64) (i:=0) (v:=h3) rfl rfl (by kernel_rfl) hb) ?_;obtain⟨bb,hg,hh⟩:=bS hc;refine Cg I (cO 204) Y (Hy N w0 F0 Y.pers h3 _ hg) ?_;rintro _ F2 bc hm hn rfl;refine Pk1 I ?_;obtain rfl:=Aa hh;exact Aco ⟨rfl,F2,hm,hn,fI⟩
  ·refine Ss I 3<|Pk0 I ?_;obtain rfl:=Aa ha;exact Aco ⟨rfl,F0,Y,Acu _,fI⟩
 ·rintro f ho ⟨F1,Z,bd,⟨_,rfl⟩⟩;refine Ab<|Cd h8 (fun hp hq=>?_) (fun hp hr=>?_)
  ·refine sR [0]<|Vs 1<|Nt<|Rt<|Ad ?_;obtain rfl:=Aa hq;exact Re [bT] Z rfl
  ·refine Sc<|Ab<|sR (rG 13) ?_;obtain⟨h4,ht,hu⟩:=bS hr;refine Acz (kP w0 F0 F1 [] [] [(2,(.bool h4))]) ?_ ?_
   ·refine Vs 1 ?_;obtain⟨be,hw,hx⟩:=bS ht;refine Cl' (cO 268) Z (JZ N ho F1 Z.pers G _ hw) ?_;rintro _ F4 hy h0 h1 rfl;refine Vs 1<|Sp hx (fun O hz=>?_) (fun O b0=>?_)
    ·refine Vgs O 2 ?_;obtain⟨bf,b1,b2⟩:=bS hz;refine Cg O (cO 150) h0 (D5 N hy F4 h0.pers (G.length:Int) 1 4 _ b1) ?_;rintro _ F5 b3 h2 h5 rfl;refine Pk1 O<|Vs 1<|Sp b2 (fun J b4=>?_) (fun J b5=>?_)
     ·refine Vgs J 1 ?_;obtain⟨bg,b6,b7⟩:=bS b4;refine Cg J (cO 267) h2 (PJ N b3 F5 h2.pers G _ b6) ?_;rintro _ F6 bh b8 b9 rfl;refine Vgs J 1<|Pk1 J<|Vs 1 ?_;obtain rfl:=Aa b7;exact Aco ⟨rfl,F6,b8,(h1.t h5).trans b9,fI⟩
     ·refine Ss J 3<|Pk0 J<|Vs 1 ?_;obtain rfl:=Aa b5;exact Aco ⟨rfl,F5,h2,h1.t h5,fI⟩
    ·refine Ss O 3<|Pk0 O<|Vs 1<|Ss rF 3<|Pk0 rF<|Vs 1 ?_;obtain rfl:=Aa b0;exact Aco ⟨rfl,F4,h0,h1,fI⟩
   ·rintro f bi ⟨F3,ba,bj,⟨_,rfl⟩⟩;refine Ab<|Rt ?_;obtain rfl:=Aa hu;exact Re [.bool h4] ba rfl
def Jr(N:Nat)(J:AcP):Option (AcP×AcP×AcP×Bool):=
 (bif(decide ((J.length:Int) > 16))then some (([]:AcP),([]:AcP),([]:AcP),false)else((Ik N J).bind fun G=>((bif((G.length:Int)==1)then((idx G 0).bind fun Z=>((Gi N Z).bind fun h0=>some h0))else some false).bind fun h1=>(bif h1 then(((idx G 0).bind fun h2=>some h2).bind fun h3=>some (([]:AcP),h3,([]:AcP),true))else((bif((G.length:Int)==2)then((idx G 0).bind fun h4=>((IK N h4).bind fun h5=>(bif h5 then((idx G 1).bind fun h6=>((Gi N h6).bind fun h7=>(bif h7 then((idx G 0).bind fun h8=>((idx G 1).bind fun h9=>some (decide ((h8.length:Int) < (h9.length:Int)))))else some false)))else some false)))else some false).bind fun ha=>(bif ha then(((idx G 0).bind fun hb=>((idx G 1).bind fun hc=>some (hb,hc))).bind fun O=>some (O.1,O.2,([]:AcP),true))else((bif((G.length:Int)==2)then((idx G 0).bind fun hg=>((Gi N hg).bind fun hh=>(bif hh then((idx G 1).bind fun hm=>((GP N hm).bind fun hn=>some hn))else some false)))else some false).bind fun ho=>(bif ho then(((idx G 0).bind fun hp=>((idx G 1).bind fun hq=>some (hp,hq))).bind fun Y=>some (([]:AcP),Y.1,Y.2,true))else((bif((G.length:Int)==3)then((idx G 0).bind fun hr=>((IK N hr).bind fun ht=>(bif ht then((idx G 1).bind fun hu=>((Gi N hu).bind fun hw=>(bif hw then((idx G 2).bind fun hx=>((GP N hx).bind fun hy=>some hy))else some false)))else some false)))else some false).bind fun hz=>(bif hz then(((idx G 0).bind fun b0=>((idx G 1).bind fun b1=>((idx G 2).bind fun b2=>some (b0,b1,b2)))).bind fun I=>some (I.1,I.2.1,I.2.2,true))else some (([]:AcP),([]:AcP),([]:AcP),false)))))))))))
theorem SP(N:Nat)(w0:World)(F0:Mem)(hF:AcR w0 F0)(x0:AcP)(r:(AcP×AcP×AcP×Bool))(h:Jr N x0=some r):
  cA 185 [sv x0] w0 F0 (.tuple #[sv r.1,sv r.2.1,sv r.2.2.1,.bool r.2.2.2]):=by
 have hy:=Acv hF;refine Go 107 Tryz.func185<|sR (rG 4)<|Vs 4<|Nss<|sR [0,1,2]<|Vs 3<|Nt<|Cd h (fun bh bi=>?_) (fun bh bj=>?_)
 ·refine sR (rG 4)<|Vs 4<|Nt<|Rt<|Ad ?_;obtain rfl:=Aa bi;exact Re [sE,sE,sE,bF] hy rfl
 ·refine Sc<|Ab<|sR [0,1,2]<|Vs 1 ?_;obtain⟨O,bk,bl⟩:=bS bj;refine Cl' (cO 229) hy (Sb N w0 F0 hy.pers x0 _ bk) ?_;rintro _ F1 bm hp j4 ⟨hc,Y,rfl,j5,Z⟩;refine Vs 1<|Nss<|sR (rG 9) ?_;obtain⟨bn,bo,bp⟩:=bS bl;refine Acz (kP w0 F0 F1 [] [] [(6,(sL hc O Y)),(20,(.bool bn))]) ?_ ?_
  ·refine Vs 4<|Sp bo (fun h0 bq=>?_) (fun h0 br=>?_)
   ·refine Vgs h0 1 ?_;obtain⟨bs,bt,bu⟩:=bS bq;obtain⟨bv,hx45'⟩:=Ag bt;obtain⟨j6,j7,j8,j9,ja,rfl,hF54,hE55⟩:=AcB Z hx45';have bw:=hE55 _ _ hx45';refine Ixg h0 bv<|Lxg h0 0 (hp.pers _ _ hF54) bw ?_;obtain⟨jb,bx,bz⟩:=bS bu;refine Cg h0 (cO 230) hp (Ip N bm F1 hp.pers bs _ bx) ?_;rintro _ F3 jc c0 c1 rfl;refine Pk1 h0 ?_;obtain rfl:=Aa bz;exact Aco ⟨rfl,F3,c0,c1,fI⟩
   ·refine Ss h0 4<|Pk0 h0 ?_;obtain rfl:=Aa br;exact Aco ⟨rfl,F1,hp,Acu _,fI⟩
  ·rintro f jd ⟨F2,b9,h8,⟨_,rfl⟩⟩;refine Ab<|Cd bp (fun c3 c4=>?_) (fun c3 c5=>?_)
   ·refine Sq ?_;obtain⟨ba,c6,c7⟩:=bS c4;refine RD 7 7 [] [] b9 (kP w0 F0 F2 [] [] [(2,sE),(3,(sv ba)),(4,sE),(5,bT)]) (fun je c8=>?_) ?_
    ·refine Dv [0] ?_;obtain⟨jf,c9,ca⟩:=bS c6;obtain⟨cb,hx83'⟩:=Ag c9;obtain⟨jg,jh,ji,jj,jk,rfl,hF92,hE93⟩:=AcB (Acw Z h8) hx83';have cc:=hE93 _ _ hx83';refine Di 1 cb<|Dx 2 0 (fun _ hq=>hq.1.1 _ _ hF92) cc<|Dv [3,4,5,6] ?_;obtain rfl:=Aa ca;exact AcG (by kernel_rfl) ⟨F2,c8,Acu _,fI⟩
    ·rintro f jl ⟨F4,cd,jm,⟨_,rfl⟩⟩;refine Ab<|Rt<|Ad ?_;obtain rfl:=Aa c7;exact Re [sE,sv ba,sE,bT] cd rfl
   ·refine Sc<|Ab<|Sq<|Sq ?_;obtain⟨ce,cf,cg⟩:=bS c5;refine RD 26 26 [] [] b9 (kP w0 F0 F2 [] [] [(6,(sL hc O Y)),(49,(.bool ce))]) (fun ch hz=>?_) ?_
    ·refine Dvl [0,1,2,3] (tf 4 22)<|Sd cf (fun h1 ci=>?_) (fun h1 cj=>?_)
     ·refine Dgl 4 28 55 _ (tf 5 21) 3 true 27 h1 (fun _ hq=>mv 6 (sL hc O Y)) ?_;obtain⟨b0,cl,cm⟩:=bS ci;obtain⟨cn,hx111'⟩:=Ag cl;obtain⟨I,J,jo,jp,jq,rfl,hF120,hE121⟩:=AcB (Acw Z h8) hx111';have co:=hE121 _ _ hx111';refine Dgl 5 29 0 (.pointer (some ⟨I,J + (0:Int).toNat * 1,none⟩)) (tf 6 20) 3 true 27 h1 (fun _ hq=>Co (t:=55) (x:=.tmp 28) (y:=.const (vi 0)) (b:=I) (o:=J) (E:=9) (s:=1) (by_:=16) rfl rfl (by kernel_rfl) cn)<|Dgl 6 30 9 _ (tf 7 19) 3 true 27 h1 (fun _ hq=>lx 9 29 0 1 false 1 (sv b0) (hq.1.1 _ _ hF120) co)<|D1 7 ?_;obtain⟨cp,cq,cr⟩:=bS cm;refine AcF (l':=[tt,tt,tt,tt,tt,tt,tt,tt,ff,ff,ff,ff,ff,ff,ff,ff,ff,ff,ff,ff,ff,ff,ff,ff,ff,ff]) (zd:=true) (by kernel_rfl) (by kernel_rfl) (by kernel_rfl) (dst:=some 31) (ty:=4) (g:=some (3,true)) (by kernel_rfl) (KI (d:=27) (by kernel_rfl) rfl h1) (f0:=.func 231) (aos:=#[.tmp 30]) (ats:=#[9]) (fid:=231) (first:=#[]) (cap:=#[]) (args:=[sv b0]) rfl (cO 231) rfl hz (OD N ch F2 hz.pers b0 _ cq) ?_;rintro _ F6 ct b1 b2 rfl;refine Dtl 8 32 4 _ (tf 9 17) (fun _ hq=>p1 27 (.tmp 31) (.const bF) (.bool cp) h1)<|Dvl [9] (tf 10 16)<|Sd cr (fun h2 cu=>?_) (fun h2 cv=>?_)
      ·refine Dgl 10 34 55 _ (tf 11 15) 9 true 33 h2 (fun _ hq=>mv 6 (sS I J O Y)) ?_;obtain⟨b3,cw,cx⟩:=bS cu;obtain⟨cy,hx136'⟩:=Ag cw;have cz:=hE121 _ _ hx136';refine Dgl 11 35 0 (.pointer (some ⟨I,J + (1:Int).toNat * 1,none⟩)) (tf 12 14) 9 true 33 h2 (fun _ hq=>Co (t:=55) (x:=.tmp 34) (y:=.const (vi 1)) (b:=I) (o:=J) (E:=9) (s:=1) (by_:=16) rfl rfl (by kernel_rfl) cy)<|Dgl 12 36 9 _ (tf 13 13) 9 true 33 h2 (fun _ hq=>lx 9 35 0 1 false 1 (sv b3) (hq.1.1 _ _ hF120) cz)<|D1 13 ?_;obtain⟨d0,d1,d2⟩:=bS cx;refine AcF (l':=[tt,tt,tt,tt,tt,tt,tt,tt,tt,tt,tt,tt,tt,tt,ff,ff,ff,ff,ff,ff,ff,ff,ff,ff,ff,ff]) (zd:=true) (by kernel_rfl) (by kernel_rfl) (by kernel_rfl) (dst:=some 37) (ty:=4) (g:=some (9,true)) (by kernel_rfl) (KI (d:=33) (by kernel_rfl) rfl h2) (f0:=.func 230) (aos:=#[.tmp 36]) (ats:=#[9]) (fid:=230) (first:=#[]) (cap:=#[]) (args:=[sv b3]) rfl (cO 230) rfl b1 (Ip N ct F6 b1.pers b3 _ d1) ?_;rintro _ F7 jr bb bc rfl;refine Dtl 14 38 4 _ (tf 15 11) (fun _ hq=>p1 33 (.tmp 37) (.const bF) (.bool d0) h2)<|Dvl [15] (tf 16 10)<|Sd d2 (fun G d3=>?_) (fun G d4=>?_)
       ·refine Dgl 16 40 55 _ (tf 17 9) 15 true 39 G (fun _ hq=>mv 6 (sS I J O Y)) ?_;obtain⟨h9,d6,d7⟩:=bS d3;obtain⟨d8,hx153'⟩:=Ag d6;have d9:=hE121 _ _ hx153';refine Dgl 17 41 0 (.pointer (some ⟨I,J + (0:Int).toNat * 1,none⟩)) (tf 18 8) 15 true 39 G (fun _ hq=>Co (t:=55) (x:=.tmp 40) (y:=.const (vi 0)) (b:=I) (o:=J) (E:=9) (s:=1) (by_:=16) rfl rfl (by kernel_rfl) d8)<|Dgl 18 42 9 _ (tf 19 7) 15 true 39 G (fun _ hq=>lx 9 41 0 1 false 1 (sv h9) (hq.1.1 _ _ hF120) d9)<|Dgl 19 43 3 (vi (h9.length:Int)) (tf 20 6) 15 true 39 G (fun _ hq=>LD (x:=.tmp 42) (ats:=#[9]) (t:=9) (a:=h9) rfl rfl (by kernel_rfl))<|Dgl 20 44 55 _ (tf 21 5) 15 true 39 G (fun _ hq=>mv 6 (sS I J O Y)) ?_;obtain⟨ha,da,db⟩:=bS d7;obtain⟨dc,hx159'⟩:=Ag da;have dd:=hE121 _ _ hx159';refine Dgl 21 45 0 (.pointer (some ⟨I,J + (1:Int).toNat * 1,none⟩)) (tf 22 4) 15 true 39 G (fun _ hq=>Co (t:=55) (x:=.tmp 44) (y:=.const (vi 1)) (b:=I) (o:=J) (E:=9) (s:=1) (by_:=16) rfl rfl (by kernel_rfl) dc)<|Dgl 22 46 9 _ (tf 23 3) 15 true 39 G (fun _ hq=>lx 9 45 0 1 false 1 (sv ha) (hq.1.1 _ _ hF120) dd)<|Dgl 23 47 3 (vi (ha.length:Int)) (tf 24 2) 15 true 39 G (fun _ hq=>LD (x:=.tmp 46) (ats:=#[9]) (t:=9) (a:=ha) rfl rfl (by kernel_rfl))<|Dgl 24 48 4 (.bool (decide ((h9.length:Int) < (ha.length:Int)))) (tf 25 1) 15 true 39 G (fun _ hq=>Ky (t:=3) (t':=3) (x:=.tmp 43) (y:=.tmp 47) (k:=.i64) (a:=(h9.length:Int)) (b:=(ha.length:Int)) rfl rfl)<|Dtl 25 49 4 _ (tf 26 0) (fun _ hq=>p1 39 (.tmp 48) (.const bF) (.bool (decide ((h9.length:Int) < (ha.length:Int)))) G) ?_;obtain rfl:=Aa db;exact AcG (by kernel_rfl) ⟨F7,bb,b2.t bc,fI⟩
       ·refine Dkl [(16,40),(17,41),(18,42),(19,43),(20,44),(21,45)] 15 true 39 G (tf 22 4)<|Dkl [(22,46),(23,47),(24,48)] 15 true 39 G (tf 25 1)<|Dtl 25 49 4 _ (tf 26 0) (fun _ hq=>p0 39 (.tmp 48) (.const bF) bF G) ?_;obtain rfl:=Aa d4;exact AcG (by kernel_rfl) ⟨F7,bb,b2.t bc,fI⟩
      ·refine Dkl [(10,34),(11,35),(12,36),(13,37)] 9 true 33 h2 (tf 14 12)<|Dtl 14 38 4 _ (tf 15 11) (fun _ hq=>p0 33 (.tmp 37) (.const bF) bF h2)<|Dvl [15] (tf 16 10)<|Dkl [(16,40),(17,41),(18,42),(19,43),(20,44),(21,45)] 15 true 39 rfl (tf 22 4)<|Dkl [(22,46),(23,47),(24,48)] 15 true 39 rfl (tf 25 1)<|Dtl 25 49 4 _ (tf 26 0) (fun _ hq=>p0 39 (.tmp 48) (.const bF) bF rfl) ?_;obtain rfl:=Aa cv;exact AcG (by kernel_rfl) ⟨F6,b1,b2,fI⟩
     ·refine Dkl [(4,28),(5,29),(6,30),(7,31)] 3 true 27 h1 (tf 8 18)<|Dtl 8 32 4 _ (tf 9 17) (fun _ hq=>p0 27 (.tmp 31) (.const bF) bF h1)<|Dvl [9] (tf 10 16)<|Dkl [(10,34),(11,35),(12,36),(13,37)] 9 true 33 rfl (tf 14 12)<|Dtl 14 38 4 _ (tf 15 11) (fun _ hq=>p0 33 (.tmp 37) (.const bF) bF rfl)<|Dvl [15] (tf 16 10)<|Dkl [(16,40),(17,41),(18,42),(19,43),(20,44),(21,45)] 15 true 39 rfl (tf 22 4)<|Dkl [(22,46),(23,47),(24,48)] 15 true 39 rfl (tf 25 1)<|Dtl 25 49 4 _ (tf 26 0) (fun _ hq=>p0 39 (.tmp 48) (.const bF) bF rfl) ?_;obtain rfl:=Aa cj;exact AcG (by kernel_rfl) ⟨F2,hz,Acu _,fI⟩
    ·rintro f de ⟨F5,hg,hh,⟨_,rfl⟩⟩;refine Ab<|Cd cg (fun df dg=>?_) (fun df dh=>?_)
     ·refine Sq ?_;obtain⟨hr,di,dj⟩:=bS dg;refine RD 10 10 [] [] hg (kP w0 F0 F5 [] [] [(2,(sv hr.1)),(3,(sv hr.2)),(4,sE),(5,bT)]) (fun js dk=>?_) ?_
      ·refine Dv [0] ?_;obtain⟨jt,dl,dm⟩:=bS di;obtain⟨dn,hx181'⟩:=Ag dl;obtain⟨ju,jv,jw,jx,jy,rfl,hF190,hE191⟩:=AcB (Acw Z (h8.t hh)) hx181';have dp:=hE191 _ _ hx181';refine Di 1 dn<|Dx 2 0 (fun _ hq=>hq.1.1 _ _ hF190) dp<|Dv [3] ?_;obtain⟨jz,dq,dr⟩:=bS dm;obtain⟨ds,hx195'⟩:=Ag dq;have dt:=hE191 _ _ hx195';refine Di 4 ds<|Dx 5 0 (fun _ hq=>hq.1.1 _ _ hF190) dt<|Dv [6,7,8,9] ?_;obtain rfl:=Aa dr;exact AcG (by kernel_rfl) ⟨F5,dk,Acu _,fI⟩
      ·rintro f k0 ⟨F8,du,k1,⟨_,rfl⟩⟩;refine Ab<|Rt<|Ad ?_;obtain rfl:=Aa dj;exact Re [sv hr.1,sv hr.2,sE,bT] du rfl
     ·refine Sc<|Ab<|Sq<|sR (rG 15) ?_;obtain⟨dv,dw,dx⟩:=bS dh;refine Acz (kP w0 F0 F5 [] [] [(6,(sL hc O Y)),(70,(.bool dv))]) ?_ ?_
      ·refine Vs 4<|Sp dw (fun h3 dy=>?_) (fun h3 dz=>?_)
       ·refine Vgs h3 1 ?_;obtain⟨e0,e1,e2⟩:=bS dy;obtain⟨e3,hx213'⟩:=Ag e1;obtain⟨k2,k3,k4,k5,k6,rfl,hF222,hE223⟩:=AcB (Acw Z (h8.t hh)) hx213';have e4:=hE223 _ _ hx213';refine Ixg h3 e3<|Lxg h3 0 (hg.pers _ _ hF222) e4 ?_;obtain⟨k7,e6,e7⟩:=bS e2;refine Cg h3 (cO 230) hg (Ip N de F5 hg.pers e0 _ e6) ?_;rintro _ bd e8 ht b4 rfl;refine Pk1 h3<|Vs 1<|Sp e7 (fun h4 e9=>?_) (fun h4 ea=>?_)
        ·refine Vgs h4 1 ?_;obtain⟨eb,ec,ed⟩:=bS e9;obtain⟨ee,hx238'⟩:=Ag ec;have ef:=hE223 _ _ hx238';refine Ixg h4 ee<|Lxg h4 0 (ht.pers _ _ (b4 _ _ hF222)) ef ?_;obtain⟨k8,eg,eh⟩:=bS ed;refine Cg h4 (cO 232) ht (L8 N e8 bd ht.pers eb _ eg) ?_;rintro _ ei k9 ej ek rfl;refine Pk1 h4 ?_;obtain rfl:=Aa eh;exact Aco ⟨rfl,ei,ej,b4.t ek,fI⟩
        ·refine Ss h4 4<|Pk0 h4 ?_;obtain rfl:=Aa ea;exact Aco ⟨rfl,bd,ht,b4,fI⟩
       ·refine Ss h3 4<|Pk0 h3<|Vs 1<|Ss rF 4<|Pk0 rF ?_;obtain rfl:=Aa dz;exact Aco ⟨rfl,F5,hg,Acu _,fI⟩
      ·rintro f el ⟨F9,hm,b5,⟨_,rfl⟩⟩;refine Ab<|Cd dx (fun en eo=>?_) (fun en ep=>?_)
       ·refine Sq ?_;obtain⟨hu,er,et⟩:=bS eo;refine RD 10 10 [] [] hm (kP w0 F0 F9 [] [] [(2,sE),(3,(sv hu.1)),(4,(sv hu.2)),(5,bT)]) (fun ka eu=>?_) ?_
        ·refine Dv [0] ?_;obtain⟨kb,ev,ew⟩:=bS er;obtain⟨ex,hx268'⟩:=Ag ev;obtain⟨kc,kd,ke,kf,kg,rfl,hF277,hE278⟩:=AcB (Acw Z ((h8.t hh).trans b5)) hx268';have ey:=hE278 _ _ hx268';refine Di 1 ex<|Dx 2 0 (fun _ hq=>hq.1.1 _ _ hF277) ey<|Dv [3] ?_;obtain⟨kh,ez,g0⟩:=bS ew;obtain⟨g1,hx282'⟩:=Ag ez;have g2:=hE278 _ _ hx282';refine Di 4 g1<|Dx 5 0 (fun _ hq=>hq.1.1 _ _ hF277) g2<|Dv [6,7,8,9] ?_;obtain rfl:=Aa g0;exact AcG (by kernel_rfl) ⟨F9,eu,Acu _,fI⟩
        ·rintro f ki ⟨b6,g3,kj,⟨_,rfl⟩⟩;refine Ab<|Rt<|Ad ?_;obtain rfl:=Aa et;exact Re [sE,sv hu.1,sv hu.2,bT] g3 rfl
       ·refine Sc<|Ab<|Sq<|sR (rG 21) ?_;obtain⟨g4,g5,g6⟩:=bS ep;refine Acz (kP w0 F0 F9 [] [] [(6,(sL hc O Y)),(97,(.bool g4))]) ?_ ?_
        ·refine Vs 4<|Sp g5 (fun h5 g7=>?_) (fun h5 g8=>?_)
         ·refine Vgs h5 1 ?_;obtain⟨g9,ga,gh⟩:=bS g7;obtain⟨gi,hx300'⟩:=Ag ga;obtain⟨kl,km,kn,ko,kp,rfl,hF309,hE310⟩:=AcB (Acw Z ((h8.t hh).trans b5)) hx300';have gk:=hE310 _ _ hx300';refine Ixg h5 gi<|Lxg h5 0 (hm.pers _ _ hF309) gk ?_;obtain⟨kr,gl,gm⟩:=bS gh;refine Cg h5 (cO 231) hm (OD N el F9 hm.pers g9 _ gl) ?_;rintro _ be gn hw ho rfl;refine Pk1 h5<|Vs 1<|Sp gm (fun h6 go=>?_) (fun h6 gp=>?_)
          ·refine Vgs h6 1 ?_;obtain⟨gr,gs,gu⟩:=bS go;obtain⟨gv,hx325'⟩:=Ag gs;have gw:=hE310 _ _ hx325';refine Ixg h6 gv<|Lxg h6 0 (hw.pers _ _ (ho _ _ hF309)) gw ?_;obtain⟨ks,gx,gy⟩:=bS gu;refine Cg h6 (cO 230) hw (Ip N gn be hw.pers gr _ gx) ?_;rintro _ bf gz hx b7 rfl;refine Pk1 h6<|Vs 1<|Sp gy (fun h7 i0=>?_) (fun h7 i1=>?_)
           ·refine Vgs h7 1 ?_;obtain⟨i2,i3,i4⟩:=bS i0;obtain⟨i5,hx342'⟩:=Ag i3;have i6:=hE310 _ _ hx342';refine Ixg h7 i5<|Lxg h7 0 (hx.pers _ _ ((ho.t b7) _ _ hF309)) i6 ?_;obtain⟨kt,i7,i8⟩:=bS i4;refine Cg h7 (cO 232) hx (L8 N gz bf hx.pers i2 _ i7) ?_;rintro _ i9 ku ia ib rfl;refine Pk1 h7 ?_;obtain rfl:=Aa i8;exact Aco ⟨rfl,i9,ia,(ho.t b7).trans ib,fI⟩
           ·refine Ss h7 4<|Pk0 h7 ?_;obtain rfl:=Aa i1;exact Aco ⟨rfl,bf,hx,ho.t b7,fI⟩
          ·refine Ss h6 4<|Pk0 h6<|Vs 1<|Ss rF 4<|Pk0 rF ?_;obtain rfl:=Aa gp;exact Aco ⟨rfl,be,hw,ho,fI⟩
         ·refine Ss h5 4<|Pk0 h5<|Vs 1<|Ss rF 4<|Pk0 rF<|Vs 1<|Ss rF 4<|Pk0 rF ?_;obtain rfl:=Aa g8;exact Aco ⟨rfl,F9,hm,Acu _,fI⟩
        ·rintro f kw ⟨hn,bg,ic,⟨_,rfl⟩⟩;refine Ab<|Cd g6 (fun ie ig=>?_) (fun ie ii=>?_)
         ·refine Sq ?_;obtain⟨hb,ij,ik⟩:=bS ig;refine RD 13 13 [] [] bg (kP w0 F0 hn [] [] [(2,(sv hb.1)),(3,(sv hb.2.1)),(4,(sv hb.2.2)),(5,bT)]) (fun ky io=>?_) ?_
          ·refine Dv [0] ?_;obtain⟨kz,ip,iq⟩:=bS ij;obtain⟨ir,hx372'⟩:=Ag ip;obtain⟨l0,l1,l2,l3,l4,rfl,hF381,hE382⟩:=AcB (Acw Z (((h8.t hh).trans b5).trans ic)) hx372';have it:=hE382 _ _ hx372';refine Di 1 ir<|Dx 2 0 (fun _ hq=>hq.1.1 _ _ hF381) it<|Dv [3] ?_;obtain⟨l5,iu,iv⟩:=bS iq;obtain⟨iw,hx386'⟩:=Ag iu;have iy:=hE382 _ _ hx386';refine Di 4 iw<|Dx 5 0 (fun _ hq=>hq.1.1 _ _ hF381) iy<|Dv [6] ?_;obtain⟨l6,iz,j0⟩:=bS iv;obtain⟨j1,hx392'⟩:=Ag iz;have j2:=hE382 _ _ hx392';refine Di 7 j1<|Dx 8 0 (fun _ hq=>hq.1.1 _ _ hF381) j2<|Dv [9,10,11,12] ?_;obtain rfl:=Aa j0;exact AcG (by kernel_rfl) ⟨hn,io,Acu _,fI⟩
          ·rintro f l7 ⟨b8,j3,l8,⟨_,rfl⟩⟩;refine Ab<|Rt<|Ad ?_;obtain rfl:=Aa ik;exact Re [sv hb.1,sv hb.2.1,sv hb.2.2,bT] j3 rfl
         ·refine Sc<|Ab<|sR (rG 4)<|Vs 4<|Nt<|Rt ?_;obtain rfl:=Aa ii;exact Re [sE,sE,sE,bF] bg rfl
def Ey(N:Nat)(G:AcP):Option Bool:=
 ((Jr N G).bind fun I=>some I.2.2.2)
theorem JE(N:Nat)(w0:World)(F0:Mem)(hF:AcR w0 F0)(G:AcP)(r:Bool)(h:Ey N G=some r):
  cA 144 [sv G] w0 F0 (.bool r):=by
 have I:=Acv hF;refine Go 15 Tryz.func144<|sR [0]<|Vs 1<|nR (rG 11)<|Vs 1 ?_;obtain⟨J,O,Y⟩:=bS h;refine Cl' (cO 185) I (SP N w0 F0 I.pers G _ O) ?_;rintro _ F1 h0 Z h1 rfl;refine Vs 9<|nR [0,1]<|Vs 2<|Nt<|Rt ?_;obtain rfl:=Aa Y;exact Re [.bool J.2.2.2] Z rfl
def BW(N:Nat)(I:(List Line))(J:Int)(O:(Line->Int->Option Int)):(Int×Int)->Option (A2 (Int×Bool) (Int×Int)):=fun G=>
 (bif(decide (G.1 < G.2))then((idx I (W64 (Int.fdiv (IntKind.u64.wrap (W64 (G.1 + G.2))) (2 ^ min (1:Int).toNat IntKind.u64.bits)))).bind fun Y=>((O Y J).bind fun Z=>bif(decide (Z < 0))then none else some (.next (G.1,(W64 (Int.fdiv (IntKind.u64.wrap (W64 (G.1 + G.2))) (2 ^ min (1:Int).toNat IntKind.u64.bits)))))))else some (.done (G.1,G.2)))
def B7(N:Nat)(G:(List Line))(J:Int)(O:(Line->Int->Option Int)):Option (Int×Bool):=
 ((AF (BW N G J O) N (0,(G.length:Int))).bind fun o=>o.k (fun r=>some r) (fun I=>bif(decide (I.1 < (G.length:Int)))then((idx G I.1).bind fun Y=>((O Y J).bind fun Z=>some (I.1,(Z==0))))else none))
theorem DH(N:Nat)(w0:World)(F0:Mem)(hF:AcR w0 F0)(I:(List Line))(h1:AcQ)(h2:Nat)(bn:LC I.length h2)(h8:SlA AR F0 h1 I)(J:Int)(h0:FuncId)(Y Z:List Value)(x2:Line->Int->Option Int)(h9:Ai Tryz.prog h0)(ha:W9 F0 h0 Y Z x2)(r:(Int×Bool))(h:B7 N I J x2=some r):
  cA 252 [sL h1 I h2,vi J,.func (.func h0) Y.toArray Z.toArray] w0 F0 (.tuple #[vi r.1,.bool r.2]):=by
 have hh:=Acv hF;refine Go 49 Tryz.func252<|sR [0,1]<|Vs 2<|nR [0,1,2]<|Vs 3<|nR [0,1,2]<|Vs 3<|Nss ?_;obtain⟨hb,hm,hn⟩:=bS h;refine AcA (fun f w=>∃(h3:(Int×Int))(F2:_),hb=.done h3/\HS w0 F0 w F2 []/\Acs F0 F2/\FI f [] [(0,(sL h1 I h2)),(1,(vi J)),(2,(.func (.func h0) Y.toArray Z.toArray)),(8,(vi (I.length:Int))),(9,(vi h3.1))]) ?_ ?_
 ·refine Bk<|Acr (by kernel_rfl) (fun m f w=>∃(G:(Int×Int))(F1:Mem),AF (BW N I J x2) m G=some hb/\HS w0 F0 w F1 []/\Acs F0 F1/\FI f [] [(0,(sL h1 I h2)),(1,(vi J)),(2,(.func (.func h0) Y.toArray Z.toArray)),(8,(vi (I.length:Int))),(9,(vi G.1)),(10,(vi G.2))]) N ⟨(0,(I.length:Int)),F0,hm,hh,Acu _,fI⟩ ?_;rintro bo f ho ⟨G,F1,hp,h4,h5,⟨_,rfl⟩⟩;obtain⟨hq,bp,rfl,hr,hc⟩:=AB hp;refine Sq<|sR [0,1,2]<|Vs 3<|Nt<|Cd hr (fun ht hu=>?_) (fun ht hw=>?_)
  ·refine Sc<|Ab<|Bk<|sR (rG 7)<|Vs 4<|V 22 222 (ZJ (t:=222) (t':=222) (x:=.tmp 21) (y:=.const (.int .u64 1)) (k:=.u64) (q:=.u64) (a:=IntKind.u64.wrap (W64 (G.1 + G.2))) (b:=1) rfl rfl (by decide))<|Vs 2<|nR (rG 8)<|Vs 3 ?_;obtain⟨hx,hy,hz⟩:=bS hu;obtain⟨b0,hx55'⟩:=Ag hy;obtain⟨bq,br,bs,bt,bu,rfl,hF64,hE65⟩:=AcB (Acw h8 h5) hx55';have b1:=hE65 _ _ hx55';refine Ix b0<|Lx 0 (h4.pers _ _ hF64) b1<|Vs 1 ?_;obtain⟨bv,b2,b3⟩:=bS hz;refine Cq h9 h4 (ha ho F1 hx J _ h5 h4.pers b2) ?_;rintro _ F3 bw b4 b5 rfl;refine Vs 1<|Nt<|Cd b3 (fun b6 b7=>?_) (fun b6 b8=>?_)
   ·cases b7
   ·refine Rg [0,1]<|Vs 2<|Aco<|Am ?_;have b9:=Ay b8 hc;exact⟨hq,xF _,(G.1,(W64 (Int.fdiv (IntKind.u64.wrap (W64 (G.1 + G.2))) (2 ^ min (1:Int).toNat IntKind.u64.bits)))),F3,b9,b4,h5.t b5,fI⟩
  ·refine Ex<|Ak<|Ak<|Av rfl ?_;have ba:=AA hw hc;exact .inl ⟨rfl,(G.1,G.2),F1,ba,h4,h5,fI⟩
 ·rintro f bb ⟨h3,F2,rfl,h6,hg,⟨_,rfl⟩⟩;have bc:=AW hn;refine Ab<|sR (rG 16)<|Vs 5<|Sp bc (fun O bd=>?_) (fun O be=>?_)
  ·refine Vgs O 3 ?_;obtain⟨h7,bf,bg⟩:=bS bd;obtain⟨bh,hx86'⟩:=Ag bf;obtain⟨bx,bz,c0,c1,c3,rfl,hF95,hE96⟩:=AcB (Acw h8 hg) hx86';have bi:=hE96 _ _ hx86';refine Ixg O bh<|Lxg O 0 (h6.pers _ _ hF95) bi<|Vgs O 1 ?_;obtain⟨bj,bk,bl⟩:=bS bg;refine RWP.call (dst:=some 46) (ty:=3) (g:=some (4,true)) (by kernel_rfl) (KI (d:=39) (by kernel_rfl) rfl O) (f0:=.tmp 40) (aos:=#[.tmp 44,.tmp 45]) (ats:=#[34,3]) (fid:=h0) (first:=Y.toArray) (cap:=Z.toArray) (args:=Y++(([.agg (Cj h7),vi J]:List Value)++Z)) rfl h9 (GD (l:=[.agg (Cj h7),vi J]) (fi:=Y) (k:=Z) rfl) h6 (ha bb F2 h7 J _ hg h6.pers bk) ?_;rintro _ F4 c4 bm c5 rfl;refine Vgs O 1<|Pk1 O<|Vs 2<|Nt<|Rt ?_;obtain rfl:=Aa bl;exact Re [vi h3.1,.bool (bj==0)] bm rfl
  ·cases be
def JW(N:Nat)(G:Int):Option Bool:=
 some (G !=G)
theorem Lj(N:Nat)(w0:World)(F0:Mem)(hF:AcR w0 F0)(G:Int)(r:Bool)(h:JW N G=some r):
  cA 281 [vi G] w0 F0 (.bool r):=by
 have I:=Acv hF;refine Go 6 Tryz.func281<|sR [0]<|Vs 1<|nR (rG 4)<|Vs 4<|Nt<|Rt ?_;obtain rfl:=Aa h;exact Re [.bool (G !=G)] I rfl
def Le(N:Nat)(G I:Int):Option Int:=
 ((JW N G).bind fun J=>((JW N I).bind fun O=>(bif J then none else(bif O then none else(bif(decide (G < I))then none else(bif(decide (G > I))then none else some 0))))))
theorem OK(N:Nat)(w0:World)(F0:Mem)(hF:AcR w0 F0)(G I r:Int)(h:Le N G I=some r):
  cA 254 [vi G,vi I] w0 F0 (vi r):=by
 have J:=Acv hF;refine Go 20 Tryz.func254<|sR [0]<|Vs 1<|nR [0,1,2]<|Vs 1 ?_;obtain⟨hn,Y,Z⟩:=bS h;refine Cl' (cO 281) J (Lj N w0 F0 J.pers G _ Y) ?_;rintro _ F1 h0 O ho rfl;refine Vs 1<|nR [0,1,2]<|Vs 1 ?_;obtain⟨hp,h1,h2⟩:=bS Z;refine Cl' (cO 281) O (Lj N h0 F1 O.pers I _ h1) ?_;rintro _ F2 hq h3 hr rfl;refine Vs 1<|Nss<|sR [0]<|Vs 1<|Nt<|Cd h2 (fun h4 h5=>?_) (fun h4 h6=>?_)
 ·cases h5
 ·refine Sc<|Ab<|Sq<|sR [0]<|Vs 1<|Nt<|Cd h6 (fun h7 h8=>?_) (fun h7 h9=>?_)
  ·cases h8
  ·refine Sc<|Ab<|Sq<|sR [0,1,2]<|Vs 3<|Nt<|Cd h9 (fun ha hb=>?_) (fun ha hc=>?_)
   ·cases hb
   ·refine Sc<|Ab<|Sq<|sR [0,1,2]<|Vs 3<|Nt<|Cd hc (fun hg hh=>?_) (fun hg hm=>?_)
    ·cases hh
    ·refine Sc<|Ab<|sR [0]<|Vs 1<|Nt<|Rt ?_;obtain rfl:=Aa hm;exact Re [vi 0] h3 rfl

end Go.Proofs.YthljkpeimofbbaaGreatDoor
namespace Go.Proofs.YthljkpeimofbbaaGreatDoor
def isL(b:UInt8):Bool:=decide (65<=b.toNat)&&decide (b.toNat<=90)
def isD(b:UInt8):Bool:=decide (48<=b.toNat)&&decide (b.toNat<=57)
def isE(b:UInt8):Bool:=isL b||isD b
theorem YX{b:UInt8}(h:128<=b.toNat):isL b=false:=by unfold isL;simp;omega
theorem YY{b:UInt8}(h:128<=b.toNat):isD b=false:=by unfold isD;simp;omega
theorem Abq{b:UInt8}(h:128<=b.toNat):isE b=false:=by unfold isE;rw[YX h,YY h];rfl
theorem TT{b:UInt8}(h:isE b=true):b.toNat < 128:=by unfold isE isL isD at h;simp at h;omega
theorem Acd{b:UInt8}(h:isL b=true):isD b=false:=by unfold isL at h;unfold isD;simp at h ⊢;omega
theorem US(N:Nat)(b:UInt8):CI N (b.toNat:Int)=some (isL b):=by
 unfold CI isL;congr 2 <;> (rw[decide_eq_decide];omega)
theorem WH(N:Nat)(b:UInt8):BV N (b.toNat:Int)=some (isD b):=by
 unfold BV isD;congr 2 <;> (rw[decide_eq_decide];omega)
theorem Td(N:Nat)(b:UInt8):GR N (b.toNat:Int)=some (isL b):=by
 unfold GR isL;congr 2 <;> (rw[decide_eq_decide];omega)
theorem N3(N:Nat)(b:UInt8):E9 N (b.toNat:Int)=some (isD b):=by
 unfold E9 isD;congr 2 <;> (rw[decide_eq_decide];omega)
theorem N5(N:Nat){n:Nat}(h:128<=n):CI N (n:Int)=some false:=by
 unfold CI;have:decide ((n:Int)<=90)=false:=by rw[decide_eq_false_iff_not];omega
 rw[this,vA]
theorem PB(N:Nat){n:Nat}(h:128<=n):BV N (n:Int)=some false:=by
 unfold BV;have:decide ((n:Int)<=57)=false:=by rw[decide_eq_false_iff_not];omega
 rw[this,vA]
theorem YC(N:Nat)(b:UInt8):Fu N (b.toNat:Int)=some (isE b):=by
 unfold Fu isE;rw[US,WH];cases isL b <;> rfl
theorem TL(N:Nat){n:Nat}(h:128<=n):Fu N (n:Int)=some false:=by
 unfold Fu;rw[N5 N h,PB N h];rfl
theorem Ri(N:Nat)(a b c:Int):Jb N a b c=some (decide (b<=a)&&decide (a<=c)):=rfl
theorem Iu(N:Nat)(a b c:Int):DC N a b c=some (decide (b<=a)&&decide (a<=c)):=rfl
structure Je(p:Int->Option Bool)(P:UInt8->Bool):Prop where
 lo:∀ b:UInt8,b.toNat < 128->p (b.toNat:Int)=some (P b)
 hi:∀ n:Nat,128<=n->p (n:Int)=some false
 big:∀ b:UInt8,128<=b.toNat->P b=false
theorem Yj(N:Nat):Je (fun G=>CI N G) isL:=⟨fun b _=>US N b,fun _ h=>N5 N h,fun _ h=>YX h⟩
theorem Wy(N:Nat):Je (fun G=>BV N G) isD:=⟨fun b _=>WH N b,fun _ h=>PB N h,fun _ h=>YY h⟩
theorem AbR(N:Nat):Je (fun G=>Fu N G) isE:=⟨fun b _=>YC N b,fun _ h=>TL N h,fun _ h=>Abq h⟩
theorem Je.some{p:Int->Option Bool}{P:UInt8->Bool}(h:Je p P)(n:Nat):(p (n:Int)).isSome=true:=by
 rcases xR n 128 with h' | h'
 ·have:=h.lo (UInt8.ofNat n) (by rw[UInt8.toNat_ofNat'];omega);have e:(UInt8.ofNat n).toNat=n:=by rw[UInt8.toNat_ofNat'];omega
  rw[e]at this;rw[this];rfl
 ·rw[h.hi n h'];rfl
theorem Je.all{p:Int->Option Bool}{P:UInt8->Bool}(h:Je p P):N0 p=true:=LH.2 fun n _=>h.some n
theorem J9{p:Int->Option Bool}{P:UInt8->Bool}(hp:Je p P){N:Nat}(s:AcP)(most:Int)(hN:s.length < N):
  HW N s most p=some (s.all P&&(decide (1<=(s.length:Int))&&decide ((s.length:Int)<=most))):=by
 have key:=Cc (body:=HV N s most p) s.length (fun i (st:Nat)=>st=i/\(s.take i).all P=true)
  (fun o=>(s.all P=true/\o=.done s.length)\/(s.all P=false/\o=.ret false)) (by
   rintro i st hi ⟨rfl,hall⟩;by_cases h:st < s.length
   ·have hget:s[st]? =some s[st]:=xA h;unfold HV;simp only[h,decide_true,cT];have htake:s.take (st + 1)=s.take st++[s[st]]:=by rw[xV,hget];rfl
    have hfalse:P s[st]=false->s.all P=false:=fun hP=>by
     rw[List.all_eq_false];exact⟨s[st],xT h,by rw[hP];simp⟩
    rcases xR s[st].toNat 128 with hb | hb
    ·rw[QR hget hb,hp.lo _ hb];simp only[oS];cases hP:P s[st]with
     | true=>exact .inl ⟨st + 1,rfl,⟨rfl,by rw[htake,zB,hall];simp[hP]⟩,trivial⟩
     | false=>exact .inr ⟨.ret false,rfl,(fun _ e=>by cases e),.inr ⟨hfalse hP,rfl⟩⟩
    ·have hs:=Vw hget hb;rw[hp.hi _ hs.1];simp only[oS];exact .inr ⟨.ret false,rfl,(fun _ e=>by cases e),.inr ⟨hfalse (hp.big _ hb),rfl⟩⟩
   ·have:st=s.length:=by omega
    subst this;unfold HV;simp only[Nat.lt_irrefl,decide_false,cF];exact .inr ⟨_,rfl,(fun _ e=>by cases e),.inl ⟨by simpa using hall,rfl⟩⟩) s.length N 0 0 (by omega) ⟨rfl,rfl⟩ hN
 obtain⟨o,ho,hR⟩:=key;unfold HW;rw[ho];rcases hR with⟨G,rfl⟩ | ⟨G,rfl⟩
 ·simp only[oS,A2.k,Ri,G,yS]
 ·simp only[oS,A2.k,G,vB]
theorem S7{p:Int->Option Bool}{P:UInt8->Bool}(hp:Je p P){b:UInt8}(h:b.toNat < 128):H0 p b.toNat=P b:=by unfold H0;rw[hp.lo b h];rfl
theorem Od{p:Int->Option Bool}{P:UInt8->Bool}(hp:Je p P)(s:AcP)(ha:∀ b,b∈s->b.toNat < 128):∀(f i:Nat),s.length<=i + f->i<=s.length->
  (0<=Go.Lib.idxFuncFrom (H0 p) true ⟨s.toArray⟩ f i ↔ (s.drop i).any P=true)
 | 0,i,G,I=>by
  have:i=s.length:=by omega
  subst this;simp[Go.Lib.idxFuncFrom]
 | f + 1,i,G,I=>by
  unfold Go.Lib.idxFuncFrom;have hsz:(⟨s.toArray⟩:ByteArray).size=s.length:=by simp[ByteArray.size]
  rw[hsz];by_cases h:i < s.length
  ·rw[if_pos h];have hget:s[i]? =some s[i]:=xA h;have hd:Utf8.decode ⟨s.toArray⟩ i=(s[i].toNat,1):=QR hget (ha _ (xT h));rw[hd];simp only;rw[S7 hp (ha _ (xT h)),xX h,List.any_cons];cases hP:P s[i]with
   | true=>simp
   | false=>
    simp only[xU,if_false,yR];exact Od hp s ha f (i + 1) (by omega) (by omega)
  ·have:i=s.length:=by omega
   subst this;simp
theorem XG{p:Int->Option Bool}{P:UInt8->Bool}(hp:Je p P){N:Nat}(s:AcP)(ha:∀ b,b∈s->b.toNat < 128):∃ r,DA N s p=some r/\decide (r>=0)=s.any P:=by
 refine⟨_,by unfold DA;rw[if_pos hp.all],?_⟩;have:=Od hp s ha s.length 0 (by omega) (by omega);have hsz:(⟨s.toArray⟩:ByteArray).size=s.length:=by simp[ByteArray.size]
 unfold Go.Lib.idxFunc;rw[hsz];rw[vZ]at this;cases hs:s.any P with
 | true=>rw[hs]at this;exact decide_eq_true (this.2 rfl)
 | false=>
  rw[hs]at this;exact decide_eq_false fun h=>by have:=this.1 h;cases this
def MB:AcP->Nat
 | []=>0
 | b::r=>if isD b then r.length + 1 else MB r
def B2(s:AcP):Nat:=MB s.reverse
theorem Vc:B2 []=0:=rfl
theorem Tl(l:AcP)(b:UInt8):B2 (l++[b])=if isD b then l.length + 1 else B2 l:=by
 unfold B2;rw[List.reverse_append];simp[MB]
theorem Qz:∀ l:AcP,MB l<=l.length
 | []=>xM _
 | b::r=>by
  unfold MB;split
  ·exact xM _
  ·exact vI (Qz r)
theorem TY(s:AcP):B2 s<=s.length:=by unfold B2;have:=Qz s.reverse;simpa using this
theorem Tk:∀ l:AcP,∀ b,b∈l.take (l.length - MB l)->isD b=false
 | [],b,h=>by simp at h
 | c::r,b,h=>by
  unfold MB at h;split at h
  ·simp at h
  ·rename_i hc;have hc':isD c=false:=by simpa using hc
   have:=Qz r;rw[show(c::r).length - MB r=(r.length - MB r) + 1 by simp;omega,List.take_succ_cons]at h;rcases xJ.1 h with rfl | h
   ·exact hc'
   ·exact Tk r b h
theorem Tm(s:AcP):∀ b,b∈s.drop (B2 s)->isD b=false:=by
 intro b hb;have h:=Tk s.reverse b;have e:s.reverse.take (s.reverse.length - MB s.reverse)=(s.drop (B2 s)).reverse:=by
  rw[List.reverse_drop,List.length_reverse];rfl
 rw[e]at h;exact h (by simpa using hb)
theorem WZ:∀ l:AcP,0 < MB l->∃ b,l[l.length - MB l]? =some b/\isD b=true
 | [],h=>by simp[MB]at h
 | c::r,h=>by
  unfold MB at h ⊢;by_cases hc:isD c=true
  ·rw[if_pos hc];exact⟨c,by simp,hc⟩
  ·rw[if_neg hc]at h ⊢;obtain⟨b,G,I⟩:=WZ r h;have:=Qz r;refine⟨b,?_,I⟩;rw[show(c::r).length - MB r=(r.length - MB r) + 1 by simp;omega,yD];exact G
theorem AaK(s:AcP)(h:0 < B2 s):∃ b,s[B2 s - 1]? =some b/\isD b=true:=by
 obtain⟨b,G,I⟩:=WZ s.reverse h;refine⟨b,?_,I⟩;have hle:=TY s;rw[List.length_reverse,List.getElem?_reverse (by show s.length - B2 s < s.length;omega)]at G;rw[<-G];congr 1;show B2 s - 1=s.length - 1 - (s.length - B2 s);omega
theorem MX(N:Nat)(s:AcP)(ha:∀ b,b∈s->b.toNat < 128):∀(f i:Nat),i<=f->i<=s.length->
  Go.Lib.lastIdxFuncFrom (H0 fun J=>BV N J) true ⟨s.toArray⟩ f i + 1=(B2 (s.take i):Int)
 | 0,i,G,I=>by
  have:i=0:=by omega
  subst this;simp[Go.Lib.lastIdxFuncFrom,Vc]
 | f + 1,0,G,I=>by simp[Go.Lib.lastIdxFuncFrom,Vc]
 | f + 1,i + 1,G,I=>by
  unfold Go.Lib.lastIdxFuncFrom;rw[if_pos (Nat.succ_pos i)];have h:i < s.length:=by omega
  have htake:s.take (i + 1)=s.take i++[s[i]]:=by rw[xV,xA h];rfl
  have hb:=ha _ (xT h);have hdl:Go.Lib.decodeLastL (s.take (i + 1))=(s[i].toNat,1):=by
   unfold Go.Lib.decodeLastL;rw[if_neg (fun e=>by have O:=congrArg List.length e;rw[xW,zC]at O;omega)];have hlen:(s.take (i + 1)).length - 1=i:=by rw[xW];omega
   have hg:(s.take (i + 1)).getD i 0=s[i]:=by
    rw[vO,vD,if_pos (by omega),xA h];rfl
   rw[hlen,hg,if_pos hb]
  simp only[List.toList_toArray]at *
  rw[hdl];simp only;rw[S7 (Wy N) hb,htake,Tl];cases hP:isD s[i]with
  | true=>
   simp only[if_true];rw[xW,wV (by omega)];simp
  | false=>
   simp only[xU,if_false];rw[show i + 1 - 1=i by omega];exact MX N s ha f i (by omega) (by omega)
theorem Cx(i:Nat)(h:i < 4611686018427387904):W64 ((i:Int) + 1)=((i + 1:Nat):Int):=by
 rw[A4 (by omega) (by omega)];omega
def pcs(c:UInt8):AcP->List AcP
 | []=>[[]]
 | b::s=>if b=c then[]::pcs c s else match pcs c s with
  | p::r=>(b::p)::r
  | []=>[[b]]
theorem IL(c:UInt8):∀ s,pcs c s≠[]
 | []=>by simp[pcs]
 | b::s=>by
  unfold pcs;split
  ·simp
  ·split <;> simp
theorem Fa{c:UInt8}:∀{a:AcP},c∉a->pcs c a=[a]
 | [],_=>rfl
 | b::s,h=>by
  have G:¬ b=c:=fun e=>h (by rw[e];exact zI);have I:c∉s:=fun hm=>h (xE _ hm);unfold pcs;rw[if_neg G,Fa I]
theorem GS{c:UInt8}:∀{a t:AcP},c∉a->pcs c (a++c::t)=a::pcs c t
 | [],t,_=>by simp[pcs]
 | b::s,t,h=>by
  have G:¬ b=c:=fun e=>h (by rw[e];exact zI);have I:c∉s:=fun hm=>h (xE _ hm);rw[zS]
  conv=>lhs;unfold pcs
  rw[if_neg G,GS I]
theorem WA(c:UInt8):∀ s,(pcs c s).length=s.count c + 1
 | []=>rfl
 | b::s=>by
  have:=WA c s;unfold pcs;by_cases h:b=c
  ·rw[if_pos h,xH,this,h];simp
  ·rw[if_neg h,List.count_cons_of_ne (by simpa using h)];cases hp:pcs c s with
   | nil=>exact absurd hp (IL c s)
   | cons p r=>rw[hp]at this;simpa using this
theorem Q8(c:UInt8):∀ s,[c].intercalate (pcs c s)=s
 | []=>rfl
 | b::s=>by
  have ih:=Q8 c s;unfold pcs;by_cases h:b=c
  ·rw[if_pos h];cases hp:pcs c s with
   | nil=>exact absurd hp (IL c s)
   | cons p r=>
    rw[hp]at ih;subst h;simp only[List.intercalate]at ih ⊢;simp only[List.intersperse_cons_cons,List.flatten_cons,zQ,zS];rw[ih]
  ·rw[if_neg h];cases hp:pcs c s with
   | nil=>exact absurd hp (IL c s)
   | cons p r=>
    rw[hp]at ih;simp only;cases r with
    | nil=>simp[List.intercalate]at ih ⊢;exact ih
    | cons q r=>
     simp only[List.intercalate,List.intersperse_cons_cons,List.flatten_cons,zS]at ih ⊢;rw[ih]
theorem GI{c:UInt8}:∀{s:AcP},c∈s->∃ a t,s=a++c::t/\c∉a
 | b::s,h=>by
  by_cases hb:b=c
  ·exact⟨[],s,by rw[hb];rfl,by simp⟩
  ·rcases xJ.1 h with e | h
   ·exact absurd e.symm hb
   ·obtain⟨a,t,G,I⟩:=GI h;exact⟨b::a,t,by rw[G];rfl,fun hm=>by
     rcases xJ.1 hm with e | hm
     ·exact hb e.symm
     ·exact I hm⟩
theorem LP{c:UInt8}:∀{s:AcP},c∉s->Go.Lib.index s [c]= -1
 | [],_=>rfl
 | b::s,h=>by
  have G:¬ c=b:=fun e=>h (by rw[e];exact zI);have I:c∉s:=fun hm=>h (xE _ hm);unfold Go.Lib.index;rw[if_neg (by simp[List.isPrefixOf];exact G),LP I];rfl
theorem LO{c:UInt8}:∀{a t:AcP},c∉a->Go.Lib.index (a++c::t) [c]=(a.length:Int)
 | [],t,_=>by
  show Go.Lib.index (c::t) [c]=0;unfold Go.Lib.index;rw[if_pos (by simp[List.isPrefixOf])]
 | b::s,t,h=>by
  have G:¬ c=b:=fun e=>h (by rw[e];exact zI);have I:c∉s:=fun hm=>h (xE _ hm);rw[zS];unfold Go.Lib.index;rw[if_neg (by simp[List.isPrefixOf];exact G),LO I,if_neg (by simp <;> omega)];simp
theorem QP{c:UInt8}:∀(n f:Nat)(s:AcP),s.length<=n->s.length < f->Go.Lib.splitK [c] 0 (Go.Lib.countFrom [c] f s) s=pcs c s
 | _,0,s,_,h=>by omega
 | n,f + 1,s,G,I=>by
  by_cases hc:c∈s
  ·obtain⟨a,t,rfl,ha⟩:=GI hc;have hi:=LO (t:=t) ha;unfold Go.Lib.countFrom;rw[hi,if_neg (by simp <;> omega),vV 1];unfold Go.Lib.splitK;rw[hi,if_neg (by simp <;> omega)];have hdrop:(a++c::t).drop ((a.length:Int).toNat + [c].length)=t:=by
    simp
   have htake:(a++c::t).take ((a.length:Int).toNat + 0)=a:=by simp
   rw[hdrop,htake,GS ha];have hl:t.length < n:=by simp at G;omega
   obtain⟨n',rfl⟩:∃ n',n=n' + 1:=⟨n - 1,by omega⟩;rw[QP n' f t (by omega) (by simp at I;omega)]
  ·rw[Fa hc];unfold Go.Lib.countFrom;rw[LP hc,if_pos (by simp)];rfl
theorem Uq(c:UInt8)(s:AcP):Tt s [c]=pcs c s:=by
 unfold Tt;rw[Go.Lib.splitB_data];have:Go.Lib.countB ⟨s.toArray⟩ ⟨[c].toArray⟩=Go.Lib.countFrom [c] (s.length + 1) s:=by
  rfl
 rw[this];exact QP s.length (s.length + 1) s (xM _) (xF _)
theorem N7{N:Nat}{s:AcP}(c:UInt8)(h:s.length < 4294967281):strings_Split N s [c]=some (pcs c s):=by
 unfold strings_Split;rw[if_pos ⟨h,by simp⟩,Uq]
theorem RN{c:UInt8}{s:AcP}(h:c∉s):Go.Lib.cut s [c]=(s,[],false):=by
 unfold Go.Lib.cut;rw[LP h,if_neg (by decide)]
theorem RM{c:UInt8}{a t:AcP}(h:c∉a):Go.Lib.cut (a++c::t) [c]=(a,t,true):=by
 unfold Go.Lib.cut;rw[LO h,if_pos (by omega)];simp only[wP,yB];rw[List.drop_append];simp
theorem W3(b c:UInt8)(z:Int)(h:z=(c.toNat:Int)):((b.toNat:Int)==z)=decide (b=c):=by
 subst h;rw[wD];simp only[beq_iff_eq,decide_eq_true_eq];constructor
 ·intro h;exact wG.1 (by omega)
 ·rintro rfl;rfl
theorem Xx{N:Nat}(s:AcP)(hs:s.length < 4294967290)(hN:s.length < N):Ik N s=some (pcs 47 s):=by
 have key:=Cc (body:=FZ N s) s.length (fun i st=>∃(out:List AcP)(fr:Nat),st=(out,(fr:Int),(i:Int))/\fr<=i/\out.length<=i/\pcs 47 s=out++pcs 47 (s.drop fr)/\(47:UInt8)∉(s.drop fr).take (i - fr))
  (fun o=>∃(out:List AcP)(fr:Nat),o=.done (out,(fr:Int),(s.length:Int))/\fr<=s.length/\out.length<=s.length/\pcs 47 s=out++[s.drop fr]) (by
   rintro i st hi ⟨out,fr,rfl,I,O,G,J⟩;unfold FZ;simp only;by_cases h:i < s.length
   ·have hget:s[i]? =some s[i]:=xA h;have Z:decide ((i:Int) < (s.length:Int))=true:=decide_eq_true (by omega);rw[Z,cT,DU h,oS,W3 _ 47 47 rfl,Cx i (by omega)];have hdi:s.drop fr=(s.drop fr).take (i - fr)++s[i]::s.drop (i + 1):=by
     have Y:s.drop fr=(s.drop fr).take (i - fr)++(s.drop fr).drop (i - fr):=(wM _ _).symm;rw[vN,show fr + (i - fr)=i by omega,xX h]at Y;exact Y
    by_cases hc:s[i]=47
    ·rw[decide_eq_true hc,cT,Er I (by omega),oS,K1 (by simp;omega),oS,oS];refine .inl ⟨_,rfl,⟨out++[(s.drop fr).take (i - fr)],i + 1,rfl,by omega,by simp;omega,?_,by simp⟩,h⟩;rw[G]
     conv=>lhs;rw[hdi,hc,GS J]
     simp
    ·rw[decide_eq_false hc,cF,oS];refine .inl ⟨_,rfl,⟨out,fr,rfl,by omega,by omega,G,?_⟩,h⟩;rw[show i + 1 - fr=(i - fr) + 1 by omega,xV,yY,show fr + (i - fr)=i by omega,hget];intro hm;rcases yF.1 hm with hm | hm
     ·exact J hm
     ·simp at hm;exact hc hm.symm
   ·have:i=s.length:=by omega
    subst this;rw[decide_eq_false (by omega),cF];refine .inr ⟨_,rfl,(fun _ e=>by cases e),out,fr,rfl,I,O,?_⟩;rw[G,Fa];rw[wI (by simp)]at J;exact J) s.length N 0 ([],0,0) (by omega) ⟨[],0,rfl,xM _,xM _,by simp,by simp⟩ hN
 obtain⟨o,ho,out,fr,rfl,I,O,G⟩:=key;unfold Ik;rw[ho];simp only[oS,A2.k];rw[Er I (xM _),oS,K1 (by simp;omega),G,wI (by simp)];rfl
theorem UR{N:Nat}(s:AcP)(hs:s.length < 4294967290)(hN:s.length < N):HG N s=some (pcs 32 s):=by
 have key:=Cc (body:=GQ N s) s.length (fun i st=>∃(out:List AcP)(fr:Nat),st=(out,(fr:Int),(i:Int))/\fr<=i/\out.length<=i/\pcs 32 s=out++pcs 32 (s.drop fr)/\(32:UInt8)∉(s.drop fr).take (i - fr))
  (fun o=>∃(out:List AcP)(fr:Nat),o=.done (out,(fr:Int),(s.length:Int))/\fr<=s.length/\out.length<=s.length/\pcs 32 s=out++[s.drop fr]) (by
   rintro i st hi ⟨out,fr,rfl,I,O,G,J⟩;unfold GQ;simp only;by_cases h:i < s.length
   ·have hget:s[i]? =some s[i]:=xA h;have Z:decide ((i:Int) < (s.length:Int))=true:=decide_eq_true (by omega);rw[Z,cT,DU h,oS,W3 _ 32 32 rfl,Cx i (by omega)];have hdi:s.drop fr=(s.drop fr).take (i - fr)++s[i]::s.drop (i + 1):=by
     have Y:s.drop fr=(s.drop fr).take (i - fr)++(s.drop fr).drop (i - fr):=(wM _ _).symm;rw[vN,show fr + (i - fr)=i by omega,xX h]at Y;exact Y
    by_cases hc:s[i]=32
    ·rw[decide_eq_true hc,cT,Er I (by omega),oS,K1 (by simp;omega),oS,oS];refine .inl ⟨_,rfl,⟨out++[(s.drop fr).take (i - fr)],i + 1,rfl,by omega,by simp;omega,?_,by simp⟩,h⟩;rw[G]
     conv=>lhs;rw[hdi,hc,GS J]
     simp
    ·rw[decide_eq_false hc,cF,oS];refine .inl ⟨_,rfl,⟨out,fr,rfl,by omega,by omega,G,?_⟩,h⟩;rw[show i + 1 - fr=(i - fr) + 1 by omega,xV,yY,show fr + (i - fr)=i by omega,hget];intro hm;rcases yF.1 hm with hm | hm
     ·exact J hm
     ·simp at hm;exact hc hm.symm
   ·have:i=s.length:=by omega
    subst this;rw[decide_eq_false (by omega),cF];refine .inr ⟨_,rfl,(fun _ e=>by cases e),out,fr,rfl,I,O,?_⟩;rw[G,Fa];rw[wI (by simp)]at J;exact J) s.length N 0 ([],0,0) (by omega) ⟨[],0,rfl,xM _,xM _,by simp,by simp⟩ hN
 obtain⟨o,ho,out,fr,rfl,I,O,G⟩:=key;unfold HG;rw[ho];simp only[oS,A2.k];rw[Er I (xM _),oS,K1 (by simp;omega),G,wI (by simp)];rfl
theorem O4{α ρ τ:Type}{body:Int->Option (A2 ρ Int)}{l:List α}(ok:α->Bool)(bad:ρ)(hb:∀ i (h:i < l.length),body (i:Int)=some (bif ok l[i]then .next ((i + 1:Nat):Int)else .ret bad))
  (he:body (l.length:Int)=some (.done (l.length:Int))) {N:Nat} (hN:l.length < N) (fd:Int->Option τ) (fr:ρ->Option τ):((AF body N 0).bind fun o=>o.k fr fd)=bif l.all ok then fd l.length else fr bad:=by
 obtain⟨o,ho,hR⟩:=Cc (body:=body) l.length (fun i s=>s=(i:Int)/\(l.take i).all ok=true) (fun o=>(l.all ok=true/\o=.done (l.length:Int))\/(l.all ok=false/\o=.ret bad)) (by
  rintro i s hi ⟨rfl,hk⟩;by_cases h:i < l.length
  ·rw[hb i h];cases e:ok l[i]with
   | true=>exact .inl ⟨_,rfl,⟨rfl,by rw[xV,xA h,zB,hk];simp[e]⟩,h⟩
   | false=>exact .inr ⟨_,rfl,(fun _ h=>by cases h),.inr ⟨by rw[List.all_eq_false];exact⟨l[i],xT h,by rw[e];simp⟩,rfl⟩⟩
  ·have:i=l.length:=by omega
   subst this;rw[he];exact .inr ⟨_,rfl,(fun _ h=>by cases h),.inl ⟨by simpa using hk,rfl⟩⟩) l.length N 0 0 (by omega) ⟨rfl,rfl⟩ hN
 rw[ho];rcases hR with⟨G,rfl⟩ | ⟨G,rfl⟩ <;> rw[G] <;> rfl
section
variable {N:Nat} {s:AcP}
theorem BB{i n:Nat}(h:i < n):decide ((i:Int) < (n:Int))=true:=decide_eq_true (by omega)
theorem BE{n:Nat}:decide ((n:Int) < (n:Int))=false:=decide_eq_false (by omega)
theorem TK(hs:s.length < 4611686018427387904)(hN:s.length < N):Gz N s=some (s.all isE):=by
 have hb:∀ i (h:i < s.length),DW N s (i:Int)=some (bif isE s[i]then .next ((i + 1:Nat):Int)else .ret false):=fun i h=>by
  unfold DW;rw[BB h,cT,DU h,oS,Td,oS,Cx i (by omega),oS,N3];unfold isE;cases isL s[i] <;> cases isD s[i] <;> rfl
 have he:DW N s (s.length:Int)=some (.done (s.length:Int)):=by
  unfold DW;rw[BE,cF]
 unfold Gz;rw[O4 (l:=s) isE false hb he hN];cases s.all isE <;> rfl
theorem W5:∀ s:AcP,s.all (fun b=>!isL b)= !s.any isL
 | []=>rfl
 | b::s=>by rw[zZ,List.any_cons,W5 s];cases isL b <;> rfl
theorem Rl(hs:s.length < 4611686018427387904)(hN:s.length < N):E6 N s=some (s.any isL):=by
 have hb:∀ i (h:i < s.length),CN N s (i:Int)=some (bif(!isL s[i])then .next ((i + 1:Nat):Int)else .ret true):=fun i h=>by
  unfold CN;rw[BB h,cT,DU h,oS,Td,oS,Cx i (by omega)];cases isL s[i] <;> rfl
 have he:CN N s (s.length:Int)=some (.done (s.length:Int)):=by
  unfold CN;rw[BE,cF]
 unfold E6;rw[O4 (l:=s) (fun b=>!isL b) true hb he hN];rw[W5];cases s.any isL <;> rfl
theorem AaV(hs:s.length < 4611686018427387904)(hN:s.length < N):J8 N s=some (B2 s:Int):=by
 obtain⟨o,ho,rfl⟩:=Cc (body:=Il N s) s.length (fun i st=>st=((B2 (s.take i):Int),(i:Int))) (fun o=>o=.done ((B2 s:Int),(s.length:Int))) (by
  rintro i st hi rfl;unfold Il;simp only;by_cases h:i < s.length
  ·rw[BB h,cT,DU h,oS,N3,oS,Cx i (by omega)];refine .inl ⟨_,rfl,?_,h⟩;rw[xV,xA h];show _=(((B2 (s.take i++[s[i]]):Nat):Int),_);rw[Tl,xW,wV (by omega)];cases isD s[i] <;> rfl
  ·have:i=s.length:=by omega
   subst this;rw[BE,cF,xS];exact .inr ⟨_,rfl,(fun _ e=>by cases e),rfl⟩) s.length N 0 (0,0) (by omega) rfl hN
 unfold J8;rw[ho];rfl
def wiB(n lo hi:Nat):Bool:=decide (lo<=n)&&decide (n<=hi)
def DJ(s:AcP):Bool:=s.all isE&&wiB s.length 1 4&&s.any isL
def Bu(s:AcP):Bool:=s.all isE&&wiB (B2 s) 1 4&&(s.take (B2 s)).any isL&&wiB (s.length - B2 s) 1 4
def B5(s:AcP):Bool:=(s.all isL&&wiB s.length 1 4)||(s.all isD&&wiB s.length 1 1)
theorem Kv(n lo hi:Nat):(decide (((lo:Nat):Int)<=(n:Int))&&decide ((n:Int)<=((hi:Nat):Int)))=wiB n lo hi:=by
 unfold wiB;congr 1 <;> (rw[decide_eq_decide];omega)
theorem w14(n:Nat):(decide ((1:Int)<=(n:Int))&&decide ((n:Int)<=(4:Int)))=wiB n 1 4:=Kv n 1 4
theorem w11(n:Nat):(decide ((1:Int)<=(n:Int))&&decide ((n:Int)<=(1:Int)))=wiB n 1 1:=Kv n 1 1
theorem VV(hs:s.length < 4611686018427387904)(hN:s.length < N):HX N s=some (DJ s):=by
 unfold HX DJ;rw[J9 (AbR N) s 4 hN,oS,w14];cases h:(s.all isE&&wiB s.length 1 4)with
 | false=>rfl
 | true=>
  rw[xB]at h;obtain⟨r,G,I⟩:=XG (N:=N) (Yj N) s (fun b hb=>TT (xN.1 h.1 b hb));rw[cT,G,oS,I];rfl
theorem WG(hs:s.length < 4611686018427387904)(hN:s.length < N):IK N s=some (DJ s):=by
 unfold IK DJ;rw[TK hs hN,oS,Rl hs hN,Iu,w14];cases s.all isE <;> cases wiB s.length 1 4 <;> rfl
theorem UQ(hs:s.length < 4611686018427387904)(hN:s.length < N):Gt N s=some (B5 s):=by
 unfold Gt B5;rw[J9 (Yj N) s 4 hN,J9 (Wy N) s 1 hN,w14,w11];cases s.all isL&&wiB s.length 1 4 <;> rfl
theorem XN:∀{s:AcP},B2 s=0 ↔ s.any isD=false:=by
 intro s;constructor
 ·intro h;have:=Tm s;rw[h,vZ]at this;rw[List.any_eq_false];intro b hb;rw[this b hb];simp
 ·intro h;rcases zY (B2 s)with G | G
  ·exact G
  ·obtain⟨b,I,J⟩:=AaK s G;rw[List.any_eq_false]at h;exact absurd J (h b (xQ I))
theorem So(s:AcP):s.all isL=(s.all isE&& !s.any isD):=by
 induction s with
 | nil=>rfl
 | cons b s ih=>
  simp only[zZ,List.any_cons,ih,isE];cases hL:isL b with
  | true=>rw[Acd hL];simp
  | false=>cases isD b <;> cases s.all isE <;> cases s.any isD <;> rfl
theorem Tc(hs:s.length < 4611686018427387904)(hN:s.length < N):GP N s=some (B5 s):=by
 unfold GP B5;rw[TK hs hN,Iu,w14,AaV hs hN,So];have hz:((B2 s:Int)==0)= !s.any isD:=by
  rw[wD];simp only[beq_iff_eq,Bool.not_eq_true',<-XN];omega
 match s with
 | []=>rfl
 | [b]=>
  have G:(([b]:AcP).length:Int)==1:=rfl;rw[G,cT,show IF [b] 0=some (b.toNat:Int)from rfl,oS,N3,oS,oS];simp only[oS,hz];simp only[zZ,List.all_nil,List.any_cons,List.any_nil,isE,Bool.and_true,wK];cases isL b <;> cases isD b <;> rfl
 | b::c::t=>
  have G:(((b::c::t).length:Int)==1)=false:=by rw[beq_eq_false_iff_ne];simp;omega
  simp only[G,cF,oS,hz];have I:wiB (b::c::t).length 1 1=false:=by unfold wiB;simp
  rw[I,vA,wK];cases(b::c::t).all isE <;> cases wiB (b::c::t).length 1 4 <;> cases(b::c::t).any isD <;> rfl
theorem Qu(hs:s.length < 4611686018427387904)(hN:s.length < N):Gi N s=some (Bu s):=by
 have hk:=TY s;unfold Gi Bu;rw[AaV hs hN,oS,TK hs hN,oS,Iu,w14];have G:IE s 0 (B2 s:Int)=some (s.take (B2 s)):=by
  have:=Er (a:=s) (lo:=0) (hi:=B2 s) (zR _) hk
  simpa using this
 have I:W64 ((s.length:Int) - (B2 s:Int))=((s.length - B2 s:Nat):Int):=by rw[A4 (by omega) (by omega)];omega
 rw[G,I,Iu,w14];have J:=Rl (N:=N) (s:=s.take (B2 s)) (by rw[xW];omega) (by rw[xW];omega);simp only[oS,J];cases s.all isE <;> cases wiB (B2 s) 1 4 <;> cases(s.take (B2 s)).any isL <;> rfl
theorem YQ(p:Nat->Bool)(tr:Bool)(s:AcP):∀(f i:Nat),i<=s.length->Go.Lib.lastIdxFuncFrom p tr ⟨s.toArray⟩ f i= -1\/(0<=Go.Lib.lastIdxFuncFrom p tr ⟨s.toArray⟩ f i/\Go.Lib.lastIdxFuncFrom p tr ⟨s.toArray⟩ f i < (i:Int))
 | 0,_,_=>.inl rfl
 | f + 1,i,hi=>by
  unfold Go.Lib.lastIdxFuncFrom;split
  ·rename_i h0;have hw:=Go.Lib.decodeLastL_width (s.take i) (by rw[xW];omega);simp only[List.toList_toArray]at *
   split
   ·exact .inr ⟨by omega,by omega⟩
   ·rcases YQ p tr s f (i - (Go.Lib.decodeLastL (s.take i)).2) (by omega)with h | h
    ·exact .inl h
    ·exact .inr ⟨h.1,by omega⟩
  ·exact .inl rfl
theorem Abn(hs:s.length < 4611686018427387904)(hN:s.length < N):∃ x y,ON N s=some (x,y,Bu s)/\(Bu s=true->x=s.take (B2 s)/\y=s.drop (B2 s)):=by
 have hr:∃ k:Nat,Cz N s (fun G=>BV N G)=some ((k:Int) - 1)/\k<=s.length/\((∀ b,b∈s->b.toNat < 128)->k=B2 s):=by
  have hsz:(⟨s.toArray⟩:ByteArray).size=s.length:=by simp[ByteArray.size]
  have e:Cz N s (fun G=>BV N G)=some (Go.Lib.lastIdxFunc (H0 fun G=>BV N G) true ⟨s.toArray⟩):=by
   unfold Cz Dh;rw[if_pos ⟨(Wy N).all,by omega⟩];rfl
  rw[e];unfold Go.Lib.lastIdxFunc;rw[hsz];have hrange:=YQ (H0 fun G=>BV N G) true s s.length s.length (xM _);refine⟨(Go.Lib.lastIdxFuncFrom (H0 fun G=>BV N G) true ⟨s.toArray⟩ s.length s.length + 1).toNat,?_,?_,fun ha=>?_⟩
  ·exact congrArg some (by rcases hrange with h | ⟨h,_⟩ <;> omega)
  ·rcases hrange with h | ⟨O,J⟩
   ·omega
   ·omega
  ·have:=MX N s ha s.length s.length (xM _) (xM _);rw[xS]at this;omega
 obtain⟨k,O,J,Y⟩:=hr;have Z:W64 ((k:Int) - 1 + 1)=(k:Int):=by rw[A4 (by omega) (by omega)];omega
 have e2:IE s 0 (k:Int)=some (s.take k):=by
  have:=Er (a:=s) (lo:=0) (hi:=k) (zR _) J
  simpa using this
 have e3:IE s (k:Int) (s.length:Int)=some (s.drop k):=by
  rw[Er J (xM _),wI (by simp)]
 have e4:=VV (N:=N) (s:=s.take k) (by rw[xW];omega) (by rw[xW];omega);have e5:=J9 (Yj N) (s.drop k) 4 (N:=N) (by rw[yI];omega);refine⟨s.take k,s.drop k,?_,?_⟩
 ·unfold ON;rw[O,oS,Z,e2,oS,e3,oS,oS,e4,oS,e5,w14];have hbase:(decide ((k:Int) > 0)&&(DJ (s.take k)&&((s.drop k).all isL&&wiB (s.drop k).length 1 4)))=Bu s:=by
   by_cases ha:s.all isE=true
   ·have hk:k=B2 s:=Y fun b hb=>TT (xN.1 ha b hb);subst hk;have hle:=TY s;have e6:(s.take (B2 s)).all isE=true:=xN.2 fun b hb=>xN.1 ha b (List.mem_of_mem_take hb);have e7:(s.drop (B2 s)).all isL=true:=by
     rw[So];rw[xB];refine⟨xN.2 fun b hb=>xN.1 ha b (List.mem_of_mem_drop hb),?_⟩;rw[Bool.not_eq_true',List.any_eq_false];intro b hb;rw[Tm s b hb];simp
    unfold DJ Bu;rw[ha,e6,e7,xW,wV hle,yI];have e8:(decide ((B2 s:Int) > 0)&&wiB (B2 s) 1 4)=wiB (B2 s) 1 4:=by
     unfold wiB;cases hd:decide (1<=B2 s)with
     | false=>simp
     | true=>rw[decide_eq_true (by have:=of_decide_eq_true hd;omega)];rfl
    rw[<-e8];cases decide ((B2 s:Int) > 0) <;> cases wiB (B2 s) 1 4 <;> cases(s.take (B2 s)).any isL <;> rfl
   ·have ha':s.all isE=false:=by simpa using ha
    unfold DJ Bu;rw[ha'];have I:(s.take k).all isE=false\/(s.drop k).all isL=false:=by
     rw[<-wM k s,zB]at ha';cases h5:(s.take k).all isE with
     | false=>exact .inl rfl
     | true=>
      right
      rw[h5,yS]at ha';rw[So,ha'];rfl
    rcases I with I | I <;> rw[I] <;> simp
  rw[<-hbase];cases decide ((k:Int) > 0) <;> cases DJ (s.take k) <;> rfl
 ·intro hb;have ha:s.all isE=true:=by
   unfold Bu at hb;simp only[xB]at hb;exact hb.1.1.1
  rw[Y fun b hb=>TT (xN.1 ha b hb)];exact⟨rfl,rfl⟩
end
theorem RB{α ρ τ:Type}{body:Int->Option (A2 ρ Int)}{l:List α}(f:α->Option ρ)(hb:∀ i (h:i < l.length),body (i:Int)=some ((f l[i]).elim (.next ((i + 1:Nat):Int)) .ret))
  (he:body (l.length:Int)=some (.done (l.length:Int))) {N:Nat} (hN:l.length < N) (fd:Int->Option τ) (fr:ρ->Option τ):((AF body N 0).bind fun o=>o.k fr fd)=(l.findSome? f).elim (fd l.length) fr:=by
 obtain⟨o,ho,hR⟩:=Cc (body:=body) l.length (fun i s=>s=(i:Int)/\l.findSome? f=(l.drop i).findSome? f) (fun o=>(l.findSome? f=none/\o=.done (l.length:Int))\/ ∃ r,l.findSome? f=some r/\o=.ret r) (by
  rintro i s hi ⟨rfl,hk⟩;by_cases h:i < l.length
  ·rw[hb i h];rw[xX h,vC]at hk;cases e:f l[i]with
   | some r=>rw[e]at hk;exact .inr ⟨_,rfl,(fun _ h=>by cases h),.inr ⟨r,hk,rfl⟩⟩
   | none=>rw[e]at hk;exact .inl ⟨_,rfl,⟨rfl,hk⟩,h⟩
  ·have:i=l.length:=by omega
   subst this;rw[he];rw[List.drop_length]at hk;exact .inr ⟨_,rfl,(fun _ h=>by cases h),.inl ⟨hk,rfl⟩⟩) l.length N 0 0 (by omega) ⟨rfl,by rw[vZ]⟩ hN
 rw[ho];rcases hR with⟨G,rfl⟩ | ⟨r,G,rfl⟩ <;> rw[G] <;> rfl
theorem Q7(c:UInt8):∀ s p,p∈pcs c s->p.length<=s.length
 | [],p,h=>by simp[pcs]at h;subst h;simp
 | b::s,p,h=>by
  have ih:=Q7 c s;unfold pcs at h;by_cases hb:b=c
  ·rw[if_pos hb]at h;rcases xJ.1 h with rfl | h
   ·simp
   ·exact vI (ih p h)
  ·rw[if_neg hb]at h;cases hp:pcs c s with
   | nil=>exact absurd hp (IL c s)
   | cons q r=>
    rw[hp]at h ih;simp only at h;rcases xJ.1 h with rfl | h
    ·exact Nat.succ_le_succ (ih q zI)
    ·exact vI (ih p (xE _ h))
def zp:BQ:={Area:=[],Prefix:=[],Suffix:=[],Stroke:=[]}
abbrev Tri:=AcP×AcP×AcP
def J1(ws:List AcP):Option Tri:=match ws with
 | [w]=>if Bu w then some ([],w,[])else none
 | [a,b]=>if DJ a&&Bu b&&decide (a.length < b.length)then some (a,b,[])else if Bu a&&B5 b then some ([],a,b)else none
 | [a,b,c]=>if DJ a&&Bu b&&B5 c then some (a,b,c)else none
 | _=>none
def callB(s:AcP):Option Tri:=if s.length<=16 then J1 (pcs 47 s)else none
def WC(t:Tri):BQ:={Area:=t.1,Prefix:=t.2.1.take (B2 t.2.1),Suffix:=t.2.1.drop (B2 t.2.1),Stroke:=t.2.2}
def Vt(s:AcP):BQ×Bool:=match callB s with
 | some t=>(WC t,true)
 | none=>(zp,false)
section
variable {N:Nat}
theorem N6{w:AcP}(hs:w.length < 4611686018427387904)(hN:w.length < N):∃ x y,AN N w=some ({Area:=[],Prefix:=x,Suffix:=y,Stroke:=[]},Bu w)/\(Bu w=true->x=w.take (B2 w)/\y=w.drop (B2 w)):=by
 obtain⟨x,y,G,I⟩:=Abn hs hN;exact⟨x,y,by unfold AN;rw[G];rfl,I⟩
theorem AbE{w:AcP}{z0:AcP->Option (BQ×Bool)}{p:BQ}{ok:Bool}(G:z0 w=some (p,ok)):Ft N [w] z0=some (p,ok):=by
 unfold Ft;have I:idx [w] 0=some w:=rfl;simp only[I,oS,G]
theorem AbD{a b:AcP}{z0:AcP->Option (BQ×Bool)}{x y u v:AcP}{A ok:Bool}(G:z0 b=some ({Area:=u,Prefix:=x,Suffix:=y,Stroke:=v},ok))(I:HX N a=some A):Fq N [a,b] z0=some ({Area:=a,Prefix:=x,Suffix:=y,Stroke:=v},ok&&A&&decide (a.length < b.length)):=by
 unfold Fq;have e:decide ((a.length:Int) < (b.length:Int))=decide (a.length < b.length):=by rw[decide_eq_decide];omega
 have J:idx [a,b] 0=some a:=rfl;have O:idx [a,b] 1=some b:=rfl;rw[J,O];simp only[oS,G,I];clear G I;rw[e];generalize decide (a.length < b.length)=D;cases ok <;> cases A <;> rfl
theorem AbC{a b:AcP}{z0:AcP->Option (BQ×Bool)}{x y u v:AcP}{A ok:Bool}(G:z0 a=some ({Area:=u,Prefix:=x,Suffix:=y,Stroke:=v},ok))(I:Gt N b=some A):Fp N [a,b] z0=some ({Area:=u,Prefix:=x,Suffix:=y,Stroke:=b},ok&&A):=by
 unfold Fp;have J:idx [a,b] 0=some a:=rfl;have O:idx [a,b] 1=some b:=rfl;rw[J,O];simp only[oS,G,I];clear G I;cases ok <;> cases A <;> rfl
theorem AbB{a b c:AcP}{z0:AcP->Option (BQ×Bool)}{x y u v:AcP}{A B ok:Bool}(G:z0 b=some ({Area:=u,Prefix:=x,Suffix:=y,Stroke:=v},ok))(I:HX N a=some A)(J:Gt N c=some B):Fo N [a,b,c] z0=some ({Area:=a,Prefix:=x,Suffix:=y,Stroke:=c},ok&&A&&B):=by
 unfold Fo;have O:idx [a,b,c] 0=some a:=rfl;have Y:idx [a,b,c] 1=some b:=rfl;have Z:idx [a,b,c] 2=some c:=rfl;rw[O,Y,Z];simp only[oS,G,I,J];clear G I J;cases ok <;> cases A <;> cases B <;> rfl
theorem Aan{w:AcP}(hs:w.length<=16)(hN:16 < N):∃ x y,Ft N [w] (fun G=>AN N G)=some ({Area:=[],Prefix:=x,Suffix:=y,Stroke:=[]},Bu w)/\(Bu w=true->x=w.take (B2 w)/\y=w.drop (B2 w)):=by
 obtain⟨x,y,I,J⟩:=N6 (w:=w) (N:=N) (by omega) (by omega);exact⟨x,y,AbE (z0:=fun G=>AN N G) I,J⟩
theorem Aam{a b:AcP}(ha:a.length<=16)(hb:b.length<=16)(hN:16 < N):∃ x y,Fq N [a,b] (fun G=>AN N G)=some ({Area:=a,Prefix:=x,Suffix:=y,Stroke:=[]},Bu b&&DJ a&&decide (a.length < b.length))/\(Bu b=true->x=b.take (B2 b)/\y=b.drop (B2 b)):=by
 obtain⟨x,y,I,J⟩:=N6 (w:=b) (N:=N) (by omega) (by omega);exact⟨x,y,AbD (z0:=fun G=>AN N G) I (VV (N:=N) (s:=a) (by omega) (by omega)),J⟩
theorem Aal{a b:AcP}(ha:a.length<=16)(hb:b.length<=16)(hN:16 < N):∃ x y,Fp N [a,b] (fun G=>AN N G)=some ({Area:=[],Prefix:=x,Suffix:=y,Stroke:=b},Bu a&&B5 b)/\(Bu a=true->x=a.take (B2 a)/\y=a.drop (B2 a)):=by
 obtain⟨x,y,I,J⟩:=N6 (w:=a) (N:=N) (by omega) (by omega);exact⟨x,y,AbC (z0:=fun G=>AN N G) I (UQ (N:=N) (s:=b) (by omega) (by omega)),J⟩
theorem Aak{a b c:AcP}(ha:a.length<=16)(hb:b.length<=16)(hc:c.length<=16)(hN:16 < N):∃ x y,Fo N [a,b,c] (fun G=>AN N G)=some ({Area:=a,Prefix:=x,Suffix:=y,Stroke:=c},Bu b&&DJ a&&B5 c)/\(Bu b=true->x=b.take (B2 b)/\y=b.drop (B2 b)):=by
 obtain⟨x,y,I,J⟩:=N6 (w:=b) (N:=N) (by omega) (by omega);exact⟨x,y,AbB (z0:=fun G=>AN N G) I (VV (N:=N) (s:=a) (by omega) (by omega)) (UQ (N:=N) (s:=c) (by omega) (by omega)),J⟩
def Vp(ws:List AcP)(fm:Cm):Option (BQ×Bool):=if fm.words_=(ws.length:Int)then match fm.split_ ws with
 | some (p,true)=>some (p,true)
 | _=>none
 else none
theorem Vr{s:AcP}{ws:List AcP}(hle:∀ w,w∈ws->w.length<=16)(hN:4 < N)(J O Y Z:List AcP->Option (BQ×Bool))
  (H2:∀ w:AcP,w.length<=16->∃ x y,J [w]=some ({Area:=[],Prefix:=x,Suffix:=y,Stroke:=[]},Bu w)/\(Bu w=true->x=w.take (B2 w)/\y=w.drop (B2 w)))
  (H3:∀ a b:AcP,a.length<=16->b.length<=16->∃ x y,O [a,b]=some ({Area:=a,Prefix:=x,Suffix:=y,Stroke:=[]},Bu b&&DJ a&&decide (a.length < b.length))/\(Bu b=true->x=b.take (B2 b)/\y=b.drop (B2 b)))
  (H4:∀ a b:AcP,a.length<=16->b.length<=16->∃ x y,Y [a,b]=some ({Area:=[],Prefix:=x,Suffix:=y,Stroke:=b},Bu a&&B5 b)/\(Bu a=true->x=a.take (B2 a)/\y=a.drop (B2 a)))
  (H5:∀ a b c:AcP,a.length<=16->b.length<=16->c.length<=16->∃ x y,Z [a,b,c]=some ({Area:=a,Prefix:=x,Suffix:=y,Stroke:=c},Bu b&&DJ a&&B5 c)/\(Bu b=true->x=b.take (B2 b)/\y=b.drop (B2 b))):
  ((AF (Ep N s ws [({words_:=1,split_:=J}:Cm),{words_:=2,split_:=O},{words_:=2,split_:=Y},{words_:=3,split_:=Z}]) N 0).bind fun o=>o.k (fun r=>some r) (fun _=>some (zp,false)))=some (match J1 ws with | some t=>(WC t,true) | none=>(zp,false)):=by
 generalize hF:([_,_,_,_]:List Cm)=F;have htot:∀ fm,fm∈F->fm.words_=(ws.length:Int)->∃ r,fm.split_ ws=some r:=by
  subst hF;intro fm hfm hw;simp only[xJ,yQ,or_false]at hfm;rcases hfm with rfl | rfl | rfl | rfl <;> simp only at hw ⊢
  ·match ws,hw with
   | [w],_=>obtain⟨_,_,h,_⟩:=H2 w (hle w (by simp));exact⟨_,h⟩
  ·match ws,hw with
   | [a,b],_=>obtain⟨_,_,h,_⟩:=H3 a b (hle a (by simp)) (hle b (by simp));exact⟨_,h⟩
  ·match ws,hw with
   | [a,b],_=>obtain⟨_,_,h,_⟩:=H4 a b (hle a (by simp)) (hle b (by simp));exact⟨_,h⟩
  ·match ws,hw with
   | [a,b,c],_=>obtain⟨_,_,h,_⟩:=H5 a b c (hle a (by simp)) (hle b (by simp)) (hle c (by simp));exact⟨_,h⟩
 have hlen:F.length=4:=by subst hF;rfl
 have hb:∀ i (h:i < F.length),Ep N s ws F (i:Int)=some ((Vp ws F[i]).elim (.next ((i + 1:Nat):Int)) .ret):=by
  intro i h;unfold Ep;have hi:idx F (i:Int)=some F[i]:=by unfold idx;rw[if_pos (by omega)];simp[h]
  rw[BB h,cT,hi,oS,Cx i (by omega)];have htt:=htot _ (xT h);generalize F[i]=fm at htt;unfold Vp;by_cases hw:fm.words_=(ws.length:Int)
  ·obtain⟨⟨p,ok⟩,hr⟩:=htt hw;rw[if_pos hw,show(fm.words_ !=(ws.length:Int))=false by simp[hw],cF,hr];cases ok <;> rfl
  ·rw[if_neg hw,show(fm.words_ !=(ws.length:Int))=true by simp[hw],cT];rfl
 have he:Ep N s ws F (F.length:Int)=some (.done (F.length:Int)):=by
  unfold Ep;rw[BE,cF]
 rw[RB (l:=F) (Vp ws) hb he (by omega)];subst hF
 match ws,hle with
 | [],_=>rfl
 | [w],hle=>
  obtain⟨x,y,G,I⟩:=H2 w (hle w (by simp));unfold J1;have e:(([w]:List AcP).length:Int)=1:=rfl;simp only[vC,vX,Vp,e,G];cases hB:Bu w with
  | false=>rfl
  | true=>obtain⟨rfl,rfl⟩:=I hB;rfl
 | [a,b],hle=>
  have ha:=hle a (by simp);have hb:=hle b (by simp);obtain⟨x,y,G,I⟩:=H3 a b ha hb;obtain⟨x',y',h3,h4⟩:=H4 a b ha hb;unfold J1;have e:(([a,b]:List AcP).length:Int)=2:=rfl;simp only[vC,vX,Vp,e,G,h3];clear G h3 H2 H3 H4 H5 htot hlen hb he;generalize decide (a.length < b.length)=D;generalize DJ a=A;generalize B5 b=S;cases hB:Bu b with
  | false=>
   cases hA:Bu a with
   | false=>cases A <;> cases D <;> rfl
   | true=>
    obtain⟨rfl,rfl⟩:=h4 hA;cases A <;> cases D <;> cases S <;> rfl
  | true=>
   obtain⟨rfl,rfl⟩:=I hB;cases hA:Bu a with
   | false=>cases A <;> cases D <;> rfl
   | true=>
    obtain⟨rfl,rfl⟩:=h4 hA;cases A <;> cases D <;> cases S <;> rfl
 | [a,b,c],hle=>
  have ha:=hle a (by simp);have hb:=hle b (by simp);have hc:=hle c (by simp);obtain⟨x,y,G,I⟩:=H5 a b c ha hb hc;unfold J1;have e:(([a,b,c]:List AcP).length:Int)=3:=rfl;simp only[vC,vX,Vp,e,G];clear G H2 H3 H4 H5 htot hlen hb he;generalize DJ a=A;generalize B5 c=S;cases hB:Bu b with
  | false=>cases A <;> cases S <;> rfl
  | true=>
   obtain⟨rfl,rfl⟩:=I hB;cases A <;> cases S <;> rfl
 | a::b::c::d::t,_=>
  unfold J1;have e:∀ k:Int,k<=3->¬ k=((a::b::c::d::t).length:Int):=by intro k hk;simp only[xH];omega
  simp only[vC,vX,Vp,if_neg (e 1 (by decide)),if_neg (e 2 (by decide)),if_neg (e 3 (by decide))];rfl
theorem Aag(s:AcP)(hN:4294967300 < N):Mz N s=some (Vt s):=by
 unfold Mz Vt callB;by_cases hl:s.length<=16
 ·rw[decide_eq_false (by omega),cF,if_pos hl,N7 47 (by omega),oS];have hle:=Q7 47 s;generalize pcs 47 s=ws at hle;unfold Pp;rw[oS];exact Vr (fun w h=>wH (hle w h) hl) (by omega) _ _ _ _ (fun w h=>Aan h (by omega)) (fun a b h h'=>Aam h h' (by omega)) (fun a b h h'=>Aal h h' (by omega)) (fun a b c h h' h''=>Aak h h' h'' (by omega))
 ·rw[decide_eq_true (by omega),cT,if_neg hl];rfl
def Aa8(s:AcP):AcP×AcP×AcP×Bool:=match callB s with
 | some t=>(t.1,t.2.1,t.2.2,true)
 | none=>([],[],[],false)
theorem Yy(s:AcP)(hN:4294967300 < N):Jr N s=some (Aa8 s):=by
 unfold Jr Aa8 callB;by_cases hl:s.length<=16
 ·rw[decide_eq_false (by omega),cF,if_pos hl,Xx s (by omega) (by omega),oS];have hle:=Q7 47 s;generalize pcs 47 s=ws at hle
  match ws,hle with
  | [],_=>rfl
  | [w],hle=>
   have hw:=hle w (by simp);have G:=Qu (N:=N) (s:=w) (by omega) (by omega);simp only[show((([w]:List AcP).length:Int)==1)=true from rfl,show((([w]:List AcP).length:Int)==2)=false from rfl,show((([w]:List AcP).length:Int)==3)=false from rfl,cT,cF,show idx [w] 0=some w from rfl,oS,G,J1];cases Bu w <;> rfl
  | [a,b],hle=>
   have ha:=hle a (by simp);have hb:=hle b (by simp);have G:=Qu (N:=N) (s:=a) (by omega) (by omega);have I:=Qu (N:=N) (s:=b) (by omega) (by omega);have J:=WG (N:=N) (s:=a) (by omega) (by omega);have O:=Tc (N:=N) (s:=b) (by omega) (by omega);have e:decide ((a.length:Int) < (b.length:Int))=decide (a.length < b.length):=by rw[decide_eq_decide];omega
   simp only[show((([a,b]:List AcP).length:Int)==1)=false from rfl,show((([a,b]:List AcP).length:Int)==2)=true from rfl,show((([a,b]:List AcP).length:Int)==3)=false from rfl,cT,cF,show idx [a,b] 0=some a from rfl,show idx [a,b] 1=some b from rfl,oS,G,I,J,O,e,J1];cases DJ a <;> cases Bu b <;> cases decide (a.length < b.length) <;> cases Bu a <;> cases B5 b <;> rfl
  | [a,b,c],hle=>
   have ha:=hle a (by simp);have hb:=hle b (by simp);have hc:=hle c (by simp);have I:=Qu (N:=N) (s:=b) (by omega) (by omega);have J:=WG (N:=N) (s:=a) (by omega) (by omega);have O:=Tc (N:=N) (s:=c) (by omega) (by omega);simp only[show((([a,b,c]:List AcP).length:Int)==1)=false from rfl,show((([a,b,c]:List AcP).length:Int)==2)=false from rfl,show((([a,b,c]:List AcP).length:Int)==3)=true from rfl,cT,cF,show idx [a,b,c] 0=some a from rfl,show idx [a,b,c] 1=some b from rfl,show idx [a,b,c] 2=some c from rfl,oS,I,J,O,J1];cases DJ a <;> cases Bu b <;> cases B5 c <;> rfl
  | a::b::c::d::t,_=>
   have e:∀ k:Int,k<=3->(((a::b::c::d::t).length:Int)==k)=false:=by intro k hk;rw[beq_eq_false_iff_ne];simp;omega
   simp only[e 1 (by decide),e 2 (by decide),e 3 (by decide),cF,oS,J1]
 ·rw[decide_eq_true (by omega),cT,if_neg hl]
end
end Go.Proofs.YthljkpeimofbbaaGreatDoor
