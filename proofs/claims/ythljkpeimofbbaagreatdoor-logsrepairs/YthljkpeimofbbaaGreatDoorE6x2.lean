/- Lemmas of the claim LogsRepairs, printed by a program of the claimant and by hand. No statement of the seat is proved here. -/
import Derived.Test.YthljkpeimofbbaaGreatDoorE6x1
set_option linter.unusedVariables false
set_option linter.unusedSimpArgs false
set_option linter.unusedSectionVars false
set_option maxHeartbeats 4000000
set_option maxRecDepth 100000
namespace Go.Proofs.YthljkpeimofbbaaGreatDoor
def ups(g:Fr)(d:List Deferred):List (Nat×Value)->Fr
 | []=>⟨g.v,d⟩
 | (i,v)::l=>upd (ups g d l) i v
def FI(f:Fr)(d:List Deferred)(l:List (Nat×Value)):Prop:=∃ g,f=ups g d l
theorem WY{f:Fr}{i:Nat}{v:Value}(h:f i=v):upd f i v=f:=by
 subst h;cases f with
 | mk fv fd=>
  simp only[upd,Fr.mk.injEq,and_true];funext j;cases hb:Nat.beq j i with
  | false=>rfl
  | true=>rw[Nat.eq_of_beq_eq_true hb];rfl
def Eqs(f:Fr):List (Nat×Value)->Prop
 | []=>True
 | (i,v)::l=>f i=v/\Eqs f l
theorem P0{f:Fr}{d:List Deferred}(hd:f.d=d):∀{l:List (Nat×Value)},Eqs f l->f=ups f d l
 | [],_=>by subst hd;rfl
 | (i,v)::l,h=>by
  show f=upd (ups f d l) i v;rw[<-P0 hd h.2];exact(WY h.1).symm
theorem X4{f:Fr}:∀{l:List (Nat×Value)},l.map (fun p=>f p.1)=l.map (·.2)->Eqs f l
 | [],_=>trivial
 | (i,v)::l,h=>by
  simp only[List.map_cons,List.cons.injEq]at h;exact⟨h.1,X4 h.2⟩
theorem kq{α:Type}{a:α}(b:α){c:α}(h:b=c)(k:a=b:=by kernel_rfl):a=c:=k.trans h
theorem fI{f:Fr}{d:List Deferred}{l:List (Nat×Value)}(h:l.map (fun p=>f p.1)=l.map (·.2):=by kernel_rfl)(hd:f.d=d:=by kernel_rfl):FI f d l:=⟨f,P0 hd (X4 h)⟩
theorem fJ{f:Fr}{d:List Deferred}{l:List (Nat×Value)}(h:Eqs f l)(hd:f.d=d:=by kernel_rfl):FI f d l:=⟨f,P0 hd h⟩
def pkC:Op->Operand | .pick c _ _=>c | _=>.tmp 0
def pkA:Op->Operand | .pick _ a _=>a | _=>.tmp 0
def pkB:Op->Operand | .pick _ _ b=>b | _=>.tmp 0
def WA:Op->Bool | .pick _ _ _=>true | _=>false
theorem LT{op:Op}(h:WA op=true):op=.pick (pkC op) (pkA op) (pkB op):=by cases op <;> simp_all [WA,pkC,pkA,pkB]
def ldX:Op->Operand | .load _ x=>x | _=>.tmp 0
def ldT:Op->TypeId | .load t _=>t | _=>0
def T4:Op->Bool | .load _ _=>true | _=>false
theorem HN{op:Op}(h:T4 op=true):op=.load (ldT op) (ldX op):=by cases op <;> simp_all [T4,ldX,ldT]
def pO:Value->Nat | .pointer (some ⟨_,o,_⟩)=>o | _=>0
def sB:Value->Nat | .slice (some ⟨b,_,_⟩) _ _=>b | _=>0
def sO:Value->Nat | .slice (some ⟨_,o,_⟩) _ _=>o | _=>0
def sC:Value->Nat | .slice _ _ c=>c | _=>0
def iK:Value->IntKind | .int k _=>k | _=>.i64
def ixX:Op->Operand | .indexAddr _ x _=>x | _=>.tmp 0
def ixY:Op->Operand | .indexAddr _ _ y=>y | _=>.tmp 0
def ixT:Op->TypeId | .indexAddr t _ _=>t | _=>0
def U6:Op->Bool | .indexAddr _ _ _=>true | _=>false
theorem Jw{op:Op}(h:U6 op=true):op=.indexAddr (ixT op) (ixX op) (ixY op):=by cases op <;> simp_all [U6,ixT,ixX,ixY]
def stX:Op->Operand | .store _ x _=>x | _=>.tmp 0
def stY:Op->Operand | .store _ _ y=>y | _=>.tmp 0
def stT:Op->TypeId | .store t _ _=>t | _=>0
def KE:Op->Bool | .store _ _ _=>true | _=>false
theorem E6{op:Op}(h:KE op=true):op=.store (stT op) (stX op) (stY op):=by cases op <;> simp_all [KE,stT,stX,stY]
def Zj(t:TypeId):Op->Bool | .alloc t'=>Nat.beq t t' | _=>false
theorem Sl{t:TypeId}{op:Op}(h:Zj t op=true):op=.alloc t:=by
 cases op <;> simp only[Zj,Bool.false_eq_true]at h;rw[Nat.eq_of_beq_eq_true h]
def bxX:Op->Operand | .box _ x=>x | _=>.tmp 0
def Zi(t:TypeId):Op->Bool | .box t' _=>Nat.beq t t' | _=>false
theorem Sk{t:TypeId}{op:Op}(h:Zi t op=true):op=.box t (bxX op):=by
 cases op <;> simp only[Zi,Bool.false_eq_true]at h;rw[Nat.eq_of_beq_eq_true h];rfl
def bsV(P:Program)(f:Fr):Op->Option (TypeId×List Value) | .buildSlice t len parts=>Ol P t len (parts.toList.map fun p=>(p.1,fev f p.2)) | _=>none
def bsL:Op->Nat | .buildSlice _ len _=>len | _=>0
def clV(f:Fr):Op->Option (FuncId×List Value)
 | .call c=>(match c.callee with
  | .value f0=>(match fev f f0 with
   | .func (.func g) fi ca=>some (g,fi.toList++c.args.toList.map (fev f)++ca.toList)
   | _=>none)
  | _=>none)
 | _=>none
theorem N5{P:Program}{w:World}{f:Fr}{op:Op}{ty:TypeId}{g:FuncId}{args:List Value}(h:clV f op=some (g,args))(hok:Ah P g):(Ar (fev f) op ty).run P w=.ok (.enter g args.toArray) w:=by
 unfold clV at h;split at h
 ·rename_i c;obtain⟨callee,aos,ats⟩:=c;simp only at h;split at h
  ·split at h
   ·rename_i hf;simp only[Option.some.injEq,Prod.mk.injEq]at h;obtain⟨rfl,rfl⟩:=h;exact Fl hf hok rfl
   ·cases h
  ·cases h
 ·cases h
section
variable {P : Program} {ro : Option Nat} {n : Nat} {R : Array Oper} {Q : Exit -> Fr -> World -> Prop} {i : Nat} {rest : List Nat} {f : Fr} {w w' w0 : World} {F0 F : Mem} {L : List (Option Nat × Obj)}
theorem RWP.valU{v:Value}(ho:ung R i=true)(hy:(Ar (fev f) (An R i) (HR R i)).run P w=.ok (.value v) w')(k:RWP P ro n R Q rest (Bd f (Bj R i) v) w'):RWP P ro n R Q (i::rest) f w:=Abe (Br ho) rfl hy k
theorem Pk1{t:Bool}(ht:t=true)(k:RWP P ro n R Q rest (Bd f (Bj R i) (fev f (pkA (An R i)))) w)(hc:fev f (pkC (An R i))=.bool t:=by kernel_rfl)(ho:(ung R i&&WA (An R i))=true:=by kernel_rfl):RWP P ro n R Q (i::rest) f w:=by
 simp only[Bool.and_eq_true]at ho;refine RWP.valU ho.1 ?_ k;have:=LT ho.2;rw[this]at hc ⊢;exact Ot hc ht rfl
theorem Pk0{t:Bool}(ht:t=false)(k:RWP P ro n R Q rest (Bd f (Bj R i) (fev f (pkB (An R i)))) w)(hc:fev f (pkC (An R i))=.bool t:=by kernel_rfl)(ho:(ung R i&&WA (An R i))=true:=by kernel_rfl):RWP P ro n R Q (i::rest) f w:=by
 simp only[Bool.and_eq_true]at ho;refine RWP.valU ho.1 ?_ k;have:=LT ho.2;rw[this]at hc ⊢;exact Ou hc ht rfl
def ldV(P:Program)(t:TypeId)(C:Array Value)(o:Nat):Value:=match FE P t with | some (g,s)=>mkV g (Av C o s) | none=>undef
def ldK(P:Program)(t:TypeId)(C:Array Value)(o:Nat):Bool:=match FE P t with | some (g,s)=>Nat.beq (Av C o s).length s&&(g||s==1) | none=>false
theorem UG{ρ:Operand->Value}{t ty:TypeId}{x:Operand}{b o:Nat}{C:Array Value}{E:TypeId}{fz:Nat×Nat}(hx:ρ x=.pointer (some ⟨b,o,none⟩))(hp:w.heap[b]? =some (.cells C E fz))(hk:ldK P t C o=true):
  (Ar ρ (.load t x) ty).run P w=.ok (.value (ldV P t C o)) w:=by
 unfold ldK at hk;unfold ldV;split at hk
 ·rename_i g s ht;simp only[Bool.and_eq_true]at hk;exact Cc hx ht hp (Nat.eq_of_beq_eq_true hk.1) hk.2 rfl
 ·cases hk
theorem Ld{b:Nat}{C:Array Value}{E:TypeId}{fz:Nat×Nat}(hp:w.heap[b]? =some (.cells C E fz))(k:RWP P ro n R Q rest (Bd f (Bj R i) (ldV P (ldT (An R i)) C (pO (fev f (ldX (An R i)))))) w)
  (hx:fev f (ldX (An R i))=.pointer (some ⟨b,pO (fev f (ldX (An R i))),none⟩):=by kernel_rfl) (ho:(ung R i&&(T4 (An R i)&&ldK P (ldT (An R i)) C (pO (fev f (ldX (An R i))))))=true:=by kernel_rfl):RWP P ro n R Q (i::rest) f w:=by
 simp only[Bool.and_eq_true]at ho;refine RWP.valU ho.1 ?_ k;have:=HN ho.2.1;rw[this];exact UG hx hp ho.2.2
def lxV(P:Program)(t:TypeId)(cs:List Value)(j:Nat):Value:=match FE P t with | some (g,s)=>mkV g ((cs.drop j).take s) | none=>undef
def lxK(P:Program)(t:TypeId)(cs:List Value)(j kk:Nat):Bool:=match FE P t with | some (g,s)=>decide (j + s<=kk)&&(Nat.beq ((cs.drop j).take s).length s&&(g||s==1)) | none=>false
theorem UE{ρ:Operand->Value}{t ty:TypeId}{x:Operand}{j b o kk:Nat}{C:Array Value}{E:TypeId}{fz:Nat×Nat}{cs:List Value}(hx:ρ x=.pointer (some ⟨b,o + j,none⟩))(hp:w.heap[b]? =some (.cells C E fz))(hc:Av C o kk=cs)(hk:lxK P t cs j kk=true):
  (Ar ρ (.load t x) ty).run P w=.ok (.value (lxV P t cs j)) w:=by
 unfold lxK at hk;unfold lxV;split at hk
 ·rename_i g s ht;simp only[Bool.and_eq_true]at hk;exact Ov hx ht hp hc hk.1 ⟨Nat.eq_of_beq_eq_true hk.2.1,trivial⟩ hk.2.2 rfl
 ·cases hk
theorem Lx(j:Nat){b o kk:Nat}{C:Array Value}{E:TypeId}{fz:Nat×Nat}{cs:List Value}(hp:w.heap[b]? =some (.cells C E fz))(hc:Av C o kk=cs)(k:RWP P ro n R Q rest (Bd f (Bj R i) (lxV P (ldT (An R i)) cs j)) w)
  (hx:fev f (ldX (An R i))=.pointer (some ⟨b,o + j,none⟩):=by kernel_rfl) (ho:(ung R i&&(T4 (An R i)&&lxK P (ldT (An R i)) cs j kk))=true:=by kernel_rfl):RWP P ro n R Q (i::rest) f w:=by
 simp only[Bool.and_eq_true]at ho;refine RWP.valU ho.1 ?_ k;have:=HN ho.2.1;rw[this];exact UE hx hp hc ho.2.2
def elS(P:Program)(t:TypeId):Nat:=match BJ P t with | some (_,s,_)=>s | none=>0
theorem Ix{m:Nat}{y:Int}(hi:0<=y/\y < (m:Int))(k:RWP P ro n R Q rest (Bd f (Bj R i) (.pointer (some ⟨sB (fev f (ixX (An R i))),sO (fev f (ixX (An R i))) + y.toNat * elS P (ixT (An R i)),none⟩))) w)
  (hx:fev f (ixX (An R i))=.slice (some ⟨sB (fev f (ixX (An R i))),sO (fev f (ixX (An R i))),none⟩) m (sC (fev f (ixX (An R i)))):=by kernel_rfl) (hy:fev f (ixY (An R i))=.int (iK (fev f (ixY (An R i)))) y:=by kernel_rfl)
  (ho:(ung R i&&(U6 (An R i)&&slQ P (ixT (An R i))))=true:=by kernel_rfl):RWP P ro n R Q (i::rest) f w:=by
 simp only[Bool.and_eq_true]at ho;obtain⟨I,J,G⟩:=ho;refine RWP.valU I ?_ k;unfold slQ at G;split at G
 ·rename_i q hq;obtain⟨E,s,by_⟩:=q;have es:elS P (ixT (An R i))=s:=by simp[elS,hq]
  rw[es];have e:=Jw J;have:=Ce (P:=P) (w:=w) (ty:=HR R i) hx hy hq hi;rw[<-e]at this;exact this
 ·cases G
theorem Ix0{m:Nat}{y:Int}(hi:0<=y/\y < (m:Int))(k:RWP P ro n R Q rest (Bd f (Bj R i) (.pointer (some ⟨sB (fev f (ixX (An R i))),y.toNat * elS P (ixT (An R i)),none⟩))) w)
  (hx:fev f (ixX (An R i))=.slice (some ⟨sB (fev f (ixX (An R i))),0,none⟩) m (sC (fev f (ixX (An R i)))):=by kernel_rfl) (hy:fev f (ixY (An R i))=.int (iK (fev f (ixY (An R i)))) y:=by kernel_rfl)
  (ho:(ung R i&&(U6 (An R i)&&slQ P (ixT (An R i))))=true:=by kernel_rfl):RWP P ro n R Q (i::rest) f w:=by
 simp only[Bool.and_eq_true]at ho;obtain⟨I,J,G⟩:=ho;refine RWP.valU I ?_ k;unfold slQ at G;split at G
 ·rename_i q hq;obtain⟨E,s,by_⟩:=q;have es:elS P (ixT (An R i))=s:=by simp[elS,hq]
  rw[es];have e:=Jw J;have:=B8 (P:=P) (w:=w) (ty:=HR R i) hx hy hq hi;rw[<-e]at this;exact this
 ·cases G
theorem W7{ρ:Operand->Value}{t ty:TypeId}{x y:Operand}{m:Nat}{q:Int}(hi:0<=q/\q < (m:Int))(hx:ρ x=.slice (some ⟨sB (ρ x),sO (ρ x),none⟩) m (sC (ρ x)))(hy:ρ y=.int (iK (ρ y)) q)(G:slQ P t=true):
  (Ar ρ (.indexAddr t x y) ty).run P w=.ok (.value (.pointer (some ⟨sB (ρ x),sO (ρ x) + q.toNat * elS P t,none⟩))) w:=by
 unfold slQ at G;split at G
 ·rename_i a hq;obtain⟨E,s,by_⟩:=a;have es:elS P t=s:=by simp[elS,hq]
  rw[es];exact Ce hx hy hq hi
 ·cases G
theorem YG{t ty:TypeId}{x y:Operand}{m:Nat}{q:Int}(hi:0<=q/\q < (m:Int))(hx:fev f x=.slice (some ⟨sB (fev f x),0,none⟩) m (sC (fev f x)))(hy:fev f y=.int (iK (fev f y)) q)(G:slQ P t=true):
  (Ar (fev f) (.indexAddr t x y) ty).run P w=.ok (.value (.pointer (some ⟨sB (fev f x),q.toNat * elS P t,none⟩))) w:=by
 unfold slQ at G;split at G
 ·rename_i a hq;obtain⟨E,s,by_⟩:=a;have es:elS P t=s:=by simp[elS,hq]
  rw[es];exact B8 hx hy hq hi
 ·cases G
theorem RWP.valG{gb' gc:Bool}(hg:gc=gb'){v:Value}(hy:(Ar (fev f) (An R i) (HR R i)).run P w=.ok (.value v) w')(k:RWP P ro n R Q rest (Bd f (Bj R i) v) w')
  (G:P1 R (gj R [i]) gb' i=true) (hj:Hh R (gj R [i])=some (gq R [i])) (hf:f (gq R [i])=.bool gc):RWP P ro n R Q (i::rest) f w:=by
 rcases Qr G with e | e
 ·exact Abe e rfl hy k
 ·exact Abe e (J2 hj hf hg) hy k
theorem Pg1{gb' gc:Bool}(hg:gc=gb'){t:Bool}(ht:t=true)(k:RWP P ro n R Q rest (Bd f (Bj R i) (fev f (pkA (An R i)))) w)(hc:fev f (pkC (An R i))=.bool t:=by kernel_rfl)(ho:WA (An R i)=true:=by kernel_rfl)
  (G:P1 R (gj R [i]) gb' i=true:=by kernel_rfl) (hj:Hh R (gj R [i])=some (gq R [i]):=by kernel_rfl) (hf:f (gq R [i])=.bool gc:=by kernel_rfl):RWP P ro n R Q (i::rest) f w:=by
 refine RWP.valG hg ?_ k G hj hf;have:=LT ho;rw[this]at hc ⊢;exact Ot hc ht rfl
theorem Pg0{gb' gc:Bool}(hg:gc=gb'){t:Bool}(ht:t=false)(k:RWP P ro n R Q rest (Bd f (Bj R i) (fev f (pkB (An R i)))) w)(hc:fev f (pkC (An R i))=.bool t:=by kernel_rfl)(ho:WA (An R i)=true:=by kernel_rfl)
  (G:P1 R (gj R [i]) gb' i=true:=by kernel_rfl) (hj:Hh R (gj R [i])=some (gq R [i]):=by kernel_rfl) (hf:f (gq R [i])=.bool gc:=by kernel_rfl):RWP P ro n R Q (i::rest) f w:=by
 refine RWP.valG hg ?_ k G hj hf;have:=LT ho;rw[this]at hc ⊢;exact Ou hc ht rfl
theorem Lg{gb' gc:Bool}(hg:gc=gb'){b:Nat}{C:Array Value}{E:TypeId}{fz:Nat×Nat}(hp:w.heap[b]? =some (.cells C E fz))(k:RWP P ro n R Q rest (Bd f (Bj R i) (ldV P (ldT (An R i)) C (pO (fev f (ldX (An R i)))))) w)
  (hx:fev f (ldX (An R i))=.pointer (some ⟨b,pO (fev f (ldX (An R i))),none⟩):=by kernel_rfl) (ho:(T4 (An R i)&&ldK P (ldT (An R i)) C (pO (fev f (ldX (An R i)))))=true:=by kernel_rfl)
  (G:P1 R (gj R [i]) gb' i=true:=by kernel_rfl) (hj:Hh R (gj R [i])=some (gq R [i]):=by kernel_rfl) (hf:f (gq R [i])=.bool gc:=by kernel_rfl):RWP P ro n R Q (i::rest) f w:=by
 simp only[Bool.and_eq_true]at ho;refine RWP.valG hg ?_ k G hj hf;have:=HN ho.1;rw[this];exact UG hx hp ho.2
theorem Lxg{gb' gc:Bool}(hg:gc=gb')(j:Nat){b o kk:Nat}{C:Array Value}{E:TypeId}{fz:Nat×Nat}{cs:List Value}(hp:w.heap[b]? =some (.cells C E fz))(hcs:Av C o kk=cs)(k:RWP P ro n R Q rest (Bd f (Bj R i) (lxV P (ldT (An R i)) cs j)) w)
  (hx:fev f (ldX (An R i))=.pointer (some ⟨b,o + j,none⟩):=by kernel_rfl) (ho:(T4 (An R i)&&lxK P (ldT (An R i)) cs j kk)=true:=by kernel_rfl)
  (G:P1 R (gj R [i]) gb' i=true:=by kernel_rfl) (hj:Hh R (gj R [i])=some (gq R [i]):=by kernel_rfl) (hf:f (gq R [i])=.bool gc:=by kernel_rfl):RWP P ro n R Q (i::rest) f w:=by
 simp only[Bool.and_eq_true]at ho;refine RWP.valG hg ?_ k G hj hf;have:=HN ho.1;rw[this];exact UE hx hp hcs ho.2
theorem Ixg{gb' gc:Bool}(hg:gc=gb'){m:Nat}{y:Int}(hi:0<=y/\y < (m:Int))(k:RWP P ro n R Q rest (Bd f (Bj R i) (.pointer (some ⟨sB (fev f (ixX (An R i))),sO (fev f (ixX (An R i))) + y.toNat * elS P (ixT (An R i)),none⟩))) w)
  (hx:fev f (ixX (An R i))=.slice (some ⟨sB (fev f (ixX (An R i))),sO (fev f (ixX (An R i))),none⟩) m (sC (fev f (ixX (An R i)))):=by kernel_rfl) (hy:fev f (ixY (An R i))=.int (iK (fev f (ixY (An R i)))) y:=by kernel_rfl)
  (ho:(U6 (An R i)&&slQ P (ixT (An R i)))=true:=by kernel_rfl)
  (G:P1 R (gj R [i]) gb' i=true:=by kernel_rfl) (hj:Hh R (gj R [i])=some (gq R [i]):=by kernel_rfl) (hf:f (gq R [i])=.bool gc:=by kernel_rfl):RWP P ro n R Q (i::rest) f w:=by
 simp only[Bool.and_eq_true]at ho;refine RWP.valG hg ?_ k G hj hf;have e:=Jw ho.1;have:=W7 (P:=P) (w:=w) (ty:=HR R i) hi hx hy ho.2;rw[<-e]at this;exact this
theorem Aba{gb' gc:Bool}(hg:gc=gb'){m:Nat}{y:Int}(hi:0<=y/\y < (m:Int))(k:RWP P ro n R Q rest (Bd f (Bj R i) (.pointer (some ⟨sB (fev f (ixX (An R i))),y.toNat * elS P (ixT (An R i)),none⟩))) w)
  (hx:fev f (ixX (An R i))=.slice (some ⟨sB (fev f (ixX (An R i))),0,none⟩) m (sC (fev f (ixX (An R i)))):=by kernel_rfl) (hy:fev f (ixY (An R i))=.int (iK (fev f (ixY (An R i)))) y:=by kernel_rfl)
  (ho:(U6 (An R i)&&slQ P (ixT (An R i)))=true:=by kernel_rfl)
  (G:P1 R (gj R [i]) gb' i=true:=by kernel_rfl) (hj:Hh R (gj R [i])=some (gq R [i]):=by kernel_rfl) (hf:f (gq R [i])=.bool gc:=by kernel_rfl):RWP P ro n R Q (i::rest) f w:=by
 simp only[Bool.and_eq_true]at ho;refine RWP.valG hg ?_ k G hj hf;have e:=Jw ho.1;have:=YG (P:=P) (w:=w) (ty:=HR R i) hi hx hy ho.2;rw[<-e]at this;exact this
theorem Al'(t:TypeId)(C:Array Value)(hs:HS w0 F0 w F L)(k:∀ b w',HS w0 F0 w' F ((some b,.cells C t (0,0))::L)->RWP P ro n R Q rest (Bd f (Bj R i) (.pointer (some ⟨b,0,none⟩))) w')
  (hC:(B4 P t).map Value.cells=some C:=by kernel_rfl) (ho:(ung R i&&Zj t (An R i))=true:=by kernel_rfl):RWP P ro n R Q (i::rest) f w:=by
 simp only[Bool.and_eq_true]at ho;cases hz:B4 P t with
 | none=>rw[hz]at hC;cases hC
 | some z=>
  rw[hz]at hC;simp only[Option.map_some,Option.some.injEq]at hC;have e:=Sl ho.2;have:=Br ho.1;rw[e]at this;exact RWP.alloc this rfl hz hC hs k
theorem Bx'(t:TypeId)(C:Array Value)(hs:HS w0 F0 w F L)(k:∀ b w',HS w0 F0 w' F ((some b,.cells C t (0,0))::L)->RWP P ro n R Q rest (Bd f (Bj R i) (.pointer (some ⟨b,0,none⟩))) w')
  (hC:(fev f (bxX (An R i))).cells=C:=by kernel_rfl) (ho:(ung R i&&Zi t (An R i))=true:=by kernel_rfl):RWP P ro n R Q (i::rest) f w:=by
 simp only[Bool.and_eq_true]at ho;have e:=Sk ho.2;have:=Br ho.1;rw[e]at this;exact RWP.box this rfl rfl hC hs k
theorem Bs(E:TypeId)(cs:List Value)(hs:HS w0 F0 w F L)(k:∀ b w',HS w0 F0 w' F ((some b,.cells cs.toArray E (0,0))::L)->RWP P ro n R Q rest (Bd f (Bj R i) (.slice (some ⟨b,0,none⟩) (bsL (An R i)) (bsL (An R i)))) w')
  (hb:bsV P f (An R i)=some (E,cs):=by kernel_rfl) (ho:ung R i=true:=by kernel_rfl):RWP P ro n R Q (i::rest) f w:=by
 have:=Br ho;cases e:An R i with
 | buildSlice t len parts=>
  rw[e]at hb this k;exact RWP.buildSlice this rfl rfl hb hs k
 | _=>rw[e]at hb;simp[bsV]at hb
def Eo(P:Program)(t:TypeId)(v:Value)(o:Nat)(C:Array Value):Bool:=match FE P t with | some (_,s)=>Nat.beq v.cells.size s&&(decide (o + s<=C.size)&&v.cells.toList.all (·.oneCell')) | none=>false
theorem JP{ρ:Operand->Value}{t ty:TypeId}{x y:Operand}{b o:Nat}{C C':Array Value}{E:TypeId}(hx:ρ x=.pointer (some ⟨b,o,none⟩))(hp:w.heap[b]? =some (.cells C E (0,0)))(hk:Eo P t (ρ y) o C=true)(hC:Ek C o (ρ y).cells.toList=C'):
  (Ar ρ (.store t x y) ty).run P w=.ok .skip (CR w b (.cells C' E (0,0))):=by
 unfold Eo at hk;split at hk
 ·rename_i g s ht;simp only[Bool.and_eq_true]at hk;exact Qe hx rfl ht hp (Nat.eq_of_beq_eq_true hk.1) hk.2.1 hk.2.2 hC
 ·cases hk
theorem Na{b:Nat}{C C':Array Value}{E:TypeId}(hp:w.heap[b]? =some (.cells C E (0,0)))(k:RWP P ro n R Q rest f (CR w b (.cells C' E (0,0))))
  (hx:fev f (stX (An R i))=.pointer (some ⟨b,pO (fev f (stX (An R i))),none⟩)) (hC:Ek C (pO (fev f (stX (An R i)))) (fev f (stY (An R i))).cells.toList=C')
  (ho:(ung R i&&(KE (An R i)&&(Eo P (stT (An R i)) (fev f (stY (An R i))) (pO (fev f (stX (An R i)))) C&&(match Bj R i with | none=>true | some _=>false))))=true):RWP P ro n R Q (i::rest) f w:=by
 simp only[Bool.and_eq_true]at ho;obtain⟨I,J,M,G⟩:=ho;have e:=E6 J;have:=Br I;cases hd:Bj R i with
 | some d=>rw[hd]at G;cases G
 | none=>
  rw[hd]at this;refine RWP.unit this rfl ?_ k;rw[e];exact JP hx hp M hC
theorem Cl'{fid:FuncId}{args:List Value}{post:Mem->Value->Prop}(hok:Ah P fid)(hs:HS w0 F0 w F L)(hc:Calls P fid args.toArray w (AE w F post))
  (k:∀ v F1 w1,HS w0 F0 w1 F1 L->Abh F F1->post F1 v->RWP P ro n R Q rest (Bd f (Bj R i) v) w1) (ha:clV f (An R i)=some (fid,args):=by kernel_rfl) (ho:ung R i=true:=by kernel_rfl):RWP P ro n R Q (i::rest) f w:=by
 refine Abf (Br ho) rfl (N5 ha hok) hc ?_;rintro e w' ⟨r,F',rfl,G,I⟩;exact k r F' w' (hs.call G) G.le I
theorem Cg{fid:FuncId}{args:List Value}{post:Mem->Value->Prop}{b c:Bool}(hg:c=b)(hok:Ah P fid)(hs:HS w0 F0 w F L)(hc:Calls P fid args.toArray w (AE w F post))
  (k:∀ v F1 w1,HS w0 F0 w1 F1 L->Abh F F1->post F1 v->RWP P ro n R Q rest (Bd f (Bj R i) v) w1) (ha:clV f (An R i)=some (fid,args):=by kernel_rfl)
  (ho:P1 R (gj R [i]) b i=true:=by kernel_rfl) (hj:Hh R (gj R [i])=some (gq R [i]):=by kernel_rfl) (hf:f (gq R [i])=.bool c:=by kernel_rfl):RWP P ro n R Q (i::rest) f w:=by
 have hE:∀ e w',AE w F post e w'->match e with
   | .returned v=>RWP P ro n R Q rest (Bd f (Bj R i) v) w'
   | .panicked chain=>Q (.panic chain) f w'
   | .outgrown=>False:=by
  rintro e w' ⟨r,F',rfl,G,I⟩;exact k r F' w' (hs.call G) G.le I
 rcases Qr ho with e | e
 ·exact Abf e rfl (N5 ha hok) hc hE
 ·exact Abf e (J2 hj hf hg) (N5 ha hok) hc hE
theorem CB{fid:FuncId}{args:List Value}{wb:World}{Fb:Mem}{post:Mem->Value->Own->Prop}(hok:Ah P fid)(hc:Calls P fid args.toArray w (GQ wb Fb F post))
  (k:∀ v F1 w1 L',HS wb Fb w1 F1 L'->Abh F F1->post F1 v L'->RWP P ro n R Q rest (Bd f (Bj R i) v) w1) (ha:clV f (An R i)=some (fid,args):=by kernel_rfl) (ho:ung R i=true:=by kernel_rfl):RWP P ro n R Q (i::rest) f w:=by
 refine Abf (Br ho) rfl (N5 ha hok) hc ?_;rintro e w' ⟨F',r,L',rfl,G,I,J⟩;exact k r F' w' L' G I J
def clQ(f:Fr):Op->Option (FuncId×List Value)
 | .call c=>(match c.callee with
  | .value f0=>(match fev f f0 with
   | .func (.func g) fi ca=>some (g,fi.toList++(c.args.toList.map (fev f)++ca.toList))
   | _=>none)
  | _=>none)
 | _=>none
theorem Aax(f:Fr)(op:Op):clQ f op=clV f op:=by
 unfold clQ clV;split <;> try rfl
 split <;> try rfl
 split <;> try rfl
 simp[List.append_assoc]
theorem Cq{fid:FuncId}{args:List Value}{post:Mem->Value->Prop}(hok:Ah P fid)(hs:HS w0 F0 w F L)(hc:Calls P fid args.toArray w (AE w F post))
  (k:∀ v F1 w1,HS w0 F0 w1 F1 L->Abh F F1->post F1 v->RWP P ro n R Q rest (Bd f (Bj R i) v) w1) (ha:clQ f (An R i)=some (fid,args):=by kernel_rfl) (ho:ung R i=true:=by kernel_rfl):RWP P ro n R Q (i::rest) f w:=Cl' hok hs hc k (Aax f _ ▸ ha) ho
theorem Go(m:Nat){fid:FuncId}{fn:Func}{args:List Value}{S:Ending->World->Prop}(hf:P.funcs[fid]? =some fn)(h:CWP P none m (Rq fn) (AaG P fn.results S) (f0 args) w)
  (hk:(Nat.beq fn.ntmps m&&(decide (args.length<=m)&&isS fn.body))=true:=by kernel_rfl):Calls P fid args.toArray w S:=by
 simp only[Bool.and_eq_true]at hk;have G:=KY (d:=.skip) hk.2.2;exact Rc hf G (Nat.eq_of_beq_eq_true hk.1) hk.2.1 h
theorem Sd{α:Type}{t:Bool}{x y r:α}(h:(bif t then x else y)=r){PQ:List PanicEntry->List Deferred->World->Prop}{Post:Fr->World->Prop}{z:Nat}{Sw:Bool->World->Prop}{fuel:Nat}{l:List Bool}
  (ht:t=true->x=r->DWP P n R PQ Post z Sw fuel l f w) (hf:t=false->y=r->DWP P n R PQ Post z Sw fuel l f w):DWP P n R PQ Post z Sw fuel l f w:=
 DWP.split t (fun e=>ht e (S3 h e)) (fun e=>hf e (S4 h e))
variable {c : Code} {Q' : Exit -> Fr -> World -> Prop}
theorem Cd{α:Type}{t:Bool}{x y r:α}(h:(bif t then x else y)=r)(ht:t=true->x=r->CWP P ro n (Ya c) Q f w)(hf:t=false->y=r->CWP P ro n (Yb c) Q f w)(hc:fev f (Vd c)=.bool t:=by kernel_rfl)(hk:kin c=4:=by kernel_rfl):CWP P ro n c Q f w:=
 CWP.cond hk hc (fun e=>ht e (S3 h e)) (fun e=>hf e (S4 h e))
theorem Cp(t:Bool)(ht:t=true->CWP P ro n (Ya c) Q f w)(hf:t=false->CWP P ro n (Yb c) Q f w)(hc:fev f (Vd c)=.bool t:=by kernel_rfl)(hk:kin c=4:=by kernel_rfl):CWP P ro n c Q f w:=CWP.cond hk hc ht hf
theorem C1{t:Bool}(e:t=true)(h:CWP P ro n (Ya c) Q f w)(hc:fev f (Vd c)=.bool t:=by kernel_rfl)(hk:kin c=4:=by kernel_rfl):CWP P ro n c Q f w:=CWP.cond1 hk hc e h
theorem C0{t:Bool}(e:t=false)(h:CWP P ro n (Yb c) Q f w)(hc:fev f (Vd c)=.bool t:=by kernel_rfl)(hk:kin c=4:=by kernel_rfl):CWP P ro n c Q f w:=CWP.cond0 hk hc e h
theorem Sp{α:Type}{t:Bool}{x y r:α}(h:(bif t then x else y)=r){l:List Nat}(ht:t=true->x=r->RWP P ro n R Q l f w)(hf:t=false->y=r->RWP P ro n R Q l f w):RWP P ro n R Q l f w:=
 Abm t (fun e=>ht e (S3 h e)) (fun e=>hf e (S4 h e))
theorem Rt(h:Q .ret f w)(hk:kin c=8:=by kernel_rfl):CWP P ro n c Q f w:=CWP.ret hk h
theorem Ex(h:Q (.exit (cid c)) f w)(hk:kin c=7:=by kernel_rfl):CWP P ro n c Q f w:=CWP.exit hk h
end
def Wf(f:Fr):List ResultVar->Option (List Value)
 | []=>some []
 | .tmp t::rs=>(match Wf f rs with | some l=>some (f t::l) | none=>none)
 | _=>none
theorem Ow{P:Program}{w:World}{f:Fr}:∀{rs:List ResultVar} {vs:List Value},Wf f rs=some vs->Ym P w f rs vs
 | [],_,h=>by cases h;trivial
 | .tmp t::rs,vs,h=>by
  unfold Wf at h;split at h
  ·rename_i l hl;cases h;exact⟨rfl,Ow hl⟩
  ·cases h
 | .cell _ _::rs,vs,h=>by simp[Wf]at h
theorem Re{P:Program}{rs:Array ResultVar}{w w0:World}{F0 F:Mem}{f:Fr}{L:List (Option Nat×Obj)}{post:Mem->Value->Prop}(vs:List Value)(hs:HS w0 F0 w F L)(hp:post F (MD vs))(hr:Wf f rs.toList=some vs:=by kernel_rfl)(hd:f.d=[]:=by kernel_rfl):
  f.d=[]/\ ∃ v,(EF rs f).run P w=.ok v w/\AE w0 F0 post (.returned v) w:=
 ⟨hd,MD vs,AL rfl (Ow hr),MD vs,F,rfl,hs.clear,hp⟩
theorem ReB{P:Program}{rs:Array ResultVar}{w wb:World}{Fb F0 F:Mem}{f:Fr}{L:Own}{post:Mem->Value->Own->Prop}(vs:List Value)(hs:HS wb Fb w F L)(hl:Abh F0 F)(hp:post F (MD vs) L)(hr:Wf f rs.toList=some vs:=by kernel_rfl)(hd:f.d=[]:=by kernel_rfl):
  f.d=[]/\ ∃ v,(EF rs f).run P w=.ok v w/\GQ wb Fb F0 post (.returned v) w:=
 ⟨hd,MD vs,AL rfl (Ow hr),F,MD vs,L,rfl,hs,hl,hp⟩
section
variable {w0 w : World} {F0 F : Mem} {L : List (Option Nat × Obj)} {e : Option Nat × Obj}
theorem HS.dr0(h:HS w0 F0 w F (e::L)):HS w0 F0 w F (L):=h.drop 0
theorem HS.at0{b:Nat}{o:Obj}(h:HS w0 F0 w F ((some b,o)::L)):w.heap[b]? =some o:=h.ownAt (k:=0) rfl
theorem HS.fc0{b:Nat}{o:Obj}(h:HS w0 F0 w F ((some b,o)::L)):∃ F1,HS w0 F0 w F1 (L)/\Abh F F1/\F1 b=some o:=h.freezeC (k:=0) rfl
theorem HS.fr0{α:Type}{T:Ty α}{E:TypeId}{a:AbD}{cap:Nat}{l:List α}(h:HS w0 F0 w F (e::L))(hr:Aq T E F a cap l e):∃ F1,HS w0 F0 w F1 (L)/\Abh F F1/\SlA T F1 a l:=h.freezeRow (k:=0) rfl hr
theorem HS.rd0{α:Type}{T:Ty α}{E:TypeId}{a:AbD}{cap:Nat}{l:List α}(h:HS w0 F0 w F (e::L))(hr:Aq T E F a cap l e):Rd T F w a l:=Aq.rd h (k:=0) rfl hr
theorem HS.dr1{G:Option Nat×Obj}(h:HS w0 F0 w F (G::e::L)):HS w0 F0 w F (G::L):=h.drop 1
theorem HS.pk1{G:Option Nat×Obj}(h:HS w0 F0 w F (G::e::L)):HS w0 F0 w F (e::G::L):=h.pick (k:=1) rfl
theorem HS.at1{G:Option Nat×Obj}{b:Nat}{o:Obj}(h:HS w0 F0 w F (G::(some b,o)::L)):w.heap[b]? =some o:=h.ownAt (k:=1) rfl
theorem HS.fc1{G:Option Nat×Obj}{b:Nat}{o:Obj}(h:HS w0 F0 w F (G::(some b,o)::L)):∃ F1,HS w0 F0 w F1 (G::L)/\Abh F F1/\F1 b=some o:=h.freezeC (k:=1) rfl
theorem HS.fr1{G:Option Nat×Obj}{α:Type}{T:Ty α}{E:TypeId}{a:AbD}{cap:Nat}{l:List α}(h:HS w0 F0 w F (G::e::L))(hr:Aq T E F a cap l e):∃ F1,HS w0 F0 w F1 (G::L)/\Abh F F1/\SlA T F1 a l:=h.freezeRow (k:=1) rfl hr
theorem HS.dr2{G I:Option Nat×Obj}(h:HS w0 F0 w F (G::I::e::L)):HS w0 F0 w F (G::I::L):=h.drop 2
theorem HS.pk2{G I:Option Nat×Obj}(h:HS w0 F0 w F (G::I::e::L)):HS w0 F0 w F (e::G::I::L):=h.pick (k:=2) rfl
theorem HS.at2{G I:Option Nat×Obj}{b:Nat}{o:Obj}(h:HS w0 F0 w F (G::I::(some b,o)::L)):w.heap[b]? =some o:=h.ownAt (k:=2) rfl
theorem HS.dr3{G I J:Option Nat×Obj}(h:HS w0 F0 w F (G::I::J::e::L)):HS w0 F0 w F (G::I::J::L):=h.drop 3
theorem HS.pk3{G I J:Option Nat×Obj}(h:HS w0 F0 w F (G::I::J::e::L)):HS w0 F0 w F (e::G::I::J::L):=h.pick (k:=3) rfl
theorem HS.at3{G I J:Option Nat×Obj}{b:Nat}{o:Obj}(h:HS w0 F0 w F (G::I::J::(some b,o)::L)):w.heap[b]? =some o:=h.ownAt (k:=3) rfl
theorem HS.dr4{G I J M:Option Nat×Obj}(h:HS w0 F0 w F (G::I::J::M::e::L)):HS w0 F0 w F (G::I::J::M::L):=h.drop 4
theorem HS.pk4{G I J M:Option Nat×Obj}(h:HS w0 F0 w F (G::I::J::M::e::L)):HS w0 F0 w F (e::G::I::J::M::L):=h.pick (k:=4) rfl
theorem HS.at4{G I J M:Option Nat×Obj}{b:Nat}{o:Obj}(h:HS w0 F0 w F (G::I::J::M::(some b,o)::L)):w.heap[b]? =some o:=h.ownAt (k:=4) rfl
theorem HS.dr5{G I J M O:Option Nat×Obj}(h:HS w0 F0 w F (G::I::J::M::O::e::L)):HS w0 F0 w F (G::I::J::M::O::L):=h.drop 5
theorem HS.pk5{G I J M O:Option Nat×Obj}(h:HS w0 F0 w F (G::I::J::M::O::e::L)):HS w0 F0 w F (e::G::I::J::M::O::L):=h.pick (k:=5) rfl
theorem HS.at5{G I J M O:Option Nat×Obj}{b:Nat}{o:Obj}(h:HS w0 F0 w F (G::I::J::M::O::(some b,o)::L)):w.heap[b]? =some o:=h.ownAt (k:=5) rfl
theorem HS.pk6{G I J M O e5:Option Nat×Obj}(h:HS w0 F0 w F (G::I::J::M::O::e5::e::L)):HS w0 F0 w F (e::G::I::J::M::O::e5::L):=h.pick (k:=6) rfl
theorem HS.at6{G I J M O e5:Option Nat×Obj}{b:Nat}{o:Obj}(h:HS w0 F0 w F (G::I::J::M::O::e5::(some b,o)::L)):w.heap[b]? =some o:=h.ownAt (k:=6) rfl
theorem HS.pk7{G I J M O e5 Y:Option Nat×Obj}(h:HS w0 F0 w F (G::I::J::M::O::e5::Y::e::L)):HS w0 F0 w F (e::G::I::J::M::O::e5::Y::L):=h.pick (k:=7) rfl
variable {P : Program} {ro : Option Nat} {n : Nat} {R : Array Oper} {Q : Exit -> Fr -> World -> Prop} {i : Nat} {rest : List Nat} {f : Fr} {α : Type} {T : Ty α} {E : TypeId} {a : AbD} {cap : Nat} {l m : List α}
def apX:Op->Operand | .call c=>c.args[0]?.getD (.tmp 0) | _=>.tmp 0
def apY:Op->Operand | .call c=>c.args[1]?.getD (.tmp 0) | _=>.tmp 0
def apK(P:Program)(E:TypeId)(sz:Nat):Op->Bool
 | .call c=>(match c.callee with
  | .builtin .append=>(match c.args.toList,c.argTypes.toList with
   | [_,_],[t,t2]=>(match BJ P t,B4 P E with
    | some (E',s,by_),some z=>Nat.beq E E'&&(Nat.beq s sz&&(decide (by_<=1024)&&(QK P t2&&Nat.beq z.cells.size sz)))
    | _,_=>false)
   | _,_=>false)
  | _=>false)
 | _=>false
theorem Il{op:Op}{sz:Nat}(h:apK P E sz op=true):∃ t t2 by_ z,op=.call {callee:=.builtin .append,args:=#[apX op,apY op],argTypes:=#[t,t2]}/\BJ P t=some (E,sz,by_)/\decide (by_<=1024)=true/\QK P t2=true/\B4 P E=some z/\z.cells.size=sz:=by
 unfold apK at h;split at h
 ·rename_i c;obtain⟨callee,aos,ats⟩:=c;simp only at h;split at h
  ·split at h
   ·rename_i x y t t2 J M;split at h
    ·rename_i E' s by_ z he hz;simp only[Bool.and_eq_true]at h;obtain⟨G,I,O,Y,e5⟩:=h;have G:=Nat.eq_of_beq_eq_true G;have I:=Nat.eq_of_beq_eq_true I;subst G;subst I;have ha:aos=#[x,y]:=by cases aos;simpa using J
     have hb:ats=#[t,t2]:=by cases ats;simpa using M
     subst ha;subst hb;exact⟨t,t2,by_,z,rfl,he,O,Y,hz,Nat.eq_of_beq_eq_true e5⟩
    ·cases h
   ·cases h
  ·cases h
 ·cases h
theorem St0{b:Nat}{C:Array Value}{E:TypeId}(C':Array Value)(hs:HS w0 F0 w F ((some b,.cells C E (0,0))::L))(k:∀ w',HS w0 F0 w' F ((some b,.cells C' E (0,0))::L)->RWP P ro n R Q rest f w')
  (hx:fev f (stX (An R i))=.pointer (some ⟨b,pO (fev f (stX (An R i))),none⟩):=by kernel_rfl) (hC:Ek C (pO (fev f (stX (An R i)))) (fev f (stY (An R i))).cells.toList=C':=by kernel_rfl)
  (ho:(ung R i&&(KE (An R i)&&(Eo P (stT (An R i)) (fev f (stY (An R i))) (pO (fev f (stX (An R i)))) C&&(match Bj R i with | none=>true | some _=>false))))=true:=by kernel_rfl):RWP P ro n R Q (i::rest) f w:=
 Na (hs.ownAt (k:=0) rfl) (k _ (hs.put (k:=0) rfl _)) hx hC ho
theorem Ap0{a2:AbD}(G:T.One)(hs:HS w0 F0 w F (e::L))(hr:Aq T E F a cap l e)(hm:Rd T F w a2 m){r:List α}(hap:Cv l m=some r)
  (k:∀ a' cap' e' w',HS w0 F0 w' F (e'::L)->Aq T E F a' cap' r e'->RWP P ro n R Q rest (Bd f (Bj R i) (.slice a' r.length cap')) w')
  (hx:fev f (apX (An R i))=.slice a l.length cap:=by kernel_rfl) (hy:fev f (apY (An R i))=.slice a2 m.length (sC (fev f (apY (An R i)))):=by kernel_rfl) (ho:(ung R i&&apK P E T.sz (An R i))=true:=by kernel_rfl):RWP P ro n R Q (i::rest) f w:=by
 simp only[Bool.and_eq_true]at ho;obtain⟨t,t2,by_,z,I,he,hb,hni,hz,hzs⟩:=Il ho.2;have:=Br ho.1;rw[I]at this;exact RWP.append this rfl hx hy he hb hni hz hzs G hs (k:=0) rfl hr hm hap k
theorem St1{G:Option Nat×Obj}{b:Nat}{C:Array Value}{E:TypeId}(C':Array Value)(hs:HS w0 F0 w F (G::(some b,.cells C E (0,0))::L))(k:∀ w',HS w0 F0 w' F (G::(some b,.cells C' E (0,0))::L)->RWP P ro n R Q rest f w')
  (hx:fev f (stX (An R i))=.pointer (some ⟨b,pO (fev f (stX (An R i))),none⟩):=by kernel_rfl) (hC:Ek C (pO (fev f (stX (An R i)))) (fev f (stY (An R i))).cells.toList=C':=by kernel_rfl)
  (ho:(ung R i&&(KE (An R i)&&(Eo P (stT (An R i)) (fev f (stY (An R i))) (pO (fev f (stX (An R i)))) C&&(match Bj R i with | none=>true | some _=>false))))=true:=by kernel_rfl):RWP P ro n R Q (i::rest) f w:=
 Na (hs.ownAt (k:=1) rfl) (k _ (hs.put (k:=1) rfl _)) hx hC ho
theorem Ap1{G:Option Nat×Obj}{a2:AbD}(I:T.One)(hs:HS w0 F0 w F (G::e::L))(hr:Aq T E F a cap l e)(hm:Rd T F w a2 m){r:List α}(hap:Cv l m=some r)
  (k:∀ a' cap' e' w',HS w0 F0 w' F (G::e'::L)->Aq T E F a' cap' r e'->RWP P ro n R Q rest (Bd f (Bj R i) (.slice a' r.length cap')) w')
  (hx:fev f (apX (An R i))=.slice a l.length cap:=by kernel_rfl) (hy:fev f (apY (An R i))=.slice a2 m.length (sC (fev f (apY (An R i)))):=by kernel_rfl) (ho:(ung R i&&apK P E T.sz (An R i))=true:=by kernel_rfl):RWP P ro n R Q (i::rest) f w:=by
 simp only[Bool.and_eq_true]at ho;obtain⟨t,t2,by_,z,J,he,hb,hni,hz,hzs⟩:=Il ho.2;have:=Br ho.1;rw[J]at this;exact RWP.append this rfl hx hy he hb hni hz hzs I hs (k:=1) rfl hr hm hap k
theorem St2{G I:Option Nat×Obj}{b:Nat}{C:Array Value}{E:TypeId}(C':Array Value)(hs:HS w0 F0 w F (G::I::(some b,.cells C E (0,0))::L))(k:∀ w',HS w0 F0 w' F (G::I::(some b,.cells C' E (0,0))::L)->RWP P ro n R Q rest f w')
  (hx:fev f (stX (An R i))=.pointer (some ⟨b,pO (fev f (stX (An R i))),none⟩):=by kernel_rfl) (hC:Ek C (pO (fev f (stX (An R i)))) (fev f (stY (An R i))).cells.toList=C':=by kernel_rfl)
  (ho:(ung R i&&(KE (An R i)&&(Eo P (stT (An R i)) (fev f (stY (An R i))) (pO (fev f (stX (An R i)))) C&&(match Bj R i with | none=>true | some _=>false))))=true:=by kernel_rfl):RWP P ro n R Q (i::rest) f w:=
 Na (hs.ownAt (k:=2) rfl) (k _ (hs.put (k:=2) rfl _)) hx hC ho
theorem Ap2{I G:Option Nat×Obj}{a2:AbD}(J:T.One)(hs:HS w0 F0 w F (I::G::e::L))(hr:Aq T E F a cap l e)(hm:Rd T F w a2 m){r:List α}(hap:Cv l m=some r)
  (k:∀ a' cap' e' w',HS w0 F0 w' F (I::G::e'::L)->Aq T E F a' cap' r e'->RWP P ro n R Q rest (Bd f (Bj R i) (.slice a' r.length cap')) w')
  (hx:fev f (apX (An R i))=.slice a l.length cap:=by kernel_rfl) (hy:fev f (apY (An R i))=.slice a2 m.length (sC (fev f (apY (An R i)))):=by kernel_rfl) (ho:(ung R i&&apK P E T.sz (An R i))=true:=by kernel_rfl):RWP P ro n R Q (i::rest) f w:=by
 simp only[Bool.and_eq_true]at ho;obtain⟨t,t2,by_,z,G,he,hb,hni,hz,hzs⟩:=Il ho.2;have:=Br ho.1;rw[G]at this;exact RWP.append this rfl hx hy he hb hni hz hzs J hs (k:=2) rfl hr hm hap k
theorem St3{G I J:Option Nat×Obj}{b:Nat}{C:Array Value}{E:TypeId}(C':Array Value)(hs:HS w0 F0 w F (G::I::J::(some b,.cells C E (0,0))::L))(k:∀ w',HS w0 F0 w' F (G::I::J::(some b,.cells C' E (0,0))::L)->RWP P ro n R Q rest f w')
  (hx:fev f (stX (An R i))=.pointer (some ⟨b,pO (fev f (stX (An R i))),none⟩):=by kernel_rfl) (hC:Ek C (pO (fev f (stX (An R i)))) (fev f (stY (An R i))).cells.toList=C':=by kernel_rfl)
  (ho:(ung R i&&(KE (An R i)&&(Eo P (stT (An R i)) (fev f (stY (An R i))) (pO (fev f (stX (An R i)))) C&&(match Bj R i with | none=>true | some _=>false))))=true:=by kernel_rfl):RWP P ro n R Q (i::rest) f w:=
 Na (hs.ownAt (k:=3) rfl) (k _ (hs.put (k:=3) rfl _)) hx hC ho
theorem St5{G I J M O:Option Nat×Obj}{b:Nat}{C:Array Value}{E:TypeId}(C':Array Value)(hs:HS w0 F0 w F (G::I::J::M::O::(some b,.cells C E (0,0))::L))(k:∀ w',HS w0 F0 w' F (G::I::J::M::O::(some b,.cells C' E (0,0))::L)->RWP P ro n R Q rest f w')
  (hx:fev f (stX (An R i))=.pointer (some ⟨b,pO (fev f (stX (An R i))),none⟩):=by kernel_rfl) (hC:Ek C (pO (fev f (stX (An R i)))) (fev f (stY (An R i))).cells.toList=C':=by kernel_rfl)
  (ho:(ung R i&&(KE (An R i)&&(Eo P (stT (An R i)) (fev f (stY (An R i))) (pO (fev f (stX (An R i)))) C&&(match Bj R i with | none=>true | some _=>false))))=true:=by kernel_rfl):RWP P ro n R Q (i::rest) f w:=
 Na (hs.ownAt (k:=5) rfl) (k _ (hs.put (k:=5) rfl _)) hx hC ho
theorem Ap5{I G J M O:Option Nat×Obj}{a2:AbD}(Y:T.One)(hs:HS w0 F0 w F (I::G::J::M::O::e::L))(hr:Aq T E F a cap l e)(hm:Rd T F w a2 m){r:List α}(hap:Cv l m=some r)
  (k:∀ a' cap' e' w',HS w0 F0 w' F (I::G::J::M::O::e'::L)->Aq T E F a' cap' r e'->RWP P ro n R Q rest (Bd f (Bj R i) (.slice a' r.length cap')) w')
  (hx:fev f (apX (An R i))=.slice a l.length cap:=by kernel_rfl) (hy:fev f (apY (An R i))=.slice a2 m.length (sC (fev f (apY (An R i)))):=by kernel_rfl) (ho:(ung R i&&apK P E T.sz (An R i))=true:=by kernel_rfl):RWP P ro n R Q (i::rest) f w:=by
 simp only[Bool.and_eq_true]at ho;obtain⟨t,t2,by_,z,G,he,hb,hni,hz,hzs⟩:=Il ho.2;have:=Br ho.1;rw[G]at this;exact RWP.append this rfl hx hy he hb hni hz hzs Y hs (k:=5) rfl hr hm hap k
theorem St6{G I J M O e5:Option Nat×Obj}{b:Nat}{C:Array Value}{E:TypeId}(C':Array Value)(hs:HS w0 F0 w F (G::I::J::M::O::e5::(some b,.cells C E (0,0))::L))(k:∀ w',HS w0 F0 w' F (G::I::J::M::O::e5::(some b,.cells C' E (0,0))::L)->RWP P ro n R Q rest f w')
  (hx:fev f (stX (An R i))=.pointer (some ⟨b,pO (fev f (stX (An R i))),none⟩):=by kernel_rfl) (hC:Ek C (pO (fev f (stX (An R i)))) (fev f (stY (An R i))).cells.toList=C':=by kernel_rfl)
  (ho:(ung R i&&(KE (An R i)&&(Eo P (stT (An R i)) (fev f (stY (An R i))) (pO (fev f (stX (An R i)))) C&&(match Bj R i with | none=>true | some _=>false))))=true:=by kernel_rfl):RWP P ro n R Q (i::rest) f w:=
 Na (hs.ownAt (k:=6) rfl) (k _ (hs.put (k:=6) rfl _)) hx hC ho
theorem Ap6{I G J M O e5:Option Nat×Obj}{a2:AbD}(Y:T.One)(hs:HS w0 F0 w F (I::G::J::M::O::e5::e::L))(hr:Aq T E F a cap l e)(hm:Rd T F w a2 m){r:List α}(hap:Cv l m=some r)
  (k:∀ a' cap' e' w',HS w0 F0 w' F (I::G::J::M::O::e5::e'::L)->Aq T E F a' cap' r e'->RWP P ro n R Q rest (Bd f (Bj R i) (.slice a' r.length cap')) w')
  (hx:fev f (apX (An R i))=.slice a l.length cap:=by kernel_rfl) (hy:fev f (apY (An R i))=.slice a2 m.length (sC (fev f (apY (An R i)))):=by kernel_rfl) (ho:(ung R i&&apK P E T.sz (An R i))=true:=by kernel_rfl):RWP P ro n R Q (i::rest) f w:=by
 simp only[Bool.and_eq_true]at ho;obtain⟨t,t2,by_,z,G,he,hb,hni,hz,hzs⟩:=Il ho.2;have:=Br ho.1;rw[G]at this;exact RWP.append this rfl hx hy he hb hni hz hzs Y hs (k:=6) rfl hr hm hap k
theorem St7{G I J M O e5 Y:Option Nat×Obj}{b:Nat}{C:Array Value}{E:TypeId}(C':Array Value)(hs:HS w0 F0 w F (G::I::J::M::O::e5::Y::(some b,.cells C E (0,0))::L))(k:∀ w',HS w0 F0 w' F (G::I::J::M::O::e5::Y::(some b,.cells C' E (0,0))::L)->RWP P ro n R Q rest f w')
  (hx:fev f (stX (An R i))=.pointer (some ⟨b,pO (fev f (stX (An R i))),none⟩):=by kernel_rfl) (hC:Ek C (pO (fev f (stX (An R i)))) (fev f (stY (An R i))).cells.toList=C':=by kernel_rfl)
  (ho:(ung R i&&(KE (An R i)&&(Eo P (stT (An R i)) (fev f (stY (An R i))) (pO (fev f (stX (An R i)))) C&&(match Bj R i with | none=>true | some _=>false))))=true:=by kernel_rfl):RWP P ro n R Q (i::rest) f w:=
 Na (hs.ownAt (k:=7) rfl) (k _ (hs.put (k:=7) rfl _)) hx hC ho
end
section
variable {P : Program} {n : Nat} {R : Array Oper} {Q : Exit -> Fr -> World -> Prop} {PQ : List PanicEntry -> List Deferred -> World -> Prop} {Post : Fr -> World -> Prop} {z fuel : Nat} {Sw : Bool -> World -> Prop} {i : Nat} {f : Fr} {w w' w0 : World} {F0 F Fs : Mem} {l : List Bool} {L Lc Lz : List (Option Nat × Obj)} {e : Option Nat × Obj}
def rdy(R:Array Oper)(z i:Nat)(l:List Bool):Bool:=Region.free .any R l.toArray i&&((Region.ready .any R l.toArray).contains i&&Mf R z i)
def dvf(P:Program)(R:Array Oper):List Nat->Fr->Fr
 | [],f=>f
 | i::is,f=>dvf P R is (Bd f (Bj R i) ((pv P (fev f) (An R i)).getD undef))
def dvl:List Nat->List Bool->List Bool
 | [],l=>l
 | i::is,l=>dvl is (l.set i true)
def X8(P:Program)(R:Array Oper)(z:Nat):List Nat->List Bool->Fr->Bool
 | [],_,_=>true
 | i::is,l,f=>ung R i&&(isS (pv P (fev f) (An R i))&&(rdy R z i l&&X8 P R z is (l.set i true) (Bd f (Bj R i) ((pv P (fev f) (An R i)).getD undef))))
theorem Yr:∀(is:List Nat) {l:List Bool} {f:Fr} {fuel:Nat},DWP P n R PQ Post z Sw fuel (dvl is l) (dvf P R is f) w->X8 P R z is l f=true->DWP P n R PQ Post z Sw (fuel + is.length) l f w
 | [],_,_,_,k,_=>k
 | i::is,l,f,fuel,k,h=>by
  simp only[X8,rdy,Bool.and_eq_true]at h;obtain⟨G,I,⟨J,M,O⟩,Y⟩:=h;exact DWP.take (Br G) J M O rfl rfl (fun _ _=>SL (KY I)) rfl (Yr is k Y)
theorem Dv(is:List Nat){fu:Nat}(k:DWP P n R PQ Post z Sw (fu - is.length) (dvl is l) (dvf P R is f) w)(h:X8 P R z is l f=true:=by kernel_rfl)(hfu:Nat.beq fu ((fu - is.length) + is.length)=true:=by kernel_rfl):DWP P n R PQ Post z Sw fu l f w:=by
 have:=Nat.eq_of_beq_eq_true hfu;rw[this];exact Yr is k h
theorem Dvl(is:List Nat)(l':List Bool){fu:Nat}(k:DWP P n R PQ Post z Sw (fu - is.length) l' (dvf P R is f) w)(h:X8 P R z is l f=true:=by kernel_rfl)(hl:dvl is l=l':=by kernel_rfl)(hfu:Nat.beq fu ((fu - is.length) + is.length)=true:=by kernel_rfl):DWP P n R PQ Post z Sw fu l f w:=by
 subst hl;exact Dv is k h hfu
theorem DWP.tk{v:Value}(i:Nat){fu:Nat}(hy:∀ w',Sw (l.toArray.getD z true) w'->(Ar (fev f) (An R i) (HR R i)).run P w'=.ok (.value v) w')(k:DWP P n R PQ Post z Sw (fu - 1) (l.set i true) (Bd f (Bj R i) v) w)(ho:ung R i=true)(hr:rdy R z i l=true)
  (hfu:Nat.beq fu ((fu - 1) + 1)=true):DWP P n R PQ Post z Sw fu l f w:=by
 simp only[rdy,Bool.and_eq_true]at hr;have:=Nat.eq_of_beq_eq_true hfu;rw[this];exact DWP.take (Br ho) hr.1 hr.2.1 hr.2.2 rfl rfl hy rfl k
theorem Dl(i:Nat){fu b:Nat}{C:Array Value}{E:TypeId}{fz:Nat×Nat}(hp:∀ w',Sw (l.toArray.getD z true) w'->w'.heap[b]? =some (.cells C E fz))(k:DWP P n R PQ Post z Sw (fu - 1) (l.set i true) (Bd f (Bj R i) (ldV P (ldT (An R i)) C (pO (fev f (ldX (An R i)))))) w)
  (hx:fev f (ldX (An R i))=.pointer (some ⟨b,pO (fev f (ldX (An R i))),none⟩):=by kernel_rfl) (ho:(ung R i&&(T4 (An R i)&&ldK P (ldT (An R i)) C (pO (fev f (ldX (An R i))))))=true:=by kernel_rfl) (hr:rdy R z i l=true:=by kernel_rfl)
  (hfu:Nat.beq fu ((fu - 1) + 1)=true:=by kernel_rfl):DWP P n R PQ Post z Sw fu l f w:=by
 simp only[Bool.and_eq_true]at ho;refine DWP.tk i (fun w' hw=>?_) k ho.1 hr hfu;have:=HN ho.2.1;rw[this];exact UG hx (hp w' hw) ho.2.2
theorem Dx(i j:Nat){fu b o kk:Nat}{C:Array Value}{E:TypeId}{fz:Nat×Nat}{cs:List Value}(hp:∀ w',Sw (l.toArray.getD z true) w'->w'.heap[b]? =some (.cells C E fz))(hc:Av C o kk=cs)(k:DWP P n R PQ Post z Sw (fu - 1) (l.set i true) (Bd f (Bj R i) (lxV P (ldT (An R i)) cs j)) w)
  (hx:fev f (ldX (An R i))=.pointer (some ⟨b,o + j,none⟩):=by kernel_rfl) (ho:(ung R i&&(T4 (An R i)&&lxK P (ldT (An R i)) cs j kk))=true:=by kernel_rfl) (hr:rdy R z i l=true:=by kernel_rfl)
  (hfu:Nat.beq fu ((fu - 1) + 1)=true:=by kernel_rfl):DWP P n R PQ Post z Sw fu l f w:=by
 simp only[Bool.and_eq_true]at ho;refine DWP.tk i (fun w' hw=>?_) k ho.1 hr hfu;have:=HN ho.2.1;rw[this];exact UE hx (hp w' hw) hc ho.2.2
theorem Di(i:Nat){fu m:Nat}{q:Int}(hi:0<=q/\q < (m:Int))(k:DWP P n R PQ Post z Sw (fu - 1) (l.set i true) (Bd f (Bj R i) (.pointer (some ⟨sB (fev f (ixX (An R i))),sO (fev f (ixX (An R i))) + q.toNat * elS P (ixT (An R i)),none⟩))) w)
  (hx:fev f (ixX (An R i))=.slice (some ⟨sB (fev f (ixX (An R i))),sO (fev f (ixX (An R i))),none⟩) m (sC (fev f (ixX (An R i)))):=by kernel_rfl) (hy:fev f (ixY (An R i))=.int (iK (fev f (ixY (An R i)))) q:=by kernel_rfl)
  (ho:(ung R i&&(U6 (An R i)&&slQ P (ixT (An R i))))=true:=by kernel_rfl) (hr:rdy R z i l=true:=by kernel_rfl) (hfu:Nat.beq fu ((fu - 1) + 1)=true:=by kernel_rfl):DWP P n R PQ Post z Sw fu l f w:=by
 simp only[Bool.and_eq_true]at ho;refine DWP.tk i (fun w' hw=>?_) k ho.1 hr hfu;have e:=Jw ho.2.1;have:=W7 (P:=P) (w:=w') (ty:=HR R i) hi hx hy ho.2.2;rw[<-e]at this;exact this
theorem D1(i:Nat){fu:Nat}(h:AD P n R PQ Post z Sw (fu - 1) l i f w)(hr:Region.ready .any R l.toArray=[i]:=by kernel_rfl)(hfu:Nat.beq fu ((fu - 1) + 1)=true:=by kernel_rfl):DWP P n R PQ Post z Sw fu l f w:=by
 have:=Nat.eq_of_beq_eq_true hfu;rw[this];exact DWP.one hr h
theorem zdT{zd:Bool}{A:Prop}(h:zd=true):zd=false->A:=fun e=>by rw[h]at e;cases e
theorem DCl{fid:FuncId}{args:List Value}{post:Mem->Value->Prop}(hok:Ah P fid)(hs:HS w0 F0 w F L)(hc:Calls P fid args.toArray w (AE w F post))
  (k:∀ v F1 w1,HS w0 F0 w1 F1 L->Abh F F1->post F1 v->DWP P n R PQ Post z (DZ Fs Lc Lz) fuel (l.set i true) (Bd f (Bj R i) v) w1) (ha:clV f (An R i)=some (fid,args):=by kernel_rfl) (ho:ung R i=true:=by kernel_rfl)
  (hz:((l.set i true).toArray.getD z true==l.toArray.getD z true)=true:=by kernel_rfl):AD P n R PQ Post z (DZ Fs Lc Lz) fuel l i f w:=by
 cases e:An R i with
 | call c=>
  obtain⟨callee,aos,ats⟩:=c;have ho':=Br ho;rw[e]at ha ho';unfold clV at ha;simp only at ha;split at ha
  ·split at ha
   ·rename_i hf;simp only[Option.some.injEq,Prod.mk.injEq]at ha;obtain⟨rfl,rfl⟩:=ha;exact Abt rfl (by simpa using hz) rfl ho' rfl hf hok rfl hs hc k
   ·cases ha
  ·cases ha
 | _=>rw[e]at ha;simp[clV]at ha
theorem DBs(E:TypeId)(cs:List Value)(hs:HS w0 F0 w F L)(hle:Abh Fs F)(k:∀ b w',HS w0 F0 w' F ((some b,.cells cs.toArray E (0,0))::L)->DWP P n R PQ Post z (DZ Fs Lc Lz) fuel (l.set i true) (Bd f (Bj R i) (.slice (some ⟨b,0,none⟩) (bsL (An R i)) (bsL (An R i)))) w')
  (hb:bsV P f (An R i)=some (E,cs):=by kernel_rfl) (ho:ung R i=true:=by kernel_rfl) (hL:∀ p,p∈Lc->p∈L:=by simp) (hLz:(l.set i true).toArray.getD z true=false->∀ p,p∈Lz->p∈L:=by first | (intro _;simp;done) | exact zdT (by kernel_rfl)):AD P n R PQ Post z (DZ Fs Lc Lz) fuel l i f w:=by
 have:=Br ho;cases e:An R i with
 | buildSlice t len parts=>
  rw[e]at hb this k;exact AD.buildSlice rfl rfl this rfl rfl hb hs hle hL hLz k
 | _=>rw[e]at hb;simp[bsV]at hb
theorem DAl(t:TypeId)(C:Array Value)(hs:HS w0 F0 w F L)(hle:Abh Fs F)(k:∀ b w',HS w0 F0 w' F ((some b,.cells C t (0,0))::L)->DWP P n R PQ Post z (DZ Fs Lc Lz) fuel (l.set i true) (Bd f (Bj R i) (.pointer (some ⟨b,0,none⟩))) w')
  (hC:(B4 P t).map Value.cells=some C:=by kernel_rfl) (ho:(ung R i&&Zj t (An R i))=true:=by kernel_rfl) (hL:∀ p,p∈Lc->p∈L:=by simp) (hLz:(l.set i true).toArray.getD z true=false->∀ p,p∈Lz->p∈L:=by first | (intro _;simp;done) | exact zdT (by kernel_rfl)):AD P n R PQ Post z (DZ Fs Lc Lz) fuel l i f w:=by
 simp only[Bool.and_eq_true]at ho;cases hz:B4 P t with
 | none=>rw[hz]at hC;cases hC
 | some z=>
  rw[hz]at hC;simp only[Option.map_some,Option.some.injEq]at hC;have e:=Sl ho.2;have:=Br ho.1;rw[e]at this;exact AD.alloc rfl rfl this rfl hz hC hs hle hL hLz k
theorem DBx(t:TypeId)(C:Array Value)(hs:HS w0 F0 w F L)(hle:Abh Fs F)(k:∀ b w',HS w0 F0 w' F ((some b,.cells C t (0,0))::L)->DWP P n R PQ Post z (DZ Fs Lc Lz) fuel (l.set i true) (Bd f (Bj R i) (.pointer (some ⟨b,0,none⟩))) w')
  (hC:(fev f (bxX (An R i))).cells=C:=by kernel_rfl) (ho:(ung R i&&Zi t (An R i))=true:=by kernel_rfl) (hL:∀ p,p∈Lc->p∈L:=by simp) (hLz:(l.set i true).toArray.getD z true=false->∀ p,p∈Lz->p∈L:=by first | (intro _;simp;done) | exact zdT (by kernel_rfl)):AD P n R PQ Post z (DZ Fs Lc Lz) fuel l i f w:=by
 simp only[Bool.and_eq_true]at ho;have e:=Sk ho.2;have:=Br ho.1;rw[e]at this;exact AD.box rfl rfl this rfl rfl hC hs hle hL hLz k
theorem DCB{fid:FuncId}{args:List Value}{wb:World}{Fb:Mem}{post:Mem->Value->Own->Prop}(hok:Ah P fid)(hc:Calls P fid args.toArray w (GQ wb Fb F post))
  (k:∀ v F1 w1 L',HS wb Fb w1 F1 L'->Abh F F1->post F1 v L'->DZ Fs Lc Lz ((l.set i true).toArray.getD z true) w1/\DWP P n R PQ Post z (DZ Fs Lc Lz) fuel (l.set i true) (Bd f (Bj R i) v) w1) (ha:clV f (An R i)=some (fid,args):=by kernel_rfl) (ho:ung R i=true:=by kernel_rfl):AD P n R PQ Post z (DZ Fs Lc Lz) fuel l i f w:=by
 cases e:An R i with
 | call c=>
  obtain⟨callee,aos,ats⟩:=c;have ho':=Br ho;rw[e]at ha ho';unfold clV at ha;simp only at ha;split at ha
  ·split at ha
   ·rename_i hf;simp only[Option.some.injEq,Prod.mk.injEq]at ha;obtain⟨rfl,rfl⟩:=ha;exact AD.callB rfl rfl ho' rfl hf hok rfl hc k
   ·cases ha
  ·cases ha
 | _=>rw[e]at ha;simp[clV]at ha
def fls:Nat->List Bool
 | 0=>[]
 | n + 1=>false::fls n
variable {c : Code}
def Y2(R:Array Oper):Bool:=R.all fun o=>!PO o.op
def Z0(P:Program)(n m:Nat)(c:Code):Bool:=Nat.beq (kin c) 2&&(okR n (OO c)&&(Region.noSelect (OO c)&&(Y2 (OO c)&&Nat.beq (OO c).size m)))
theorem Aao:∀ n,Array.replicate n false=(fls n).toArray:=fun n=>by
 have:List.replicate n false=fls n:=by induction n with
  | zero=>rfl
  | succ n ih=>rw[List.replicate_succ,ih];rfl
 rw[<-this];simp
theorem YZ{R:Array Oper}(hd:Y2 R=true)(ro:Option Nat){Q:Exit->Act->World->Prop}{i:Nat}{K K':Act->World->Prop}(hK:∀ a w,K a w->K' a w){a:Act}{w:World}(h:wpOpIn (FW none) 0 P R Q i K a w):wpOpIn (FW ro) 0 P R Q i K' a w:=by
 have h:=wpOpIn_mono hK h;unfold wpOpIn at h ⊢;cases ho:R[i]? with
 | none=>simp only[ho]at h ⊢;exact h
 | some o=>
  simp only[ho]at h ⊢;split
  ·rename_i hw;simp only[hw,if_true]at h;have hi:i < R.size:=by
    rcases Nat.lt_or_ge i R.size with h' | h'
    ·exact h'
    ·simp[Array.getElem?_eq_none h']at ho
   have hnd:PO o.op=false:=by
    unfold Y2 at hd;rw[Array.all_eq_true]at hd;have:=hd i hi;have e:R[i]=o:=by simpa [Array.getElem?_eq_getElem hi]using ho
    rw[e]at this;simpa using this
   unfold Oper.wpIn at h ⊢;refine⟨fun _ _=>trivial,?_⟩;have e:∀ r,Oper.semAt r a.eval o=execOp a.eval o:=fun r=>KN hnd r a.eval o rfl;have G:=h.2;rw[e]at G ⊢;exact G
  ·rename_i hw;simp only[hw,if_false]at h;exact⟨fun _ _=>trivial,h.2⟩
theorem Yg{R:Array Oper}(hd:Y2 R=true)(ro:Option Nat){Q:Exit->Act->World->Prop}:∀(fuel:Nat)(l:Array Bool)(a:Act)(w:World),wpAnyIn (FW none) 0 P .any R Q fuel l a w->wpAnyIn (FW ro) 0 P .any R Q fuel l a w
 | 0,_,_,_,h=>h
 | fuel + 1,_,_,_,h=>⟨h.1,fun i hi=>YZ hd ro (fun a w=>Yg hd ro fuel _ a w) (h.2 i hi)⟩
variable {ro : Option Nat}
theorem RDP(z m:Nat)(Lc Lz:List (Option Nat×Obj))(hs:HS w0 F0 w F L)(PQ:List PanicEntry->List Deferred->World->Prop)(Post:Fr->World->Prop)
  (h:∀ w',HS w0 F0 w' F L->DWP P n (OO c) PQ Post z (DZ F Lc Lz) m (fls m) f w') (k:∀ f w,Post f w->Q .normal f w) (kp:∀ c f w,PQ c f.d w->Q (.panic c) f w) (hm:P.follows .mixedOrders=true:=by kernel_rfl) (ho:Z0 P n m c=true:=by kernel_rfl) (hc:∀ p,p∈Lc->p∈L:=by simp) (hz:∀ p,p∈Lz->p∈L:=by simp):CWP P ro n c Q f w:=by
 simp only[Z0,Bool.and_eq_true]at ho;obtain⟨hk,hok,hns,hnd,hfu⟩:=ho
 replace hk:=Nat.eq_of_beq_eq_true hk
 replace hfu:=Nat.eq_of_beq_eq_true hfu
 subst hfu;cases c <;> simp[kin]at hk;rename_i id ops d;cases d <;> simp[kin]at hk;intro a ha;have hs':HS w0 F0 {w with drawn:=w.drawn + 1} F L:=hs.heap rfl;refine wpIn_mono (wpIn_region_any hm (Yg hnd ro _ _ _ _ (PV (z:=z) (S:=DZ F Lc Lz) _ _ _ _ ?_))) (Q:=lq n (nq PQ Post)) ?_
 ·simp only[OO]at *
  rw[Aao];exact h _ hs' hok hns (BA hs' (Abi F) hc fun _=>hz) a ha
 ·rintro e a w ⟨f,hf,hP⟩;cases e with
  | normal=>exact⟨f,hf,k _ _ hP⟩
  | panic c=>exact⟨f,hf,kp _ _ _ hP⟩
  | _=>exact hP.elim
theorem RD(z m:Nat)(Lc Lz:List (Option Nat×Obj))(hs:HS w0 F0 w F L)(Post:Fr->World->Prop)
  (h:∀ w',HS w0 F0 w' F L->DWP P n (OO c) (fun _ _ _=>False) Post z (DZ F Lc Lz) m (fls m) f w') (k:∀ f w,Post f w->Q .normal f w) (hm:P.follows .mixedOrders=true:=by kernel_rfl) (ho:Z0 P n m c=true:=by kernel_rfl) (hc:∀ p,p∈Lc->p∈L:=by simp) (hz:∀ p,p∈Lz->p∈L:=by simp):CWP P ro n c Q f w:=
 RDP z m Lc Lz hs (fun _ _ _=>False) Post h k (fun _ _ _ h=>h.elim) hm ho hc hz
variable {α : Type} {T : Ty α} {E : TypeId} {a : AbD} {cap : Nat} {ls m : List α}
theorem Fc{b:Nat}{C:Array Value}{E:TypeId}(C':Array Value)(hs:HS w0 F0 w F ((some b,.cells C E (0,0))::L))(hle:Abh Fs F)(k:∀ w',HS w0 F0 w' F ((some b,.cells C' E (0,0))::L)->DWP P n R PQ Post z (DZ Fs Lc Lz) fuel (l.set i true) f w')
  (hx:fev f (stX (An R i))=.pointer (some ⟨b,pO (fev f (stX (An R i))),none⟩):=by kernel_rfl) (hC:Ek C (pO (fev f (stX (An R i)))) (fev f (stY (An R i))).cells.toList=C':=by kernel_rfl)
  (ho:(ung R i&&(KE (An R i)&&(Eo P (stT (An R i)) (fev f (stY (An R i))) (pO (fev f (stX (An R i)))) C&&(match Bj R i with | none=>true | some _=>false))))=true:=by kernel_rfl)
  (hL:∀ p,p∈Lc->p∈(some b,.cells C' E (0,0))::L:=by simp) (hLz:(l.set i true).toArray.getD z true=false->∀ p,p∈Lz->p∈(some b,.cells C' E (0,0))::L:=by first | (intro _;simp;done) | exact zdT (by kernel_rfl)):AD P n R PQ Post z (DZ Fs Lc Lz) fuel l i f w:=by
 simp only[Bool.and_eq_true]at ho;obtain⟨I,J,M,G⟩:=ho;have e:=E6 J;have:=Br I;cases hd:Bj R i with
 | some d=>rw[hd]at G;cases G
 | none=>
  rw[hd]at this;have hp:=hs.put (k:=0) rfl (.cells C' E (0,0));refine Abs rfl rfl this rfl ?_ (BA hp hle hL hLz) (k _ hp);have hr:=JP (P:=P) (ty:=HR R i) (w:=w) hx (hs.ownAt (k:=0) rfl) M hC;rw[<-e]at hr;exact hr
theorem PH{G:Option Nat×Obj}{b:Nat}{C:Array Value}{E:TypeId}(C':Array Value)(hs:HS w0 F0 w F (G::(some b,.cells C E (0,0))::L))(hle:Abh Fs F)(k:∀ w',HS w0 F0 w' F (G::(some b,.cells C' E (0,0))::L)->DWP P n R PQ Post z (DZ Fs Lc Lz) fuel (l.set i true) f w')
  (hx:fev f (stX (An R i))=.pointer (some ⟨b,pO (fev f (stX (An R i))),none⟩):=by kernel_rfl) (hC:Ek C (pO (fev f (stX (An R i)))) (fev f (stY (An R i))).cells.toList=C':=by kernel_rfl)
  (ho:(ung R i&&(KE (An R i)&&(Eo P (stT (An R i)) (fev f (stY (An R i))) (pO (fev f (stX (An R i)))) C&&(match Bj R i with | none=>true | some _=>false))))=true:=by kernel_rfl)
  (hL:∀ p,p∈Lc->p∈G::(some b,.cells C' E (0,0))::L:=by simp) (hLz:(l.set i true).toArray.getD z true=false->∀ p,p∈Lz->p∈G::(some b,.cells C' E (0,0))::L:=by first | (intro _;simp;done) | exact zdT (by kernel_rfl)):AD P n R PQ Post z (DZ Fs Lc Lz) fuel l i f w:=by
 simp only[Bool.and_eq_true]at ho;obtain⟨J,M,O,I⟩:=ho;have e:=E6 M;have:=Br J;cases hd:Bj R i with
 | some d=>rw[hd]at I;cases I
 | none=>
  rw[hd]at this;have hp:=hs.put (k:=1) rfl (.cells C' E (0,0));refine Abs rfl rfl this rfl ?_ (BA hp hle hL hLz) (k _ hp);have hr:=JP (P:=P) (ty:=HR R i) (w:=w) hx (hs.ownAt (k:=1) rfl) O hC;rw[<-e]at hr;exact hr
theorem AaX{G:Option Nat×Obj}{a2:AbD}(I:T.One)(hs:HS w0 F0 w F (G::e::L))(hr:Aq T E F a cap ls e)(hm:Rd T F w a2 m){r:List α}(hap:Cv ls m=some r)(hle:Abh Fs F)
  (k:∀ a' cap' e' w',HS w0 F0 w' F (G::e'::L)->Aq T E F a' cap' r e'->DWP P n R PQ Post z (DZ Fs Lc Lz) fuel (l.set i true) (Bd f (Bj R i) (.slice a' r.length cap')) w')
  (hx:fev f (apX (An R i))=.slice a ls.length cap:=by kernel_rfl) (hy:fev f (apY (An R i))=.slice a2 m.length (sC (fev f (apY (An R i)))):=by kernel_rfl) (ho:(ung R i&&apK P E T.sz (An R i))=true:=by kernel_rfl)
  (hL:∀ e' p,p∈Lc->p∈G::e'::L:=by (intro _;simp)) (hLz:(l.set i true).toArray.getD z true=false->∀ e' p,p∈Lz->p∈G::e'::L:=by first | (intro _ _;simp;done) | exact zdT (by kernel_rfl)):AD P n R PQ Post z (DZ Fs Lc Lz) fuel l i f w:=by
 simp only[Bool.and_eq_true]at ho;obtain⟨t,t2,by_,zz,J,he,hb,hni,hz,hzs⟩:=Il ho.2;have:=Br ho.1;rw[J]at this;exact AD.append rfl rfl this rfl hx hy he hb hni hz hzs I hs (k:=1) rfl hr hm hap hle hL hLz k
theorem Rz{G I:Option Nat×Obj}{b:Nat}{C:Array Value}{E:TypeId}(C':Array Value)(hs:HS w0 F0 w F (G::I::(some b,.cells C E (0,0))::L))(hle:Abh Fs F)(k:∀ w',HS w0 F0 w' F (G::I::(some b,.cells C' E (0,0))::L)->DWP P n R PQ Post z (DZ Fs Lc Lz) fuel (l.set i true) f w')
  (hx:fev f (stX (An R i))=.pointer (some ⟨b,pO (fev f (stX (An R i))),none⟩):=by kernel_rfl) (hC:Ek C (pO (fev f (stX (An R i)))) (fev f (stY (An R i))).cells.toList=C':=by kernel_rfl)
  (ho:(ung R i&&(KE (An R i)&&(Eo P (stT (An R i)) (fev f (stY (An R i))) (pO (fev f (stX (An R i)))) C&&(match Bj R i with | none=>true | some _=>false))))=true:=by kernel_rfl)
  (hL:∀ p,p∈Lc->p∈G::I::(some b,.cells C' E (0,0))::L:=by simp) (hLz:(l.set i true).toArray.getD z true=false->∀ p,p∈Lz->p∈G::I::(some b,.cells C' E (0,0))::L:=by first | (intro _;simp;done) | exact zdT (by kernel_rfl)):AD P n R PQ Post z (DZ Fs Lc Lz) fuel l i f w:=by
 simp only[Bool.and_eq_true]at ho;obtain⟨M,O,Y,J⟩:=ho;have e:=E6 O;have:=Br M;cases hd:Bj R i with
 | some d=>rw[hd]at J;cases J
 | none=>
  rw[hd]at this;have hp:=hs.put (k:=2) rfl (.cells C' E (0,0));refine Abs rfl rfl this rfl ?_ (BA hp hle hL hLz) (k _ hp);have hr:=JP (P:=P) (ty:=HR R i) (w:=w) hx (hs.ownAt (k:=2) rfl) Y hC;rw[<-e]at hr;exact hr
theorem ZC{G I J:Option Nat×Obj}{b:Nat}{C:Array Value}{E:TypeId}(C':Array Value)(hs:HS w0 F0 w F (G::I::J::(some b,.cells C E (0,0))::L))(hle:Abh Fs F)(k:∀ w',HS w0 F0 w' F (G::I::J::(some b,.cells C' E (0,0))::L)->DWP P n R PQ Post z (DZ Fs Lc Lz) fuel (l.set i true) f w')
  (hx:fev f (stX (An R i))=.pointer (some ⟨b,pO (fev f (stX (An R i))),none⟩):=by kernel_rfl) (hC:Ek C (pO (fev f (stX (An R i)))) (fev f (stY (An R i))).cells.toList=C':=by kernel_rfl)
  (ho:(ung R i&&(KE (An R i)&&(Eo P (stT (An R i)) (fev f (stY (An R i))) (pO (fev f (stX (An R i)))) C&&(match Bj R i with | none=>true | some _=>false))))=true:=by kernel_rfl)
  (hL:∀ p,p∈Lc->p∈G::I::J::(some b,.cells C' E (0,0))::L:=by simp) (hLz:(l.set i true).toArray.getD z true=false->∀ p,p∈Lz->p∈G::I::J::(some b,.cells C' E (0,0))::L:=by first | (intro _;simp;done) | exact zdT (by kernel_rfl)):AD P n R PQ Post z (DZ Fs Lc Lz) fuel l i f w:=by
 simp only[Bool.and_eq_true]at ho;obtain⟨O,Y,Z,M⟩:=ho;have e:=E6 Y;have:=Br O;cases hd:Bj R i with
 | some d=>rw[hd]at M;cases M
 | none=>
  rw[hd]at this;have hp:=hs.put (k:=3) rfl (.cells C' E (0,0));refine Abs rfl rfl this rfl ?_ (BA hp hle hL hLz) (k _ hp);have hr:=JP (P:=P) (ty:=HR R i) (w:=w) hx (hs.ownAt (k:=3) rfl) Z hC;rw[<-e]at hr;exact hr
theorem Abc{I G J:Option Nat×Obj}{a2:AbD}(M:T.One)(hs:HS w0 F0 w F (I::G::J::e::L))(hr:Aq T E F a cap ls e)(hm:Rd T F w a2 m){r:List α}(hap:Cv ls m=some r)(hle:Abh Fs F)
  (k:∀ a' cap' e' w',HS w0 F0 w' F (I::G::J::e'::L)->Aq T E F a' cap' r e'->DWP P n R PQ Post z (DZ Fs Lc Lz) fuel (l.set i true) (Bd f (Bj R i) (.slice a' r.length cap')) w')
  (hx:fev f (apX (An R i))=.slice a ls.length cap:=by kernel_rfl) (hy:fev f (apY (An R i))=.slice a2 m.length (sC (fev f (apY (An R i)))):=by kernel_rfl) (ho:(ung R i&&apK P E T.sz (An R i))=true:=by kernel_rfl)
  (hL:∀ e' p,p∈Lc->p∈I::G::J::e'::L:=by (intro _;simp)) (hLz:(l.set i true).toArray.getD z true=false->∀ e' p,p∈Lz->p∈I::G::J::e'::L:=by first | (intro _ _;simp;done) | exact zdT (by kernel_rfl)):AD P n R PQ Post z (DZ Fs Lc Lz) fuel l i f w:=by
 simp only[Bool.and_eq_true]at ho;obtain⟨t,t2,by_,zz,G,he,hb,hni,hz,hzs⟩:=Il ho.2;have:=Br ho.1;rw[G]at this;exact AD.append rfl rfl this rfl hx hy he hb hni hz hzs M hs (k:=3) rfl hr hm hap hle hL hLz k
theorem AaW{G I J M:Option Nat×Obj}{b:Nat}{C:Array Value}{E:TypeId}(C':Array Value)(hs:HS w0 F0 w F (G::I::J::M::(some b,.cells C E (0,0))::L))(hle:Abh Fs F)(k:∀ w',HS w0 F0 w' F (G::I::J::M::(some b,.cells C' E (0,0))::L)->DWP P n R PQ Post z (DZ Fs Lc Lz) fuel (l.set i true) f w')
  (hx:fev f (stX (An R i))=.pointer (some ⟨b,pO (fev f (stX (An R i))),none⟩):=by kernel_rfl) (hC:Ek C (pO (fev f (stX (An R i)))) (fev f (stY (An R i))).cells.toList=C':=by kernel_rfl)
  (ho:(ung R i&&(KE (An R i)&&(Eo P (stT (An R i)) (fev f (stY (An R i))) (pO (fev f (stX (An R i)))) C&&(match Bj R i with | none=>true | some _=>false))))=true:=by kernel_rfl)
  (hL:∀ p,p∈Lc->p∈G::I::J::M::(some b,.cells C' E (0,0))::L:=by simp) (hLz:(l.set i true).toArray.getD z true=false->∀ p,p∈Lz->p∈G::I::J::M::(some b,.cells C' E (0,0))::L:=by first | (intro _;simp;done) | exact zdT (by kernel_rfl)):AD P n R PQ Post z (DZ Fs Lc Lz) fuel l i f w:=by
 simp only[Bool.and_eq_true]at ho;obtain⟨Y,Z,h3,O⟩:=ho;have e:=E6 Z;have:=Br Y;cases hd:Bj R i with
 | some d=>rw[hd]at O;cases O
 | none=>
  rw[hd]at this;have hp:=hs.put (k:=4) rfl (.cells C' E (0,0));refine Abs rfl rfl this rfl ?_ (BA hp hle hL hLz) (k _ hp);have hr:=JP (P:=P) (ty:=HR R i) (w:=w) hx (hs.ownAt (k:=4) rfl) h3 hC;rw[<-e]at hr;exact hr
theorem Vl{G I J M O:Option Nat×Obj}{b:Nat}{C:Array Value}{E:TypeId}(C':Array Value)(hs:HS w0 F0 w F (G::I::J::M::O::(some b,.cells C E (0,0))::L))(hle:Abh Fs F)(k:∀ w',HS w0 F0 w' F (G::I::J::M::O::(some b,.cells C' E (0,0))::L)->DWP P n R PQ Post z (DZ Fs Lc Lz) fuel (l.set i true) f w')
  (hx:fev f (stX (An R i))=.pointer (some ⟨b,pO (fev f (stX (An R i))),none⟩):=by kernel_rfl) (hC:Ek C (pO (fev f (stX (An R i)))) (fev f (stY (An R i))).cells.toList=C':=by kernel_rfl)
  (ho:(ung R i&&(KE (An R i)&&(Eo P (stT (An R i)) (fev f (stY (An R i))) (pO (fev f (stX (An R i)))) C&&(match Bj R i with | none=>true | some _=>false))))=true:=by kernel_rfl)
  (hL:∀ p,p∈Lc->p∈G::I::J::M::O::(some b,.cells C' E (0,0))::L:=by simp) (hLz:(l.set i true).toArray.getD z true=false->∀ p,p∈Lz->p∈G::I::J::M::O::(some b,.cells C' E (0,0))::L:=by first | (intro _;simp;done) | exact zdT (by kernel_rfl)):AD P n R PQ Post z (DZ Fs Lc Lz) fuel l i f w:=by
 simp only[Bool.and_eq_true]at ho;obtain⟨Z,h2,h3,Y⟩:=ho;have e:=E6 h2;have:=Br Z;cases hd:Bj R i with
 | some d=>rw[hd]at Y;cases Y
 | none=>
  rw[hd]at this;have hp:=hs.put (k:=5) rfl (.cells C' E (0,0));refine Abs rfl rfl this rfl ?_ (BA hp hle hL hLz) (k _ hp);have hr:=JP (P:=P) (ty:=HR R i) (w:=w) hx (hs.ownAt (k:=5) rfl) h3 hC;rw[<-e]at hr;exact hr
theorem ZB{G I J M O e5:Option Nat×Obj}{b:Nat}{C:Array Value}{E:TypeId}(C':Array Value)(hs:HS w0 F0 w F (G::I::J::M::O::e5::(some b,.cells C E (0,0))::L))(hle:Abh Fs F)(k:∀ w',HS w0 F0 w' F (G::I::J::M::O::e5::(some b,.cells C' E (0,0))::L)->DWP P n R PQ Post z (DZ Fs Lc Lz) fuel (l.set i true) f w')
  (hx:fev f (stX (An R i))=.pointer (some ⟨b,pO (fev f (stX (An R i))),none⟩):=by kernel_rfl) (hC:Ek C (pO (fev f (stX (An R i)))) (fev f (stY (An R i))).cells.toList=C':=by kernel_rfl)
  (ho:(ung R i&&(KE (An R i)&&(Eo P (stT (An R i)) (fev f (stY (An R i))) (pO (fev f (stX (An R i)))) C&&(match Bj R i with | none=>true | some _=>false))))=true:=by kernel_rfl)
  (hL:∀ p,p∈Lc->p∈G::I::J::M::O::e5::(some b,.cells C' E (0,0))::L:=by simp) (hLz:(l.set i true).toArray.getD z true=false->∀ p,p∈Lz->p∈G::I::J::M::O::e5::(some b,.cells C' E (0,0))::L:=by first | (intro _;simp;done) | exact zdT (by kernel_rfl)):AD P n R PQ Post z (DZ Fs Lc Lz) fuel l i f w:=by
 simp only[Bool.and_eq_true]at ho;obtain⟨Z,h2,h3,Y⟩:=ho;have e:=E6 h2;have:=Br Z;cases hd:Bj R i with
 | some d=>rw[hd]at Y;cases Y
 | none=>
  rw[hd]at this;have hp:=hs.put (k:=6) rfl (.cells C' E (0,0));refine Abs rfl rfl this rfl ?_ (BA hp hle hL hLz) (k _ hp);have hr:=JP (P:=P) (ty:=HR R i) (w:=w) hx (hs.ownAt (k:=6) rfl) h3 hC;rw[<-e]at hr;exact hr
theorem Abb{G I J M O e5 Y:Option Nat×Obj}{b:Nat}{C:Array Value}{E:TypeId}(C':Array Value)(hs:HS w0 F0 w F (G::I::J::M::O::e5::Y::(some b,.cells C E (0,0))::L))(hle:Abh Fs F)(k:∀ w',HS w0 F0 w' F (G::I::J::M::O::e5::Y::(some b,.cells C' E (0,0))::L)->DWP P n R PQ Post z (DZ Fs Lc Lz) fuel (l.set i true) f w')
  (hx:fev f (stX (An R i))=.pointer (some ⟨b,pO (fev f (stX (An R i))),none⟩):=by kernel_rfl) (hC:Ek C (pO (fev f (stX (An R i)))) (fev f (stY (An R i))).cells.toList=C':=by kernel_rfl)
  (ho:(ung R i&&(KE (An R i)&&(Eo P (stT (An R i)) (fev f (stY (An R i))) (pO (fev f (stX (An R i)))) C&&(match Bj R i with | none=>true | some _=>false))))=true:=by kernel_rfl)
  (hL:∀ p,p∈Lc->p∈G::I::J::M::O::e5::Y::(some b,.cells C' E (0,0))::L:=by simp) (hLz:(l.set i true).toArray.getD z true=false->∀ p,p∈Lz->p∈G::I::J::M::O::e5::Y::(some b,.cells C' E (0,0))::L:=by first | (intro _;simp;done) | exact zdT (by kernel_rfl)):AD P n R PQ Post z (DZ Fs Lc Lz) fuel l i f w:=by
 simp only[Bool.and_eq_true]at ho;obtain⟨h1,h2,h3,Z⟩:=ho;have e:=E6 h2;have:=Br h1;cases hd:Bj R i with
 | some d=>rw[hd]at Z;cases Z
 | none=>
  rw[hd]at this;have hp:=hs.put (k:=7) rfl (.cells C' E (0,0));refine Abs rfl rfl this rfl ?_ (BA hp hle hL hLz) (k _ hp);have hr:=JP (P:=P) (ty:=HR R i) (w:=w) hx (hs.ownAt (k:=7) rfl) h3 hC;rw[<-e]at hr;exact hr
end
theorem YP.mono{P:Program}{l:Nat}{args:List Value}{w:World}{S S':Ending->World->Prop}(h:YP P l args w S)(hi:∀ e w',S e w'->S' e w'):YP P l args w S':=
 let ⟨fn,t,a,b,G,I⟩:=h;⟨fn,t,a,b,G,I.mono hi⟩
section
variable {P : Program} {w : World} {ρ : Operand -> Value} {ty : TypeId}
def Yd(P:Program)(t:TypeId)(parts:List (Nat×Value)):Option (List Value):=
 match P.underlying t,B4 P t with
 | some (.array _ e),some z=>match P.info? e with
  | some i=>match Instr.fill (fun k=>some (k * i.size,i.size)) z.cells parts with
   | some cs=>some cs.toList
   | none=>none
  | none=>none
 | _,_=>none
theorem MF{t:TypeId}{parts:Array (Nat×Operand)}{vs:List (Nat×Value)}{cs:List Value}(hv:parts.toList.map (fun p=>(p.1,ρ p.2))=vs)(hb:Yd P t vs=some cs):
  (Ar ρ (.build t parts) ty).run P w=.ok (.value (.agg cs.toArray)) w:=by
 subst hv;unfold Yd at hb;split at hb
 ·rename_i n e z hu hz;split at hb
  ·rename_i i hi;split at hb
   ·rename_i cs' hfill;simp only[Option.some.injEq]at hb;subst hb;have G:Ar ρ (.build t parts) ty=(do pure (Next.value (<-Instr.build t (parts.map fun(i,x)=>(i,ρ x))))):=rfl;have hzv:(zeroValue t).run P w=.ok z w:=by
     unfold B4 at hz;split at hz
     ·rename_i i hi;simp[zeroValue,typeInfo,hi,hz]
     ·cases hz
    rw[G];simp only[Instr.build,Sem.run_bind,hzv,Result.andThen_ok,run_underlying hu,EE hi];have hl:(parts.map fun(i,x)=>(i,ρ x)).toList=parts.toList.map (fun p=>(p.1,ρ p.2)):=by simp
    rw[hl,hfill];simp
   ·cases hb
  ·cases hb
 ·cases hb
theorem Vw{t E:TypeId}{len:Nat}{x y:Operand}{k:IntKind}{i:Int}{cs:List Value}{v:Value}(hx:ρ x=.agg cs.toArray)(hy:ρ y=.int k i)(hu:P.underlying t=some (.array len E))(ht:FE P E=some (false,1))(hlen:cs.length=len)(hv:idx cs i=some v):
  (Ar ρ (.index t x y) ty).run P w=.ok (.value v) w:=by
 obtain⟨⟨h0,h1⟩,G⟩:=Ag hv;have hc:Av cs.toArray (i.toNat * 1) 1=[v]:=by
  rw[Nat.mul_one];exact Lk.2 (by simpa using G)
 have hp:=Jm (P:=P) (t:=E) (C:=cs.toArray) (o:=i.toNat * 1) ht (by rw[hc];rfl) (.inr rfl) w;rw[hc]at hp;simp only[Ar,execOp,hx,hy,Instr.index,asIntOf,Sem.run_bind,Sem.run_pure,Result.andThen_ok,run_underlying hu,DX ht];rw[if_pos (show 0<=i/\i < (len:Int)by omega)];simp only[Sem.run_bind,DX ht,Result.andThen_ok];rw[hp];rfl
theorem T6{α:Type}{f:α->Value}{l:List α}{i:Int}{x:α}(h:idx l i=some x):idx (l.map f) i=some (f x):=by
 obtain⟨⟨G,h1⟩,I⟩:=Ag h;unfold idx;rw[if_pos G,List.getElem?_map,I];rfl
def toB(l:List Int):AbC:=l.map fun n=>UInt8.ofNat n.toNat
theorem QR:∀(ns:List Int)(A:Array UInt8),ns.foldl (fun r n=>ByteArray.push r (UInt8.ofNat n.toNat)) ⟨A⟩=⟨A++(toB ns).toArray⟩
 | [],A=>by simp[toB]
 | n::ns,A=>by
  rw[List.foldl_cons];have:ByteArray.push ⟨A⟩ (UInt8.ofNat n.toNat)=⟨A.push (UInt8.ofNat n.toNat)⟩:=rfl;rw[this,QR ns];simp[toB]
theorem Vv{w0:World}{F0 F:Mem}{L:Own}{s d E:TypeId}{x:Operand}{a:AbD}{cap q:Nat}{l:List Int}{e:Option Nat×Obj}(hx:ρ x=.slice a l.length cap)(hs:P.underlying s=some (.slice E))(hE:P.underlying E=some (.int .u8))(hd:P.underlying d=some .string)
  (hh:HS w0 F0 w F L) (hq:L[q]? =some e) (hr:Aq tU8 E F a cap l e):(Ar ρ (.convert s d x) ty).run P w=.ok (.value (.string ⟨(toB l).toArray⟩)) w:=by
 have J:Ar ρ (.convert s d x) ty=(do pure (Next.value (<-convert s d (ρ x)))):=rfl;rw[J,hx,Sem.run_bind,run_convert_bytes_string w s d E a l.length cap hs hE hd];rcases hr.2 with⟨rfl,rfl,rfl,_⟩ | ⟨b,C,rfl,rfl,hc,hsz,hR⟩
 ·rfl
 ·have hb:=hh.ownAt hq;have hl:=run_loadCells_list (P:=P) (w:=w) ⟨b,0,none⟩ (l.map (Value.int .u8)) (fun j v hj=>by
   rw[List.getElem?_map]at hj;cases hlj:l[j]? with
   | none=>rw[hlj]at hj;cases hj
   | some n=>
    rw[hlj]at hj;cases hj;have I:Av C (j * 1) 1=[.int .u8 n]:=hR j n hlj;rw[Nat.mul_one]at I;have G:=Lk.1 I;rw[Addr.add_lit];simp[World.cell?,hb,G])
  rw[List.length_map]at hl;have G:=run_bytesToString (P:=P) w ⟨b,0,none⟩ l.length cap l (by rw[hl]);rw[G,show ByteArray.empty=⟨#[]⟩from rfl,QR];simp[Result.andThen]
end
section
variable {P : Program} {n : Nat} {R : Array Oper} {f : Fr} {w : World} {PQ : List PanicEntry -> List Deferred -> World -> Prop} {Post : Fr -> World -> Prop} {z : Nat} {fuel : Nat} {l l' : List Bool} {zd : Bool} {i : Nat} {dst : Option Nat} {ty : TypeId} {g : Option (Nat × Bool)}
theorem AD.callO{w0:World}{F0 F Fs:Mem}{L Lc Lz:List (Option Nat×Obj)}{f0:Operand}{aos:Array Operand}{ats:Array TypeId}{fid:FuncId}{first cap:Array Value}{args:List Value}{post:Mem->Value->Own->Prop}
  (hl:l.set i true=l') (hzd:l'.toArray.getD z true=zd) (I:l.toArray.getD z true=zd)
  (ho:opq R i=some (dst,.call {callee:=.value f0,args:=aos,argTypes:=ats},ty,g)) (hg:gd R f g=true) (hf:fev f f0=.func (.func fid) first cap) (hok:Ah P fid)
  (ha:first.toList++aos.toList.map (fev f)++cap.toList=args) (hs:HS w0 F0 w F L) (hc:Calls P fid args.toArray w (Ry w F post))
  (k:∀ v F1 w1 L',HS w0 F0 w1 F1 (L'++L)->Abh F F1->post F1 v L'->DWP P n R PQ Post z (DZ Fs Lc Lz) fuel l' (Bd f dst v) w1):AD P n R PQ Post z (DZ Fs Lc Lz) fuel l i f w:=by
 intro hokR hns hS a haf;obtain⟨o,hR,hd,hop,hty,hgd⟩:=Dp ho;unfold Iu wpOpIn;simp only[hR];rw[haf.wanted R o,hgd,hg];simp only[if_true];refine⟨BO,?_⟩;show o.uponIn (FW none) 0 P a _ _ ((execOp a.eval o).run P w);rw[Dc,haf.evalF,hop,hty,Fl hf hok ha];simp only[Oper.uponIn];refine⟨(fun h=>by cases h),(FN hc).mono ?_⟩;rintro e w' ⟨r,F',L',rfl,G,J⟩;simp only;rw[I]at hS;have hS':DZ Fs Lc Lz zd w':=hS.keep G.keep;rw[hl,hd,hzd];exact⟨hS',k r F' w' L' (hs.callO G) G.le J hokR hns (by rw[hzd];exact hS') _ (haf.put (by rw[<-hd];exact FB hokR hR) r)⟩
theorem AD.callS{Fs:Mem}{Lc Lz:Own}{f0:Operand}{aos:Array Operand}{ats:Array TypeId}{fid:FuncId}{first cap:Array Value}{args:List Value}{S:Ending->World->Prop}
  (hl:l.set i true=l') (hzd:l'.toArray.getD z true=zd)
  (ho:opq R i=some (dst,.call {callee:=.value f0,args:=aos,argTypes:=ats},ty,g)) (hg:gd R f g=true) (hf:fev f f0=.func (.func fid) first cap) (hok:Ah P fid)
  (ha:first.toList++aos.toList.map (fev f)++cap.toList=args) (hc:Calls P fid args.toArray w S)
  (k:∀ e w',S e w'->∃ v,e=.returned v/\DZ Fs Lc Lz zd w'/\DWP P n R PQ Post z (DZ Fs Lc Lz) fuel l' (Bd f dst v) w'):AD P n R PQ Post z (DZ Fs Lc Lz) fuel l i f w:=by
 intro hokR hns hS a haf;obtain⟨o,hR,hd,hop,hty,hgd⟩:=Dp ho;unfold Iu wpOpIn;simp only[hR];rw[haf.wanted R o,hgd,hg];simp only[if_true];refine⟨BO,?_⟩;show o.uponIn (FW none) 0 P a _ _ ((execOp a.eval o).run P w);rw[Dc,haf.evalF,hop,hty,Fl hf hok ha];simp only[Oper.uponIn];refine⟨(fun h=>by cases h),(FN hc).mono ?_⟩;intro e w' he;obtain⟨v,rfl,hS',hk⟩:=k e w' he;simp only;rw[hl,hd,hzd];exact⟨hS',hk hokR hns (by rw[hzd];exact hS') _ (haf.put (by rw[<-hd];exact FB hokR hR) v)⟩
theorem AD.callLentP{w0:World}{F0 F Fs:Mem}{L Lc Lz:List (Option Nat×Obj)}{f0:Operand}{aos:Array Operand}{ats:Array TypeId}{fid:FuncId}{first cap:Array Value}{args:List Value}{q:Nat}{e:Option Nat×Obj}{v0:Value}
  (hl:l.set i true=l') (hzd:l'.toArray.getD z true=zd) (I:l.toArray.getD z true=zd)
  (ho:opq R i=some (dst,.call {callee:=.value f0,args:=aos,argTypes:=ats},ty,g)) (hg:gd R f g=true) (hf:fev f f0=.func (.func fid) first cap) (hok:Ah P fid)
  (ha:first.toList++aos.toList.map (fev f)++cap.toList=args) (hs:HS w0 F0 w F L) (hk:L[q]? =some e) (hc:Calls P fid args.toArray w (AE w (Kl F e) fun _ v=>v=v0))
  (k:∀ F1 w1,HS w0 F0 w1 F1 L->Abh F F1->DWP P n R PQ Post z (DZ Fs Lc Lz) fuel l' (Bd f dst v0) w1):AD P n R PQ Post z (DZ Fs Lc Lz) fuel l i f w:=by
 intro hokR hns hS a haf;obtain⟨o,hR,hd,hop,hty,hgd⟩:=Dp ho;unfold Iu wpOpIn;simp only[hR];rw[haf.wanted R o,hgd,hg];simp only[if_true];refine⟨BO,?_⟩;show o.uponIn (FW none) 0 P a _ _ ((execOp a.eval o).run P w);rw[Dc,haf.evalF,hop,hty,Fl hf hok ha];simp only[Oper.uponIn];refine⟨(fun h=>by cases h),(FN hc).mono ?_⟩;rintro e' w' ⟨_,F',rfl,G,rfl⟩;simp only;rw[I]at hS;have hS':DZ Fs Lc Lz zd w':=hS.keep G.keep;obtain⟨J,M⟩:=hs.lentCall hk G;rw[hl,hd,hzd];exact⟨hS',k _ w' J M hokR hns (by rw[hzd];exact hS') _ (haf.put (by rw[<-hd];exact FB hokR hR) _)⟩
end
section
variable {P : Program} {n : Nat} {R : Array Oper} {Q : Exit -> Fr -> World -> Prop} {w w0 : World} {F0 F : Mem} {L : Own} {f : Fr} {i : Nat} {rest : List Nat} {dst : Option Nat} {ty : TypeId} {g : Option (Nat × Bool)} {ro : Option Nat}
theorem RWP.callLentP{f0:Operand}{aos:Array Operand}{ats:Array TypeId}{fid:FuncId}{first cap:Array Value}{args:List Value}{q:Nat}{e:Option Nat×Obj}{v0:Value}
  (ho:opq R i=some (dst,.call {callee:=.value f0,args:=aos,argTypes:=ats},ty,g)) (hg:gd R f g=true) (hf:fev f f0=.func (.func fid) first cap) (hok:Ah P fid)
  (ha:first.toList++aos.toList.map (fev f)++cap.toList=args) (hs:HS w0 F0 w F L) (hk:L[q]? =some e)
  (hc:Calls P fid args.toArray w (AE w (Kl F e) fun _ v=>v=v0))
  (k:∀ F1 w1,HS w0 F0 w1 F1 L->Abh F F1->RWP P ro n R Q rest (Bd f dst v0) w1):RWP P ro n R Q (i::rest) f w:=by
 refine Abf ho hg (Fl hf hok ha) hc ?_;rintro e w' ⟨_,F',rfl,G,rfl⟩;obtain⟨I,J⟩:=hs.lentCall hk G;exact k _ w' I J
end
section
variable {P : Program} {w : World} {ρ : Operand -> Value} {ty : TypeId}
theorem SG{mt k vt:TypeId}{d:TypeDesc}{m x:Operand}{b clk:Nat}{es:Array MapEntry}{kv v:Value}{j:Nat}(hm:ρ m=.map (some b))(hx:ρ x=kv)(hu:P.underlying mt=some (.map k vt))(hk:P.underlying k=some d)(hkey:MapKept.IsKey d kv)
  (hb:w.heap[b]? =some (.map es clk)) (hf:Instr.findNow d kv es.toList 0=some (some (j,v))):(Ar ρ (.lookup mt m x true) ty).run P w=.ok (.value (.tuple #[v,.bool true])) w:=by
 have e:Ar ρ (.lookup mt m x true) ty=(do pure (Next.value (<-Instr.lookup mt (ρ m) (ρ x) true))):=rfl;rw[e,hm,hx];simp[Instr.lookup,run_underlying hu,MapKept.run_getObj_map hb,MapKept.run_checkKey hk hkey,MapKept.run_findKey hk hf,Result.andThen]
theorem Aan{x c:Int}{v:Value}{clk i:Nat}{es:List MapEntry}(h:(x==c)=true):Instr.findNow (.int .i64) (.int .i64 x) (⟨.int .i64 c,v,clk⟩::es) i=some (some (i,v)):=by
 simp[Instr.findNow,Instr.sameNow,h]
end
section
variable {P : Program} {w0 w : World} {F0 F : Mem} {L : List (Option Nat × Obj)} {α : Type} {T : Ty α} {E : TypeId} {l m : List α} {b cap : Nat} {C : Array Value}
theorem Vk{t t2 ty:TypeId}{by_ c2:Nat}{a2:AbD}(he:BJ P t=some (E,T.sz,by_))(hni:QK P t2=true)
  (I:T.One) (hs:HS w0 F0 w F L) {k:Nat} (hk:L[k]? =some (some b,.cells C E (0,0))) (hr:Aq T E F (some ⟨b,0,none⟩) cap l (some b,.cells C E (0,0))) (hm:Rd T F w a2 m) (hfit:l.length + m.length<=cap) (hlen:l.length + m.length < 4398046511104):
  ∃ C',C'.size=C.size/\(Builtin.append_ #[t,t2] ty #[.slice (some ⟨b,0,none⟩) l.length cap,.slice a2 m.length c2]).run P w=.ok (.slice (some ⟨b,0,none⟩) (l++m).length cap) (CR w b (.cells C' E (0,0)))/\Aq T E F (some ⟨b,0,none⟩) cap (l++m) (some b,.cells C' E (0,0)):=by
 obtain⟨i,hu,hi,his,hib⟩:=Hg he;obtain⟨new,hnew,hload⟩:=hm.load (P:=P) c2;have hnl:=hnew.len;obtain⟨G,hd⟩:∃ G,P.underlying t2=some (.slice G):=by
  unfold QK at hni;split at hni
  ·rename_i G h;exact⟨G,h⟩
  ·cases hni
 unfold Builtin.append_;simp only[List.getElem?_toArray,List.getElem?_cons_zero,List.getElem?_cons_succ,Sem.run_bind,run_underlying hu,Result.andThen_ok,EE hi,his];simp only[run_underlying hd,Result.andThen_ok,Sem.run_pure,Bool.false_eq_true,if_false,Builtin.lenOf];simp only[pure_bind];rw[if_pos hfit];simp only[Bool.not_false,if_true,Sem.run_bind,hload,Result.andThen_ok];rcases hr.2 with⟨h,_⟩ | ⟨b',C0,hb',hc',hlc,hC,hx⟩
 ·cases h
 ·cases hb';cases hc';have hC1:l.length * T.sz + new.length<=C.size:=by rw[hC,hnl,<-Nat.add_mul];exact Nat.mul_le_mul_right _ hfit
  have hst:=ED (P:=P) E new w b (l.length * T.sz) 0 C (hs.ownAt hk) (by simpa using hC1) (hnew.one I);refine⟨Ek C (l.length * T.sz) new,HO _ _ _,?_,?_⟩
  ·simp only[Addr.add_lit,Nat.zero_add];simp only[Nat.add_zero]at hst;rw[hst];simp
  ·have hrow:Fj T F l (Av C 0 (l.length * T.sz)):=by
    by_cases hl:l=[]
    ·subst hl;simp[Fj,Av]
    ·exact Ka hl (fun i x hi=>by rw[Nat.zero_add];exact hx i x hi)
   have hlr:=hrow.len;refine⟨by simpa using hlen,.inr ⟨b,_,rfl,rfl,by simpa using hfit,by rw[HO,hC],fun i x hix=>?_⟩⟩;have:=(Fj.append hrow hnew).get i x hix;have hii:i < (l++m).length:=by
    rcases Nat.lt_or_ge i (l++m).length with h' | h'
    ·exact h'
    ·rw[List.getElem?_eq_none h']at hix;cases hix
   have hle:i * T.sz + T.sz<=(Av C 0 (l.length * T.sz)++new).length:=by
    rw[List.length_append,hlr,hnl,<-Nat.add_mul,<-Nat.succ_mul];exact Nat.mul_le_mul_right _ (Nat.succ_le_of_lt (by simpa using hii))
   have J:Av C 0 (l.length * T.sz)=C.toList.take (l.length * T.sz):=by simp[Av]
   unfold Av;rw[LX hC1];rw[J]at this hle;rw[List.drop_append_of_le_length (by omega),List.take_append_of_le_length (by simp only[List.length_drop];omega)];exact this
theorem Qi{t t2:TypeId}{by_ c2:Nat}{a2:AbD}(he:BJ P t=some (E,T.sz,by_))(hni:QK P t2=true)
  (G:T.One) (hs:HS w0 F0 w F L) {k:Nat} (hk:L[k]? =some (some b,.cells C E (0,0))) (hr:Aq T E F (some ⟨b,0,none⟩) cap l (some b,.cells C E (0,0))) (hm:Rd T F w a2 m) (hfit:l.length + m.length<=cap) (hlen:l.length + m.length < 4398046511104):
  ∃ C',C'.size=C.size/\Aq T E F (some ⟨b,0,none⟩) cap (l++m) (some b,.cells C' E (0,0))/\ ∀{ρ:Operand->Value} {x y:Operand} {ty:TypeId},ρ x=.slice (some ⟨b,0,none⟩) l.length cap->ρ y=.slice a2 m.length c2->
   (Ar ρ (.call {callee:=.builtin .append,args:=#[x,y],argTypes:=#[t,t2]}) ty).run P w=.ok (.value (.slice (some ⟨b,0,none⟩) (l++m).length cap)) (CR w b (.cells C' E (0,0))):=by
 have key:=fun ty=>Vk (ty:=ty) (c2:=c2) he hni G hs hk hr hm hfit hlen;obtain⟨C',I,J,M⟩:=key 0;refine⟨C',I,M,fun{ρ x y ty} hx hy=>?_⟩;have O:(Builtin.append_ #[t,t2] ty #[.slice (some ⟨b,0,none⟩) l.length cap,.slice a2 m.length c2]).run P w=.ok (.slice (some ⟨b,0,none⟩) (l++m).length cap) (CR w b (.cells C' E (0,0))):=J;have Y:Ar ρ (.call {callee:=.builtin .append,args:=#[x,y],argTypes:=#[t,t2]}) ty=(do pure (Next.value (<-Builtin.append_ #[t,t2] ty (Array.map ρ #[x,y])))):=rfl;rw[Y,map_toArray];simp only[List.map_cons,List.map_nil,hx,hy];rw[Sem.run_bind,O];rfl
theorem S8{o i:Nat}{vs:List Value}(ho:o + vs.length<=C.size)(hi:i * T.sz + T.sz<=o):Av (Ek C o vs) (i * T.sz) T.sz=Av C (i * T.sz) T.sz:=by
 unfold Av;rw[LX ho,List.append_assoc,List.drop_append_of_le_length (by simp;omega),List.take_append_of_le_length (by simp;omega),List.drop_take,List.take_take,Nat.min_eq_left (by omega)]
theorem SJ{t:TypeId}{by_ j k c:Nat}{z:Value}(he:BJ P t=some (E,T.sz,by_))(hz:B4 P E=some z)(hzs:z.cells.size=T.sz)(G:z.cells.toList.all (·.oneCell')=true)
  (hb:w.heap[b]? =some (.cells C E (0,0))) (hk:0 < k) (hfit:j * T.sz + k * T.sz<=C.size):
  ∃ vs,vs.length=k * T.sz/\ ∀{ρ:Operand->Value} {x:Operand} {ty:TypeId},ρ x=.slice (some ⟨b,j * T.sz,none⟩) k c->(Ar ρ (.call {callee:=.builtin .clear,args:=#[x],argTypes:=#[t]}) ty).run P w=.ok (.value (.tuple #[])) (CR w b (.cells (Ek C (j * T.sz) vs) E (0,0))):=by
 obtain⟨i,hu,hi,his,hib⟩:=Hg he;have hzv:(zeroValue E).run P w=.ok z w:=by
  unfold B4 at hz;rw[hi]at hz;simp[zeroValue,typeInfo,hi,hz]
 have hsz:(Builtin.zeroCells z.cells k).toList.length=k * T.sz:=by simp[Builtin.zeroCells,hzs]
 have hone:(Builtin.zeroCells z.cells k).toList.all (·.oneCell')=true:=by
  rw[List.all_eq_true]at G ⊢;intro v hv;simp only[Builtin.zeroCells,Array.toList_map,List.mem_map]at hv;obtain⟨q,hq,rfl⟩:=hv;have hq':q < k * z.cells.size:=by simpa using hq
  have hpos:0 < z.cells.size:=by
   rcases Nat.eq_zero_or_pos z.cells.size with h | h
   ·rw[h]at hq';simp at hq'
   ·exact h
  have hlt:=Nat.mod_lt q hpos;rw[getElem!_pos z.cells _ hlt];exact G _ (by simp)
 have hst:=ED (P:=P) E (Builtin.zeroCells z.cells k).toList w b (j * T.sz) 0 C hb (by rw[hsz];simpa using hfit) hone;refine⟨(Builtin.zeroCells z.cells k).toList,hsz,fun{ρ x ty} hx=>?_⟩;have e:Ar ρ (.call {callee:=.builtin .clear,args:=#[x],argTypes:=#[t]}) ty=(do pure (Next.value (<-Builtin.clear_ #[t] ty (Array.map ρ #[x])))):=rfl;rw[e,map_toArray];simp only[List.map_cons,List.map_nil,hx];obtain⟨k',rfl⟩:∃ k',k=k' + 1:=⟨k - 1,by omega⟩;simp only[Nat.add_zero]at hst;simp[Builtin.clear_,run_underlying hu,hzv,hst,Result.andThen]
end
abbrev Va(x:(AbC×Bool)):List Value:=[.string ⟨(x.1).toArray⟩,.bool x.2]
abbrev Xo(_:Mem)(_:(AbC×Bool)):Prop:=True
abbrev Xf(x:(AbC×Bool)):(AbC×Bool):=x
theorem kl9:KL Tryz.prog 9 AJ:=KL.ofString (by kernel_rfl)
def ZI(x:Ae):Value:=.agg #[.int .i64 x.at_,.int .i64 x.stage_,.int .i64 x.num_,.int .i64 x.minute_]
def X7(x y:Ae):Bool:=((x.at_==y.at_)&&((x.stage_==y.stage_)&&((x.num_==y.num_)&&((x.minute_==y.minute_)&&true))))
theorem Aat(x y:Ae):X7 x y=decide (x=y):=by
 rw[Bool.eq_iff_iff];unfold X7;simp only[Bool.and_eq_true,beq_iff_eq,decide_eq_true_eq,and_true];constructor
 ·intro h;obtain⟨_,_,_,_⟩:=x;obtain⟨_,_,_,_⟩:=y
  simp_all [Ae.mk.injEq]
 ·rintro rfl;simp
theorem ZN:KL Tryz.prog 143 AH:=KL.ofStruct (d:=8) (by decide) ZI (fun h=>by obtain⟨_,rfl,rfl⟩:=h;rfl) (by kernel_rfl) (fun x=>by kernel_rfl) X7 (fun x y=>by kernel_rfl) Aat (fun x=>by simp[ZI,Instr.sameBits,beq_toListBytes])
def AV(N:Nat)(I:(List AW))(J:(AW->Option Bool)):Int->Option (A4 Int Int):=fun G=>
 (bif(decide (G < (I.length:Int)))then((idx I G).bind fun M=>((J M).bind fun O=>(bif O then some (.ret G)else some (.next (W64 (G + 1))))))else some (.done G))
def B0(N:Nat)(G:(List AW))(I:(AW->Option Bool)):Option Int:=
 ((AF (AV N G I) N 0).bind fun o=>o.k (fun r=>some r) (fun h0=>some (-1)))
theorem Ff(N:Nat)(w0:World)(F0:Mem)(hF:AbE w0 F0)(G:(List AW))(Y:AbD)(Z:Nat)(b7:LC G.length Z)(h7:SlA LH F0 Y G)(J:FuncId)(h0 h1:List Value)(x1:AW->Option Bool)(h8:Ah Tryz.prog J)(h9:Us F0 J h0 h1 x1)(r:Int)(h:B0 N G x1=some r):
  Calls Tryz.prog 183 (lA [sL Y G Z,.func (.func J) h0.toArray h1.toArray]) w0 (AE w0 F0 fun F' v=>v=(vi r)):=by
 have ha:=Abj hF;refine Go 19 Tryz.func183<|sR [0] ?_;refine Vs 1<|Nss<|sR [0,1,2] ?_;refine Vs 3<|Nt ?_;obtain⟨h3,hb,h4⟩:=bS h;refine Abo (fun f w=>∃(h5:Int)(F2:Mem),h3=.done h5/\HS w0 F0 w F2 []/\Abh F0 F2/\FI f [] []) ?_ ?_
 ·refine Bk ?_;refine Abg (by kernel_rfl) (fun m f w=>∃(I:Int)(F1:Mem),AF (AV N G x1) m I=some h3/\HS w0 F0 w F1 []/\Abh F0 F1/\FI f [] [(0,(sL Y G Z)),(1,(.func (.func J) h0.toArray h1.toArray)),(7,(vi (G.length:Int))),(8,(vi I))]) N ⟨0,F0,hb,ha,Abi _,fI⟩ ?_;rintro b8 f hc ⟨I,F1,hg,M,O,⟨_,rfl⟩⟩;obtain⟨hh,b9,rfl,hm,h2⟩:=AB hg;refine sR [0] ?_;refine Vs 1<|Nss<|Cd hm (fun hn ho=>?_) (fun hn hp=>?_)
  ·refine Sc ?_;refine Ab<|Sq<|Bk<|sR [0,1] ?_;refine Vs 2<|Nss (Rg (rG 6) ?_);refine Vs 3 ?_;obtain⟨hq,hr,ht⟩:=bS ho;obtain⟨hu,hx48'⟩:=Ag hr;obtain⟨ba,bb,bc,bd,be,rfl,hF57,hE58⟩:=Abp (Abk h7 O) hx48';have hw:=hE58 _ _ hx48';refine Ix hu<|Lx 0 (M.pers _ _ hF57) hw ?_;obtain⟨bf,hx,hy⟩:=bS ht;refine Cq h8 M (h9 hc F1 hq _ O M.pers hx) ?_;rintro _ F3 bg h6 hz rfl;refine Nt<|Cd hy (fun b0 b1=>?_) (fun b0 b2=>?_)
   ·refine sR [0,1] ?_;refine Vs 2<|Nt<|Rt<|As<|Ad<|Ad<|As ?_;have hret:=BC b1 h2;subst hret;refine .inr<|Ad ?_;obtain rfl:=Aa h4;exact Re [vi I] h6 rfl
   ·refine Sc ?_;refine Am<|Ab<|Rg [0,1]<|Vs 2<|Abd ?_;have b3:=Ax b2 h2;exact⟨hh,Nat.lt_succ_self _,W64 (I + 1),F3,b3,h6,O.t hz,fI⟩
  ·refine Ex ?_;refine Ak<|Ak<|Au rfl ?_;have b4:=Az hp h2;exact .inl ⟨rfl,I,F1,b4,M,O,fI⟩
 ·rintro f bh ⟨h5,F2,rfl,b5,bi,⟨_,rfl⟩⟩;have b6:=AY h4;refine Ab<|sR [0] ?_;refine Vs 1<|Nt<|Rt ?_;obtain rfl:=Aa b6;exact Re [vi (-1)] b5 rfl
def Bc(N:Nat)(G:(List AW))(I:(AW->Option Bool)):Option Bool:=
 ((B0 N G I).bind fun J=>some (decide (J>=0)))
theorem EB(N:Nat)(w0:World)(F0:Mem)(hF:AbE w0 F0)(G:(List AW))(J:AbD)(M:Nat)(h1:LC G.length M)(h2:SlA LH F0 J G)(I:FuncId)(O Y:List Value)(Z:AW->Option Bool)(h3:Ah Tryz.prog I)(h4:Us F0 I O Y Z)(r:Bool)(h:Bc N G Z=some r):
  Calls Tryz.prog 137 (lA [sL J G M,.func (.func I) O.toArray Y.toArray]) w0 (AE w0 F0 fun F' v=>v=(.bool r)):=by
 have h0:=Abj hF;refine Go 9 Tryz.func137<|sR [0] ?_;refine Vs 1<|Nss (Rg (rG 5) ?_);refine Vs 2 ?_;obtain⟨h5,h6,h7⟩:=bS h;refine Cl' (cO 183) h0 (Ff N w0 F0 h0.pers G J M h1 h2 I O Y Z h3 (fun w1 F1 y0 r h8 h9 ha=>h4 w1 F1 y0 r h8 h9 ha) _ h6) ?_;rintro _ F1 hc hb hg rfl;refine Vs 2<|Nt<|Rt ?_;obtain rfl:=Aa h7;exact Re [.bool (decide (h5>=0))] hb rfl
def DT(N:Nat)(G:Ac)(I:Af):Option (List AW):=
 some [({has_:=G.Report,n_:=I.Report,most_:=599,digits_:=1}:AW),({has_:=G.Serial,n_:=I.Serial,most_:=99999,digits_:=3}:AW),({has_:=G.Zone,n_:=I.Zone,most_:=99,digits_:=2}:AW)]
theorem Hl(N:Nat)(w0:World)(F0:Mem)(hF:AbE w0 F0)(G:Ac)(I:Af)(r:(List AW))(h:DT N G I=some r):
  Calls Tryz.prog 138 (lA [.agg (Aj G),.agg (A9 I)]) w0 (AE w0 F0 fun F' v=>∃(O:AbD)(Y:Nat),v=(sL O r Y)/\LC r.length Y/\SlA LH F' O r):=by
 have h0:=Abj hF;refine Go 21 Tryz.func138<|sR [0,1,2] ?_;refine Bx' 23 (Aj G) h0 (fun h6 h7 h1=>?_);refine Bx' 32 (A9 I) h1 (fun h8 h9 J=>?_);refine Vs 1<|Nss (Rg (rG 17) ?_);refine Vs 1<|Ld J.at1<|Vs 1<|Ld J.at0<|Vs 2<|Ld J.at1<|Vs 1<|Ld J.at0<|Vs 2 ?_;refine Ld J.at1<|Vs 1<|Ld J.at0<|Vs 1<|Bs 180 [.bool G.Report,vi I.Report,vi 599,vi 1,.bool G.Serial,vi I.Serial,vi 99999,vi 3,.bool G.Zone,vi I.Zone,vi 99,vi 2] J (fun M ha h2=>?_);have Z:Aq LH 180 F0 (some ⟨M,0,none⟩) 3 [({has_:=G.Report,n_:=I.Report,most_:=599,digits_:=1}:AW),({has_:=G.Serial,n_:=I.Serial,most_:=99999,digits_:=3}:AW),({has_:=G.Zone,n_:=I.Zone,most_:=99,digits_:=2}:AW)] (some M,.cells (lA [.bool G.Report,vi I.Report,vi 599,vi 1,.bool G.Serial,vi I.Serial,vi 99999,vi 3,.bool G.Zone,vi I.Zone,vi 99,vi 2]) 180 (0,0)):=Abx ⟨rfl,⟨rfl,⟨rfl,rfl⟩⟩⟩ (by simp);refine Vs 1<|Nt<|Rt ?_;have h3:=Abv Z;obtain⟨F1,h4,hb,h5⟩:=h2.fr0 Z;obtain rfl:=Aa h;exact Re [.slice (some ⟨M,0,none⟩) [({has_:=G.Report,n_:=I.Report,most_:=599,digits_:=1}:AW),({has_:=G.Serial,n_:=I.Serial,most_:=99999,digits_:=3}:AW),({has_:=G.Zone,n_:=I.Zone,most_:=99,digits_:=2}:AW)].length 3] h4 ⟨some ⟨M,0,none⟩,3,rfl,h3,h5⟩
def Io(N:Nat)(G I J:Int):Option Bool:=
 some ((decide (G>=I))&&(decide (G<=J)))
theorem Kf(N:Nat)(w0:World)(F0:Mem)(hF:AbE w0 F0)(G J M:Int)(r:Bool)(h:Io N G J M=some r):
  Calls Tryz.prog 140 (lA [vi G,vi J,vi M]) w0 (AE w0 F0 fun F' v=>v=(.bool r)):=by
 have O:=Abj hF;refine Go 15 Tryz.func140<|sR [0] ?_;refine Vs 1<|Nss (Rg (rG 9) ?_);refine Abn (fun f w=>∃(F1:Mem),HS w0 F0 w F1 []/\Abh F0 F1/\FI f [] [(6,(.bool ((decide (G>=J))&&(decide (G<=M)))))]) ?_ ?_
 ·refine Vs 4 ?_;refine Abm (decide (G>=J)) (fun I=>?_) (fun I=>?_)
  ·refine Vgs I 3 ?_;refine Pk1 I<|Vs 1 ?_;exact Abd ⟨rfl,F0,O,Abi _,fJ ⟨congrArg Value.bool (HA I rfl),trivial⟩⟩
  ·refine Ss I 3 ?_;refine Pk0 I<|Vs 1 ?_;exact Abd ⟨rfl,F0,O,Abi _,fJ ⟨congrArg Value.bool (Im I rfl),trivial⟩⟩
 ·rintro f h0 ⟨F1,Y,h1,⟨_,rfl⟩⟩;refine Ab<|Rt ?_;obtain rfl:=Aa h;exact Re [.bool ((decide (G>=J))&&(decide (G<=M)))] Y rfl
def CH(N:Nat)(G:AW):Option Bool:=
 (((Io N G.n_ 1 G.most_).bind fun I=>(bif(!(G.has_==I))then some true else(bif(!G.has_)then some (G.n_ !=0)else some false))).bind fun J=>some J)
theorem KK(N:Nat)(w0:World)(F0:Mem)(hF:AbE w0 F0)(G:AW)(r:Bool)(h:CH N G=some r):
  Calls Tryz.prog 139 (lA [.agg (LR G)]) w0 (AE w0 F0 fun F' v=>v=(.bool r)):=by
 have h2:=Abj hF;refine Go 21 Tryz.func139<|sR [0,1] ?_;refine Bx' 180 (LR G) h2 (fun J hh h3=>?_);refine Vs 1<|Nss ?_;obtain⟨h0,h4,h5⟩:=bS h;refine RD 19 19 [sb J (LR G) 180] [] h3 (fun f w=>∃(F1:Mem),HS w0 F0 w F1 []/\Abh F0 F1/\FI f [] [(2,(.bool h0))]) (fun h6 h1=>?_) ?_
 ·refine Dvl [0] (tf 1 18) ?_;refine Dl 1 (fun _ hq=>(hq.1.2 0 _ _ rfl))<|Dvl [2] (tf 3 16)<|Dl 3 (fun _ hq=>(hq.1.2 0 _ _ rfl))<|Dvl [4] (tf 5 14)<|Dl 5 (fun _ hq=>(hq.1.2 0 _ _ rfl))<|D1 6 ?_;obtain⟨hm,h7,h8⟩:=bS h4;refine DCl (cO 140) h1 (Kf N h6 F0 h1.pers G.n_ 1 G.most_ _ h7) ?_;rintro _ O hn Y Z rfl;refine Dvl [7,8] (tf 9 10)<|Sd h8 (fun I h9=>?_) (fun I ha=>?_)
  ·refine Dkl [(9,12),(10,13),(11,14),(12,15)] 8 false 11 I (tf 13 6) ?_;refine Dul [(13,16),(14,17),(15,18)] 12 true 15 (tf 16 3)<|Dkl [(16,19)] 8 false 11 I (tf 17 2)<|Dtl 17 20 4 _ (tf 18 1) (fun _ hq=>p1 11 (.const bT) (.tmp 19) bT I)<|Dvl [18] (tf 19 0) ?_;obtain rfl:=Aa h9;exact Abu (by kernel_rfl) ⟨O,Y.dr0,Z,fI⟩
  ·refine Dgl 9 12 0 (pt J 0) (tf 10 9) 8 false 11 I (fun _ hq=>fa 180 1 0 0 1 J 0 0) ?_;refine Dgl 10 13 4 _ (tf 11 8) 8 false 11 I (fun _ hq=>ld 4 12 J 0 false 1 (.bool G.has_) (hq.1.2 0 _ _ rfl))<|Dgl 11 14 4 (.bool (!G.has_)) (tf 12 7) 8 false 11 I (fun _ hq=>SD (t:=4) (x:=(.tmp 13)) (a:=G.has_) rfl)<|Dgl 12 15 4 _ (tf 13 6) 8 false 11 I (fun _ hq=>mv 14 (.bool (!G.has_)))<|Sd ha (fun M hb=>?_) (fun M hc=>?_)
   ·refine Dgl 13 16 0 (pt J 1) (tf 14 5) 12 true 15 M (fun _ hq=>fa 180 1 1 1 1 J 0 1) ?_;refine Dgl 14 17 3 _ (tf 15 4) 12 true 15 M (fun _ hq=>ld 3 16 J 1 false 1 (vi G.n_) (hq.1.2 0 _ _ rfl))<|Dgl 15 18 4 (.bool (G.n_ !=0)) (tf 16 3) 12 true 15 M (fun _ hq=>PI (t:=3) (t':=3) (x:=(.tmp 17)) (y:=(.const (vi 0))) (k:=.i64) (a:=G.n_) (b:=0) rfl rfl)<|Dgl 16 19 4 _ (tf 17 2) 8 false 11 I (fun _ hq=>p1 15 (.tmp 18) (.const bF) (.bool (G.n_ !=0)) M)<|Dtl 17 20 4 _ (tf 18 1) (fun _ hq=>p0 11 (.const bT) (.tmp 19) (.bool (G.n_ !=0)) I)<|Dvl [18] (tf 19 0) ?_;obtain rfl:=Aa hb;exact Abu (by kernel_rfl) ⟨O,Y.dr0,Z,fI⟩
   ·refine Dkl [(13,16),(14,17),(15,18)] 12 true 15 M (tf 16 3) ?_;refine Dgl 16 19 4 _ (tf 17 2) 8 false 11 I (fun _ hq=>p0 15 (.tmp 18) (.const bF) bF M)<|Dtl 17 20 4 _ (tf 18 1) (fun _ hq=>p0 11 (.const bT) (.tmp 19) bF I)<|Dvl [18] (tf 19 0) ?_;obtain rfl:=Aa hc;exact Abu (by kernel_rfl) ⟨O,Y.dr0,Z,fI⟩
 ·rintro f ho ⟨F1,hg,hp,⟨_,rfl⟩⟩;refine Ab<|Rt ?_;obtain rfl:=Aa h5;exact Re [.bool h0] hg rfl
def CD(N:Nat)(G:Ac)(I:Af):Option Bool:=
 ((DT N (lY G) ({Report:=I.Report,Serial:=I.Serial,Zone:=I.Zone}:Af)).bind fun J=>((Bc N J (fun M=>CH N M)).bind fun O=>some (!O)))
theorem Fh(N:Nat)(w0:World)(F0:Mem)(hF:AbE w0 F0)(G:Ac)(I:Af)(r:Bool)(h:CD N G I=some r):
  Calls Tryz.prog 75 (lA [.agg (Aj G),.agg (A9 I)]) w0 (AE w0 F0 fun F' v=>v=(.bool r)):=by
 have Y:=Abj hF;refine Go 10 Tryz.func75<|sR [0,1,2] ?_;refine Bx' 23 (Aj G) Y (fun hm hn Z=>?_);refine Bx' 32 (A9 I) Z (fun ho h0 J=>?_);refine Vs 1<|Nss (Rg (rG 6) ?_);refine Ld J.at1<|Ld J.at0 ?_;obtain⟨h1,h2,h3⟩:=bS h;refine Cl' (cO 138) J (Hl N h0 F0 J.pers (lY G) ({Report:=I.Report,Serial:=I.Serial,Zone:=I.Zone}:Af) _ h2) ?_;rintro _ F1 h4 O hp ⟨h5,h6,rfl,h7,h8⟩;obtain⟨h9,ha,hb⟩:=bS h3;refine Cl' (cO 137) O (EB N h4 F1 O.pers h1 h5 h6 h7 h8 139 [] [] (fun M=>CH N M) (cO 139) (fun w1 F1 M r hq hc hg=>KK N w1 F1 hc M r hg) _ ha) ?_;rintro _ F2 hr hh ht rfl;refine Vs 2<|Nt<|Rt ?_;obtain rfl:=Aa hb;exact Re [.bool (!h9)] hh rfl
def Do(N:Nat)(G I J:Int):Option Bool:=
 some ((decide (I<=G))&&(decide (G<=J)))
theorem DQ(N:Nat)(w0:World)(F0:Mem)(hF:AbE w0 F0)(G J M:Int)(r:Bool)(h:Do N G J M=some r):
  Calls Tryz.prog 150 (lA [vi G,vi J,vi M]) w0 (AE w0 F0 fun F' v=>v=(.bool r)):=by
 have O:=Abj hF;refine Go 15 Tryz.func150<|sR [0] ?_;refine Vs 1<|Nss (Rg (rG 9) ?_);refine Abn (fun f w=>∃(F1:Mem),HS w0 F0 w F1 []/\Abh F0 F1/\FI f [] [(6,(.bool ((decide (J<=G))&&(decide (G<=M)))))]) ?_ ?_
 ·refine Vs 4 ?_;refine Abm (decide (J<=G)) (fun I=>?_) (fun I=>?_)
  ·refine Vgs I 3 ?_;refine Pk1 I<|Vs 1 ?_;exact Abd ⟨rfl,F0,O,Abi _,fJ ⟨congrArg Value.bool (HA I rfl),trivial⟩⟩
  ·refine Ss I 3 ?_;refine Pk0 I<|Vs 1 ?_;exact Abd ⟨rfl,F0,O,Abi _,fJ ⟨congrArg Value.bool (Im I rfl),trivial⟩⟩
 ·rintro f h0 ⟨F1,Y,h1,⟨_,rfl⟩⟩;refine Ab<|Rt ?_;obtain rfl:=Aa h;exact Re [.bool ((decide (J<=G))&&(decide (G<=M)))] Y rfl
def HK(N:Nat)(I:Bool)(G J:Int):Option Bool:=
 (bif I then((Do N G 1 J).bind fun M=>some M)else some (G==0))
theorem Ls(N:Nat)(w0:World)(F0:Mem)(hF:AbE w0 F0)(M:Bool)(G I:Int)(r:Bool)(h:HK N M G I=some r):
  Calls Tryz.prog 142 (lA [.bool M,vi G,vi I]) w0 (AE w0 F0 fun F' v=>v=(.bool r)):=by
 have J:=Abj hF;refine Go 13 Tryz.func142<|sR [0] ?_;refine Vs 1<|Nss<|sR [0] ?_;refine Vs 1<|Nt<|Cd h (fun O Y=>?_) (fun O Z=>?_)
 ·refine sR (rG 4) ?_;refine Vs 2 ?_;obtain⟨h0,h1,h2⟩:=bS Y;refine Cl' (cO 150) J (DQ N w0 F0 J.pers G 1 I _ h1) ?_;rintro _ F1 h4 h3 h5 rfl;refine Vs 1<|Nt<|Rt<|Ad ?_;obtain rfl:=Aa h2;exact Re [.bool h0] h3 rfl
 ·refine Sc ?_;refine Ab<|sR [0,1,2] ?_;refine Vs 3<|Nt<|Rt ?_;obtain rfl:=Aa Z;exact Re [.bool (G==0)] J rfl
def Cf(N:Nat)(G:Ac)(I:Af):Option Bool:=
 (((HK N G.Report I.Report 599).bind fun J=>(bif J then((HK N G.Serial I.Serial 99999).bind fun M=>(bif M then((HK N G.Zone I.Zone 99).bind fun O=>some O)else some false))else some false)).bind fun Y=>some Y)
theorem Eu(N:Nat)(w0:World)(F0:Mem)(hF:AbE w0 F0)(J:Ac)(M:Af)(r:Bool)(h:Cf N J M=some r):
  Calls Tryz.prog 78 (lA [.agg (Aj J),.agg (A9 M)]) w0 (AE w0 F0 fun F' v=>v=(.bool r)):=by
 have h3:=Abj hF;refine Go 24 Tryz.func78<|sR [0,1,2] ?_;refine Bx' 23 (Aj J) h3 (fun hw hx h4=>?_);refine Bx' 32 (A9 M) h4 (fun hy h5 Z=>?_);refine Vs 1<|Nss (Rg (rG 20) ?_);obtain⟨h1,h6,h7⟩:=bS h;refine Abn (fun f w=>∃(F1:Mem),HS w0 F0 w F1 []/\Abh F0 F1/\FI f [] [(4,(.bool h1))]) ?_ ?_
 ·refine Vs 1 ?_;refine Ld Z.at1<|Vs 1<|Ld Z.at0 ?_;obtain⟨hz,h8,h9⟩:=bS h6;refine Cl' (cO 142) Z (Ls N h5 F0 Z.pers J.Report M.Report 599 _ h8) ?_;rintro _ F2 ha O h0 rfl;refine Vs 1<|Sp h9 (fun G hb=>?_) (fun G hc=>?_)
  ·refine Vgs G 1 ?_;refine Lg G O.at1<|Vgs G 1<|Lg G O.at0 ?_;obtain⟨b0,hg,hh⟩:=bS hb;refine Cg G (cO 142) O (Ls N ha F2 O.pers J.Serial M.Serial 99999 _ hg) ?_;rintro _ F3 hm Y h2 rfl;refine Pk1 G<|Vs 1<|Sp hh (fun I hn=>?_) (fun I ho=>?_)
   ·refine Vgs I 1 ?_;refine Lg I Y.at1<|Vgs I 1<|Lg I Y.at0 ?_;obtain⟨b1,hp,hq⟩:=bS hn;refine Cg I (cO 142) Y (Ls N hm F3 Y.pers J.Zone M.Zone 99 _ hp) ?_;rintro _ F4 b2 hr ht rfl;refine Pk1 I<|Vs 1 ?_;obtain rfl:=Aa hq;exact Abd ⟨rfl,F4,hr.dr0.dr0,(h0.t h2).trans ht,fI⟩
   ·refine Ss I 5 ?_;refine Pk0 I<|Vs 1 ?_;obtain rfl:=Aa ho;exact Abd ⟨rfl,F3,Y.dr0.dr0,h0.t h2,fI⟩
  ·refine Ss G 5 ?_;refine Pk0 G<|Vs 1<|Ss rF 5<|Pk0 rF<|Vs 1 ?_;obtain rfl:=Aa hc;exact Abd ⟨rfl,F2,O.dr0.dr0,h0,fI⟩
 ·rintro f b3 ⟨F1,hu,b4,⟨_,rfl⟩⟩;refine Ab<|Rt ?_;obtain rfl:=Aa h7;exact Re [.bool h1] hu rfl
def Hm(N:Nat)(I:AbC)(x1:Int)(J:(Int->Option Bool)):Nat->Option (A4 Bool Nat):=fun G=>
 (bif(decide (G < (I).length))then((J ((ME I G).1:Int)).bind fun M=>(bif(!M)then some (.ret false)else some (.next (G + (ME I G).2))))else some (.done G))
def Hn(N:Nat)(G:AbC)(I:Int)(J:(Int->Option Bool)):Option Bool:=
 ((AF (Hm N G I J) N 0).bind fun o=>o.k (fun r=>some r) (fun h0=>((Io N (G.length:Int) 1 I).bind fun M=>some M)))
theorem Ij(N:Nat)(w0:World)(F0:Mem)(hF:AbE w0 F0)(G:AbC)(J:Int)(O:FuncId)(Z h0:List Value)(x2:Int->Option Bool)(hc:Ah Tryz.prog O)(hg:Pn F0 O Z h0 x2)(r:Bool)(h:Hn N G J x2=some r):
  Calls Tryz.prog 198 (lA [sv G,vi J,.func (.func O) Z.toArray h0.toArray]) w0 (AE w0 F0 fun F' v=>v=(.bool r)):=by
 have hh:=Abj hF;refine Go 22 Tryz.func198<|sR [0] ?_;refine Vs 1<|Nss<|sR [0,1] ?_;refine Vs 1<|RWP.srange (dst:=(some 10)) (ty:=0) (g:=none) (by kernel_rfl) rfl (t:=9) (x:=(.tmp 9)) (a:=G) rfl (by kernel_rfl) hh (fun M hm (hn:HS w0 F0 hm F0 [(some M,(.stringIter ⟨(G).toArray⟩ 0))])=>?_);refine Nt ?_;obtain⟨h5,ho,h6⟩:=bS h;refine Abo (fun f w=>∃(h7:Nat)(Y:Mem),h5=.done h7/\HS w0 F0 w Y []/\Abh F0 Y/\FI f [] [(0,(sv G)),(1,(vi J))]) ?_ ?_
 ·refine Bk ?_;refine Abg (by kernel_rfl) (fun m f w=>∃(I:Nat)(F1:Mem),AF (Hm N G J x2) m I=some h5/\HS w0 F0 w F1 [(some M,(.stringIter ⟨(G).toArray⟩ I))]/\Abh F0 F1/\FI f [] [(0,(sv G)),(1,(vi J)),(2,(.func (.func O) Z.toArray h0.toArray)),(10,(pt M 0))]) N ⟨0,F0,ho,hn,Abi _,fI⟩ ?_;rintro ba f bb ⟨I,F1,hp,h1,h2,⟨_,rfl⟩⟩;obtain⟨hq,bc,rfl,hr,h3⟩:=AB hp;refine sR [0,1] ?_;refine Sp hr (fun h4 ht=>?_) (fun h4 hu=>?_)
  ·refine RWP.snext1 (dst:=(some 11)) (ty:=0) (g:=none) (by kernel_rfl) rfl (x:=(.tmp 10)) (b:=M) (a:=G) (pos:=I) (k:=0) rfl h1 rfl h4 (fun h8 (h9:HS w0 F0 h8 F1 [(some M,(.stringIter ⟨(G).toArray⟩ (I + (ME G I).2)))])=>?_);refine Vs 1<|Nss<|C1 rT<|Sc<|Ab<|Bk<|sR [0,1] ?_;refine Vs 2<|Nss (Rg (rG 4) ?_);refine Vs 2 ?_;obtain⟨bd,hw,hx⟩:=bS ht;refine Cq hc h9 (hg h8 F1 ((ME G I).1:Int) _ h2 h9.pers hw) ?_;rintro _ F3 be ha hy rfl;refine Vs 1<|Nt<|Cd hx (fun hz b0=>?_) (fun hz b1=>?_)
   ·refine sR [0] ?_;refine Vs 1<|Nt<|Rt<|As<|Ad<|As ?_;have hret:=BC b0 h3;subst hret;refine .inr<|Ad ?_;obtain rfl:=Aa h6;exact Re [bF] ha rfl
   ·refine Sc ?_;refine Am ?_;have b2:=Ax b1 h3;exact⟨hq,Nat.lt_succ_self _,I + (ME G I).2,F3,b2,ha,h2.t hy,fI⟩
  ·refine RWP.snext0 (dst:=(some 11)) (ty:=0) (g:=none) (by kernel_rfl) rfl (x:=(.tmp 10)) (b:=M) (a:=G) (pos:=I) (k:=0) rfl h1 rfl h4 ?_;refine Vs 1<|Nss<|C0 rF<|Ex<|Ak<|Ak<|Au rfl ?_;have b3:=Az hu h3;exact .inl ⟨rfl,I,F1,b3,h1.dr0,h2,fI⟩
 ·rintro f b4 ⟨h7,Y,rfl,hb,bf,⟨_,rfl⟩⟩;have b5:=AY h6;refine Ab<|sR (rG 5) ?_;refine Vs 3 ?_;obtain⟨b6,b7,b8⟩:=bS b5;refine Cl' (cO 140) hb (Kf N b4 Y hb.pers (G.length:Int) 1 J _ b7) ?_;rintro _ F4 bg b9 bh rfl;refine Vs 1<|Nt<|Rt ?_;obtain rfl:=Aa b8;exact Re [.bool b6] b9 rfl
def BL(N:Nat)(G:Int):Option Bool:=
 some ((decide (G>=48))&&(decide (G<=57)))
theorem IZ(N:Nat)(w0:World)(F0:Mem)(hF:AbE w0 F0)(G:Int)(r:Bool)(h:BL N G=some r):
  Calls Tryz.prog 199 (lA [.int .i32 G]) w0 (AE w0 F0 fun F' v=>v=(.bool r)):=by
 have J:=Abj hF;refine Go 9 Tryz.func199<|sR [0] ?_;refine Vs 1<|Nss (Rg (rG 7) ?_);refine Abn (fun f w=>∃(F1:Mem),HS w0 F0 w F1 []/\Abh F0 F1/\FI f [] [(2,(.bool ((decide (G>=48))&&(decide (G<=57)))))]) ?_ ?_
 ·refine Vs 3 ?_;refine Abm (decide (G>=48)) (fun I=>?_) (fun I=>?_)
  ·refine Vgs I 2 ?_;refine Pk1 I<|Vs 1 ?_;exact Abd ⟨rfl,F0,J,Abi _,fJ ⟨congrArg Value.bool (HA I rfl),trivial⟩⟩
  ·refine Ss I 2 ?_;refine Pk0 I<|Vs 1 ?_;exact Abd ⟨rfl,F0,J,Abi _,fJ ⟨congrArg Value.bool (Im I rfl),trivial⟩⟩
 ·rintro f h0 ⟨F1,M,h1,⟨_,rfl⟩⟩;refine Ab<|Rt ?_;obtain rfl:=Aa h;exact Re [.bool ((decide (G>=48))&&(decide (G<=57)))] M rfl
def Cx(N:Nat)(G:Int):Option Bool:=
 some ((decide (G>=65))&&(decide (G<=90)))
theorem HJ(N:Nat)(w0:World)(F0:Mem)(hF:AbE w0 F0)(G:Int)(r:Bool)(h:Cx N G=some r):
  Calls Tryz.prog 264 (lA [.int .i32 G]) w0 (AE w0 F0 fun F' v=>v=(.bool r)):=by
 have J:=Abj hF;refine Go 9 Tryz.func264<|sR [0] ?_;refine Vs 1<|Nss (Rg (rG 7) ?_);refine Abn (fun f w=>∃(F1:Mem),HS w0 F0 w F1 []/\Abh F0 F1/\FI f [] [(2,(.bool ((decide (G>=65))&&(decide (G<=90)))))]) ?_ ?_
 ·refine Vs 3 ?_;refine Abm (decide (G>=65)) (fun I=>?_) (fun I=>?_)
  ·refine Vgs I 2 ?_;refine Pk1 I<|Vs 1 ?_;exact Abd ⟨rfl,F0,J,Abi _,fJ ⟨congrArg Value.bool (HA I rfl),trivial⟩⟩
  ·refine Ss I 2 ?_;refine Pk0 I<|Vs 1 ?_;exact Abd ⟨rfl,F0,J,Abi _,fJ ⟨congrArg Value.bool (Im I rfl),trivial⟩⟩
 ·rintro f h0 ⟨F1,M,h1,⟨_,rfl⟩⟩;refine Ab<|Rt ?_;obtain rfl:=Aa h;exact Re [.bool ((decide (G>=65))&&(decide (G<=90)))] M rfl
def EY(N:Nat)(G:Int):Option Bool:=
 (((Cx N G).bind fun I=>(bif I then some true else((BL N G).bind fun J=>some J))).bind fun M=>some M)
theorem Td(N:Nat)(w0:World)(F0:Mem)(hF:AbE w0 F0)(I:Int)(r:Bool)(h:EY N I=some r):
  Calls Tryz.prog 265 (lA [.int .i32 I]) w0 (AE w0 F0 fun F' v=>v=(.bool r)):=by
 have M:=Abj hF;refine Go 9 Tryz.func265<|sR [0] ?_;refine Vs 1<|Nss (Rg (rG 7) ?_);obtain⟨O,h0,h1⟩:=bS h;refine Abn (fun f w=>∃(F1:Mem),HS w0 F0 w F1 []/\Abh F0 F1/\FI f [] [(2,(.bool O))]) ?_ ?_
 ·refine Vs 1 ?_;obtain⟨hc,h2,h3⟩:=bS h0;refine Cl' (cO 264) M (HJ N w0 F0 M.pers I _ h2) ?_;rintro _ Y h4 J Z rfl;refine Vs 1<|Sp h3 (fun G h5=>?_) (fun G h6=>?_)
  ·refine Ss G 2 ?_;refine Pk1 G<|Vs 1 ?_;obtain rfl:=Aa h5;exact Abd ⟨rfl,Y,J,Z,fI⟩
  ·refine Vgs G 1 ?_;obtain⟨hg,h7,h8⟩:=bS h6;refine Cg G (cO 199) J (IZ N h4 Y J.pers I _ h7) ?_;rintro _ F3 hh h9 ha rfl;refine Pk0 G<|Vs 1 ?_;obtain rfl:=Aa h8;exact Abd ⟨rfl,F3,h9,Z.t ha,fI⟩
 ·rintro f hm ⟨F1,hb,hn,⟨_,rfl⟩⟩;refine Ab<|Rt ?_;obtain rfl:=Aa h1;exact Re [.bool O] hb rfl
section
open Go.Proofs Go.RowKit Go.Sort Go.Lib
def Hr(p:Int->Option Bool)(x:Nat):Bool:=(p (x:Int)).getD false
def Th(p:Int->Option Bool):Prop:=∀ x:Nat,x<=1114111->(p (x:Int)).isSome=true
def Nk(p:Int->Option Bool):Bool:=(List.range 1114112).all fun x=>(p (x:Int)).isSome
theorem KR{p:Int->Option Bool}:Nk p=true ↔ Th p:=by
 unfold Nk Th;rw[List.all_eq_true];exact⟨fun h x hx=>h x (by rw[List.mem_range];omega),fun h x hx=>h x (by rw[List.mem_range]at hx;omega)⟩
theorem Sb{w:World}{F:Mem}(hF:∀ b o,F b=some o->w.heap[b]? =some o){gq:FuncId}{k:List Value}{p:Int->Option Bool}(h:Pn F gq [] k p)(ha:Th p):PredGrows Tryz.prog gq k.toArray (Hr p) w:=by
 intro W x hx hb;have hr:=ha x hx;obtain⟨r,hr'⟩:=Option.isSome_iff_exists.1 hr;have:=h W F (x:Int) r (Abi F) (Below.pers hF hb) hr';have e:Hr p x=r:=by unfold Hr;rw[hr'];rfl
 rw[e];have he:(#[encR x]++k.toArray:Array Value)=(([]:List Value)++(([.int .i32 (x:Int)]:List Value)++k)).toArray:=by
  apply Array.ext';simp[encR]
 rw[he];refine this.mono ?_;rintro e w' ⟨v,F',rfl,hs,rfl⟩;exact⟨rfl,hs.fix.1,hs.fix.2.2,hs.fix.2.1,hs.size,hs.keep⟩
def Dm(_N:Nat)(I:AbC)(G:Int->Option Bool):Option Int:=
 if Nk G=true then some (Go.Lib.idxFunc (Hr G) true ⟨I.toArray⟩)else none
theorem L8(N:Nat)(w0:World)(F0:Mem)(hF:AbE w0 F0)(J:AbC)(G:FuncId)(I:List Value)(M:Int->Option Bool)(O:Ah Tryz.prog G)(Y:Pn F0 G [] I M)(r:Int)(h:Dm N J M=some r):
  Calls Tryz.prog 266 ([.string ⟨(J).toArray⟩,.func (.func G) ([]:List Value).toArray I.toArray]:List Value).toArray w0 (AE w0 F0 fun _ v=>v=(.int .i64 r)):=by
 unfold Dm at h;split at h
 ·rename_i ha;cases h;exact Abz hF (Tryz.strings_IndexFunc_grows G I.toArray O _ _ w0 (Sb hF Y (KR.1 ha))) rfl
 ·cases h
def CU(_N:Nat)(G:AbC)(I:Int->Option Bool)(J:Bool):Option Int:=
 if Nk I=true/\G.length<=9223372036854775807 then some (Go.Lib.lastIdxFunc (Hr I) J ⟨G.toArray⟩)else none
theorem JG(N:Nat)(w0:World)(F0:Mem)(hF:AbE w0 F0)(hG:BM F0)(J:AbC)(G:FuncId)(I:List Value)(M:Int->Option Bool)(Y:Ah Tryz.prog G)(Z:Pn F0 G [] I M)(O:Bool)(r:Int)(h:CU N J M O=some r):
  Calls Tryz.prog 284 ([.string ⟨(J).toArray⟩,.func (.func G) ([]:List Value).toArray I.toArray,.bool O]:List Value).toArray w0 (AE w0 F0 fun _ v=>v=(.int .i64 r)):=by
 unfold CU at h;split at h
 ·rename_i ha;cases h;exact Abz hF (Tryz.strings_lastIndexFunc_grows G I.toArray Y _ _ _ w0 (by simpa [ByteArray.size]using ha.2) (hG w0 hF).2.1 (Sb hF Z (KR.1 ha.1))) rfl
 ·cases h
def Sz(s sep:AbC):List AbC:=(Go.Lib.splitB ⟨sep.toArray⟩ 0 (Go.Lib.countB ⟨s.toArray⟩ ⟨sep.toArray⟩) ⟨s.toArray⟩).map (·.data.toList)
def strings_Split(_N:Nat)(s sep:AbC):Option (List AbC):=if s.length < 4294967281/\1<=sep.length then some (Sz s sep)else none
theorem Ei(N:Nat)(w0:World)(F0:Mem)(hF:AbE w0 F0)(hG:BM F0)(I G:AbC)(r:List AbC)(h:strings_Split N I G=some r):
  Calls Tryz.prog 93 ([.string ⟨(I).toArray⟩,.string ⟨(G).toArray⟩]:List Value).toArray w0 (AE w0 F0 fun F' v=>∃(M:AbD)(O:Nat),v=(.slice M r.length O)/\LC r.length O/\SlA AJ F' M r):=by
 unfold strings_Split at h;split at h
 ·rename_i ha;cases h;obtain⟨m,hm⟩:=(hG w0 hF).2.2.1;have hs:(⟨I.toArray⟩:ByteArray).size < 4294967281:=by simpa [ByteArray.size]using ha.1
  have J:1<=(⟨G.toArray⟩:ByteArray).size:=by simpa [ByteArray.size]using ha.2
  have hle:=Go.Lib.countB_le ⟨G.toArray⟩ J _ ⟨I.toArray⟩ (Nat.le_refl _);exact AE.strs hF (Tryz.strings_Split _ _ m w0 hs hm J) (Go.Lib.splitB_all ⟨G.toArray⟩ J 0 _ _ rfl) (by omega)
 ·cases h
def strings_Cut(_N:Nat)(s sep:AbC):Option (AbC×AbC×Bool):=if s.length < 4294967281 then some (Go.Lib.cut s sep)else none
theorem Mv(N:Nat)(w0:World)(F0:Mem)(hF:AbE w0 F0)(hG:BM F0)(G I:AbC)(r:AbC×AbC×Bool)(h:strings_Cut N G I=some r):
  Calls Tryz.prog 164 ([.string ⟨(G).toArray⟩,.string ⟨(I).toArray⟩]:List Value).toArray w0 (AE w0 F0 fun _ v=>v=(.tuple #[.string ⟨(r.1).toArray⟩,.string ⟨(r.2.1).toArray⟩,.bool r.2.2])):=by
 unfold strings_Cut at h;split at h
 ·rename_i ha;cases h;obtain⟨m,hm⟩:=(hG w0 hF).2.2.1;refine Abz hF ((Tryz.strings_Cut ⟨G.toArray⟩ ⟨I.toArray⟩ m w0 (by simpa [ByteArray.size]using ha) hm).mono ?_) rfl;rintro e w' ⟨rfl,n,rfl⟩;exact⟨rfl,Uo _ _⟩
 ·cases h
def strings_Repeat(_N:Nat)(s:AbC)(n:Int):Option AbC:=if 0<=n/\n<=9223372036854775807/\s.length * n.toNat<=140737488355328 then some (Go.Lib.repeatL s n.toNat)else none
theorem OW(N:Nat)(w0:World)(F0:Mem)(hF:AbE w0 F0)(I:AbC)(G:Int)(r:AbC)(h:strings_Repeat N I G=some r):
  Calls Tryz.prog 186 ([.string ⟨(I).toArray⟩,.int .i64 G]:List Value).toArray w0 (AE w0 F0 fun _ v=>v=(.string ⟨(r).toArray⟩)):=by
 unfold strings_Repeat at h;split at h
 ·rename_i ha;cases h;have e:(G.toNat:Int)=G:=by omega
  have:=Tryz.strings_Repeat ⟨I.toArray⟩ G.toNat w0 (by omega) (by simpa [ByteArray.size]using ha.2.2);rw[e]at this;exact Abz hF this rfl
 ·cases h
def strings_Join(_N:Nat)(l:List AbC)(sep:AbC):Option AbC:=if l.length<=140737488355328/\(Go.Lib.join l sep).length<=140737488355328 then some (Go.Lib.join l sep)else none
theorem DP(N:Nat)(w0:World)(F0:Mem)(hF:AbE w0 F0)(G:(List AbC))(M:AbD)(I:Nat)(O:LC G.length I)(Y:SlA AJ F0 M G)(J r:AbC)(h:strings_Join N G J=some r):
  Calls Tryz.prog 84 ([.slice M G.length I,.string ⟨(J).toArray⟩]:List Value).toArray w0 (AE w0 F0 fun _ v=>v=(.string ⟨(r).toArray⟩)):=by
 unfold strings_Join at h;split at h
 ·rename_i ha;cases h;rcases Y with rfl | ⟨b,o,C,E,fz,rfl,hC,hx⟩
  ·refine Abz hF ((Tryz.strings_Join_none M I ⟨J.toArray⟩ w0).mono ?_) rfl;rintro e w' ⟨rfl,rfl⟩;exact⟨rfl,Below.refl _ _⟩
  ·have hb:=hF _ _ hC;have hmap:(G.map fun l=>(⟨l.toArray⟩:ByteArray)).map (·.data.toList)=G:=by
    rw[List.map_map];conv=>rhs;rw[<-List.map_id G]
    exact List.map_congr_left fun l _=>by simp
   have:=Tryz.strings_Join b o I (G.map fun l=>⟨l.toArray⟩) ⟨J.toArray⟩ w0 (fun j x hj=>by
    rw[List.getElem?_map]at hj;cases hl:G[j]? with
    | none=>rw[hl]at hj;cases hj
    | some l=>
     rw[hl]at hj;cases hj;have hc:Av C (o + j * 1) 1=[.string ⟨l.toArray⟩]:=hx j l hl;rw[Nat.mul_one]at hc;have:=Lk.1 hc;simp[World.cell?,hb,this]) (Bv hb) (by simpa using ha.1) (by simpa using O.1) (by rw[hmap];exact ha.2)
   rw[hmap,List.length_map]at this;exact Abz hF this rfl
 ·cases h
def strconv_Itoa(_N:Nat)(n:Int):Option AbC:=if -9223372036854775808<=n/\n<=9223372036854775807 then some (Go.Lib.itoa n)else none
theorem A7(N:Nat)(w0:World)(F0:Mem)(hF:AbE w0 F0)(hG:BM F0)(G:Int)(r:AbC)(h:strconv_Itoa N G=some r):
  Calls Tryz.prog 85 ([.int .i64 G]:List Value).toArray w0 (AE w0 F0 fun _ v=>v=(.string ⟨(r).toArray⟩)):=by
 unfold strconv_Itoa at h;split at h
 ·rename_i ha;cases h;refine Abz hF ((Tryz.strconv_Itoa G ha.1 ha.2 w0 (hG w0 hF).1).mono ?_) rfl;rintro e w' ⟨rfl,k,os,rfl⟩;exact⟨rfl,rfl,rfl,rfl,by simp[grow,World.drewN],fun j hj=>by
   show((w0.drewN k).heap++os)[j]? =_;rw[Array.getElem?_append_left (show j < (w0.drewN k).heap.size from hj)];rfl⟩
 ·cases h
def CJ(_N:Nat)(s:AbC):Option (Int×Bool):=if s.length<=281474976710656 then(match Go.Lib.atoiAll s with
 | .ok v=>some (v,false)
 | .range=>some (Go.Lib.atoiSat s,true)
 | _=>some (0,true))else none
theorem Lm(N:Nat)(w0:World)(F0:Mem)(hF:AbE w0 F0)(hG:BM F0)(G:AbC)(r:Int×Bool)(h:CJ N G=some r):
  Calls Tryz.prog 163 ([.string ⟨(G).toArray⟩]:List Value).toArray w0 (AE w0 F0 fun _ v=>∃(I:Value),v=(.tuple #[.int .i64 r.1,I])/\AaV r.2 I):=by
 unfold CJ at h;split at h
 ·rename_i ha;have hsz:(⟨G.toArray⟩:ByteArray).size<=281474976710656:=by simpa [ByteArray.size]using ha
  cases hv:Go.Lib.atoiAll G with
  | ok v=>
   rw[hv]at h;cases h;refine Abz hF ((Tryz.strconv_Atoi_ok ⟨G.toArray⟩ (by omega) v (by simpa using hv) w0).mono ?_) ⟨.nilIface,rfl,rfl⟩;rintro e w' ⟨rfl,(rfl | ⟨t,rfl⟩)⟩
   ·exact⟨rfl,Below.refl _ _⟩
   ·exact⟨rfl,rfl,rfl,rfl,by rw[Go.Lib.bytesWorld_size];omega,fun j hj=>Go.Lib.bytesWorld_at_old w0 _ _ j hj⟩
  | range=>
   rw[hv]at h;cases h;obtain⟨tp,p,hvar⟩:=(hG w0 hF).2.2.2.1;refine(Tryz.strconv_Atoi_range_var ⟨G.toArray⟩ hsz (by simpa using hv) tp p w0 hvar).mono ?_;rintro e w' ⟨n,rfl,_,_,hb⟩;exact⟨_,F0,rfl,HS.below hF hb,_,rfl,_,_,rfl⟩
  | _=>
   rw[hv]at h;cases h;obtain⟨tp,p,hvar⟩:=(hG w0 hF).2.2.2.2;refine(Tryz.strconv_Atoi_syntax_var ⟨G.toArray⟩ hsz (by simpa using hv) tp p w0 hvar).mono ?_;rintro e w' ⟨n,rfl,_,_,hb⟩;exact⟨_,F0,rfl,HS.below hF hb,_,rfl,_,_,rfl⟩
 ·cases h
def strings_Index(_N:Nat)(s sub:AbC):Option Int:=if s.length < 4294967281 then some (Go.Lib.index s sub)else none
theorem Ky(N:Nat)(w0:World)(F0:Mem)(hF:AbE w0 F0)(hG:BM F0)(G I:AbC)(r:Int)(h:strings_Index N G I=some r):
  Calls Tryz.prog 98 ([.string ⟨(G).toArray⟩,.string ⟨(I).toArray⟩]:List Value).toArray w0 (AE w0 F0 fun _ v=>v=(.int .i64 r)):=by
 unfold strings_Index at h;split at h
 ·rename_i ha;cases h;obtain⟨m,hm⟩:=(hG w0 hF).2.2.1;exact Abz hF ((Tryz.strings_Index ⟨G.toArray⟩ ⟨I.toArray⟩ m w0 (by simpa [ByteArray.size]using ha) hm).mono fun e w' ⟨he,hw⟩=>⟨he,hw ▸ Below.refl _ _⟩) rfl
 ·cases h
def strings_CutPrefix(_N:Nat)(s p:AbC):Option (AbC×Bool):=some (Go.Lib.trimPrefix s p,Go.Lib.hasPrefix s p)
theorem Bu(N:Nat)(w0:World)(F0:Mem)(hF:AbE w0 F0)(G I:AbC)(r:AbC×Bool)(h:strings_CutPrefix N G I=some r):
  Calls Tryz.prog 189 ([.string ⟨(G).toArray⟩,.string ⟨(I).toArray⟩]:List Value).toArray w0 (AE w0 F0 fun _ v=>v=(.tuple #[.string ⟨(r.1).toArray⟩,.bool r.2])):=by
 cases h;exact Abz hF ((Tryz.strings_CutPrefix ⟨G.toArray⟩ ⟨I.toArray⟩ w0).mono fun e w' ⟨he,hw⟩=>⟨he,hw ▸ Below.refl _ _⟩) rfl
def strings_TrimSuffix(_N:Nat)(s p:AbC):Option AbC:=if s.length<=9223372036854775807 then some (Go.Lib.trimSuffix s p)else none
theorem Ll(N:Nat)(w0:World)(F0:Mem)(hF:AbE w0 F0)(G I r:AbC)(h:strings_TrimSuffix N G I=some r):
  Calls Tryz.prog 117 ([.string ⟨(G).toArray⟩,.string ⟨(I).toArray⟩]:List Value).toArray w0 (AE w0 F0 fun _ v=>v=(.string ⟨(r).toArray⟩)):=by
 unfold strings_TrimSuffix at h;split at h
 ·rename_i ha;cases h;exact Abz hF ((Tryz.strings_TrimSuffix ⟨G.toArray⟩ ⟨I.toArray⟩ w0 (by simpa [ByteArray.size]using ha)).mono fun e w' ⟨he,hw⟩=>⟨he,hw ▸ Below.refl _ _⟩) rfl
 ·cases h
end
def Ho(N:Nat)(I:AbC):Option Bool:=
 (((Hn N I 4 (fun G=>EY N G)).bind fun J=>(bif J then((Dm N I (fun G=>Cx N G)).bind fun M=>some (decide (M>=0)))else some false)).bind fun O=>some O)
theorem M8(N:Nat)(w0:World)(F0:Mem)(hF:AbE w0 F0)(J:AbC)(r:Bool)(h:Ho N J=some r):
  Calls Tryz.prog 225 (lA [sv J]) w0 (AE w0 F0 fun F' v=>v=(.bool r)):=by
 have Z:=Abj hF;refine Go 10 Tryz.func225<|sR [0] ?_;refine Vs 1<|Nss (Rg (rG 8) ?_);obtain⟨h0,h2,h3⟩:=bS h;refine Abn (fun f w=>∃(F1:Mem),HS w0 F0 w F1 []/\Abh F0 F1/\FI f [] [(2,(.bool h0))]) ?_ ?_
 ·refine Vs 1 ?_;obtain⟨hm,h4,h5⟩:=bS h2;refine Cl' (cO 198) Z (Ij N w0 F0 Z.pers J 4 265 [] [] (fun G=>EY N G) (cO 265) (fun w1 F1 G r h6 M O=>Td N w1 F1 M G r O) _ h4) ?_;rintro _ F2 h7 Y h1 rfl;refine Vs 1<|Sp h5 (fun I h8=>?_) (fun I h9=>?_)
  ·refine Vgs I 1 ?_;obtain⟨hn,ha,hb⟩:=bS h8;refine Cg I (cO 266) Y (L8 N h7 F2 Y.pers J 264 [] (fun G=>Cx N G) (cO 264) (fun w1 F1 G r h6 M O=>HJ N w1 F1 M G r O) _ ha) ?_;rintro _ F3 ho hc hg rfl;refine Vgs I 1<|Pk1 I<|Vs 1 ?_;obtain rfl:=Aa hb;exact Abd ⟨rfl,F3,hc,h1.t hg,fI⟩
  ·refine Ss I 3 ?_;refine Pk0 I<|Vs 1 ?_;obtain rfl:=Aa h9;exact Abd ⟨rfl,F2,Y,h1,fI⟩
 ·rintro f hp ⟨F1,hh,hq,⟨_,rfl⟩⟩;refine Ab<|Rt ?_;obtain rfl:=Aa h3;exact Re [.bool h0] hh rfl
def Cn(N:Nat)(G:AbC)(I:(Int->Option Bool)):Option Int:=
 ((CU N G I true).bind fun J=>some J)
theorem JH(N:Nat)(w0:World)(F0:Mem)(hF:AbE w0 F0)(hG:BM F0)(I:AbC)(G:FuncId)(J:List Value)(M:Int->Option Bool)(Y:Ah Tryz.prog G)(Z:Pn F0 G [] J M)(r:Int)(h:Cn N I M=some r):
  Calls Tryz.prog 263 (lA [sv I,.func (.func G) (lA []) J.toArray]) w0 (AE w0 F0 fun F' v=>v=(vi r)):=by
 have O:=Abj hF;refine Go 8 Tryz.func263<|sR [0] ?_;refine Vs 1<|Nss (Rg (rG 4) ?_);refine Vs 2 ?_;obtain⟨h0,h1,h2⟩:=bS h;refine Cl' (cO 284) O (JG N w0 F0 O.pers hG I G J M Y (fun w1 F1 y0 r h3 h4 h5=>Z w1 F1 y0 r h3 h4 h5) true _ h1) ?_;rintro _ F1 h7 h6 h8 rfl;refine Vs 1<|Nt<|Rt ?_;obtain rfl:=Aa h2;exact Re [vi h0] h6 rfl
def Om(N:Nat)(G:AbC):Option (AbC×AbC×Bool):=
 ((Cn N G (fun J=>BL N J)).bind fun M=>(((HT G 0 (W64 (M + 1))).bind fun O=>((HT G (W64 (M + 1)) (G.length:Int)).bind fun Y=>some (O,Y))).bind fun I=>((bif(decide ((W64 (M + 1)) > 0))then((Ho N I.1).bind fun Z=>(bif Z then((Hn N I.2 4 (fun J=>Cx N J)).bind fun h0=>some h0)else some false))else some false).bind fun h1=>some (I.1,I.2,h1))))
theorem Vf(N:Nat)(w0:World)(F0:Mem)(hF:AbE w0 F0)(hG:BM F0)(J:AbC)(r:(AbC×AbC×Bool))(h:Om N J=some r):
  Calls Tryz.prog 222 (lA [sv J]) w0 (AE w0 F0 fun F' v=>v=(.tuple #[sv r.1,sv r.2.1,.bool r.2.2])):=by
 have h4:=Abj hF;refine Go 27 Tryz.func222<|sR [0,1,2] ?_;refine Vs 3<|Nss (Rg (rG 4) ?_);refine Vs 1 ?_;obtain⟨Z,h9,ha⟩:=bS h;refine Cl' (cO 263) h4 (JH N w0 F0 h4.pers hG J 199 [] (fun I=>BL N I) (cO 199) (fun w1 F1 I r hb h0 h1=>IZ N w1 F1 h0 I r h1) _ h9) ?_;rintro _ F1 b9 hc ba rfl;refine Vs 2<|Nss ?_;obtain⟨G,hg,hh⟩:=bS ha;refine RD 8 8 [] [] hc (fun f w=>∃(M:Mem),HS w0 F0 w M []/\Abh F1 M/\FI f [] [(2,(sv G.1)),(3,(sv G.2)),(5,(vi (W64 (Z + 1))))]) (fun bb hm=>?_) ?_
 ·refine Dv [0,1] ?_;obtain⟨h5,hn,ho⟩:=bS hg;refine Dt 2 11 9 (sv h5) (fun _ hq=>Dn (t:=9) (x:=(.tmp 9)) (lo:=none) (hi:=(some (.tmp 10))) (a:=J) (il:=0) (ih:=(W64 (Z + 1))) (v:=h5) rfl (by kernel_rfl) rfl rfl hn)<|Dv [3,4] ?_;obtain⟨h6,hp,hr⟩:=bS ho;refine Dt 5 14 9 (sv h6) (fun _ hq=>Dn (t:=9) (x:=(.tmp 12)) (lo:=(some (.tmp 13))) (hi:=none) (a:=J) (il:=(W64 (Z + 1))) (ih:=(J.length:Int)) (v:=h6) rfl (by kernel_rfl) rfl rfl hp)<|Dv [6,7] ?_;obtain rfl:=Aa hr;exact Abu (by kernel_rfl) ⟨F1,hm,Abi _,fI⟩
 ·rintro f ht ⟨M,h2,bc,⟨_,rfl⟩⟩;refine Ab<|sR (rG 15) ?_;obtain⟨h7,hu,hw⟩:=bS hh;refine Abn (fun f w=>∃(F3:Mem),HS w0 F0 w F3 []/\Abh M F3/\FI f [] [(2,(sv G.1)),(3,(sv G.2)),(4,(.bool h7))]) ?_ ?_
  ·refine Vs 5 ?_;refine Sp hu (fun O hx=>?_) (fun O hy=>?_)
   ·refine Vgs O 1 ?_;obtain⟨bd,hz,b0⟩:=bS hx;refine Cg O (cO 225) h2 (M8 N ht M h2.pers G.1 _ hz) ?_;rintro _ F4 b1 h3 h8 rfl;refine Pk1 O<|Vs 1<|Sp b0 (fun Y b2=>?_) (fun Y b3=>?_)
    ·refine Vgs Y 1 ?_;obtain⟨be,b4,b5⟩:=bS b2;refine Cg Y (cO 198) h3 (Ij N b1 F4 h3.pers G.2 4 264 [] [] (fun I=>Cx N I) (cO 264) (fun w1 F1 I r hb h0 h1=>HJ N w1 F1 h0 I r h1) _ b4) ?_;rintro _ F5 bf b6 b7 rfl;refine Pk1 Y<|Vs 3 ?_;obtain rfl:=Aa b5;exact Abd ⟨rfl,F5,b6,h8.t b7,fI⟩
    ·refine Ss Y 2 ?_;refine Pk0 Y<|Vs 3 ?_;obtain rfl:=Aa b3;exact Abd ⟨rfl,F4,h3,h8,fI⟩
   ·refine Ss O 2 ?_;refine Pk0 O<|Vs 1<|Ss rF 2<|Pk0 rF<|Vs 3 ?_;obtain rfl:=Aa hy;exact Abd ⟨rfl,M,h2,Abi _,fI⟩
  ·rintro f bg ⟨F3,b8,bh,⟨_,rfl⟩⟩;refine Ab<|Rt ?_;obtain rfl:=Aa hw;exact Re [sv G.1,sv G.2,.bool h7] b8 rfl
def AN(N:Nat)(I:AbC):Option (BF×Bool):=
 ((Om N I).bind fun G=>some (({Area:=([]:AbC),Prefix:=G.1,Suffix:=G.2.1,Stroke:=([]:AbC)}:BF),G.2.2))
theorem G4(N:Nat)(w0:World)(F0:Mem)(hF:AbE w0 F0)(hG:BM F0)(I:AbC)(r:(BF×Bool))(h:AN N I=some r):
  Calls Tryz.prog 221 (lA [sv I]) w0 (AE w0 F0 fun F' v=>v=(.tuple #[.agg (D5 r.1),.bool r.2])):=by
 have O:=Abj hF;refine Go 17 Tryz.func221<|sR [0,1] ?_;refine Al' 186 #[sE,sE,sE,sE] O (fun Y Z J=>?_);refine Vs 1<|Nss (Rg (rG 9) ?_);refine Vs 1 ?_;obtain⟨G,h0,h1⟩:=bS h;refine Cl' (cO 222) J (Vf N Z F0 J.pers hG I _ h0) ?_;rintro _ F1 h3 h2 h4 rfl;refine Vs 7<|Nss (Rg (rG 6) ?_);refine Vs 4<|St0 #[sE,sv G.1,sv G.2.1,sE] h2 (fun h5 M=>?_);refine Vs 1<|Nt<|Rt ?_;obtain rfl:=Aa h1;exact⟨rfl,.tuple #[.agg #[sE,sv G.1,sv G.2.1,sE],.bool G.2.2],AL (l:=[.cell 2 186,.tmp 3]) (by kernel_rfl) (vs:=[.agg #[sE,sv G.1,sv G.2.1,sE],.bool G.2.2]) ⟨Y,0,rfl,Al (t:=186) (g:=true) (s:=4) (by kernel_rfl) M.at0 rfl (by decide),⟨rfl,trivial⟩⟩,.tuple #[.agg #[sE,sv G.1,sv G.2.1,sE],.bool G.2.2],F1,rfl,M.clear,rfl⟩
def EX(N:Nat)(J:(List AbC))(z0:(AbC->Option (BF×Bool))):Option (BF×Bool):=
 (((idx J 0).bind fun M=>((z0 M).bind fun G=>some (G.2,G.1.Area,G.1.Prefix,G.1.Suffix,G.1.Stroke))).bind fun I=>some (({Area:=I.2.1,Prefix:=I.2.2.1,Suffix:=I.2.2.2.1,Stroke:=I.2.2.2.2}:BF),I.1))
theorem RX(N:Nat)(w0:World)(F0:Mem)(hF:AbE w0 F0)(M:(List AbC))(h0:AbD)(h1:Nat)(hy:LC M.length h1)(h6:SlA AJ F0 h0 M)(h2:Nat)(z0:(AbC->Option (BF×Bool)))(O:FuncId)(I J:List Value)(h7:Ah Tryz.prog O)(h8:LG F0 O I J z0)(h9:F0 h2=some (oc #[.func (.func O) I.toArray J.toArray] 188))(r:(BF×Bool))(h:EX N M z0=some r):
  Calls Tryz.prog 223 (lA [sL h0 M h1,pt h2 0]) w0 (AE w0 F0 fun F' v=>v=(.tuple #[.agg (D5 r.1),.bool r.2])):=by
 have ha:=Abj hF;refine Go 12 Tryz.func223<|sR [0,1] ?_;refine Al' 186 #[sE,sE,sE,sE] ha (fun Y hz hb=>?_);refine Vs 1<|Nss ?_;obtain⟨G,hc,hg⟩:=bS h;refine RD 9 9 [] [] hb (fun f w=>∃(F1:Mem),HS w0 F0 w F1 [sb Y #[sv G.2.1,sv G.2.2.1,sv G.2.2.2.1,sv G.2.2.2.2] 186]/\Abh F0 F1/\FI f [] [(3,(pt Y 0)),(4,(.bool G.1))]) (fun hh h3=>?_) ?_
 ·refine Dl 0 (fun _ hq=>(hq.1.1 _ _ h9)) ?_;refine Dv [1] ?_;obtain⟨Z,hm,hn⟩:=bS hc;obtain⟨ho,hx36'⟩:=Ag hm;obtain⟨b0,b1,b2,b3,b4,rfl,hF45,hE46⟩:=Abp h6 hx36';have hp:=hE46 _ _ hx36';refine Di 2 ho<|Dx 3 0 (fun _ hq=>hq.1.1 _ _ hF45) hp<|D1 4 ?_;obtain⟨hr,ht,hu⟩:=bS hn;refine Abt (l':=[tt,tt,tt,tt,tt,ff,ff,ff,ff]) (zd:=true) (by kernel_rfl) (by kernel_rfl) (by kernel_rfl) (dst:=(some 9)) (ty:=187) (g:=none) (by kernel_rfl) rfl (f0:=(.tmp 5)) (aos:=#[.tmp 8]) (ats:=#[9]) (fid:=O) (first:=I.toArray) (cap:=J.toArray) (args:=(I++(([sv Z]:List Value)++J))) rfl h7 (FX (l:=[sv Z]) (fi:=I) (k:=J) rfl) h3 (h8 hh F0 Z _ (Abi _) h3.pers ht) ?_;rintro _ F2 b5 hw h4 rfl;refine Dv [5,6]<|D1 7<|Fc (D5 hr.1) hw h4 (fun b6 hx=>?_);refine Dv [8] ?_;obtain rfl:=Aa hu;exact Abu (by kernel_rfl) ⟨F2,hx,h4,fI⟩
 ·rintro f b7 ⟨F1,h5,b8,⟨_,rfl⟩⟩;refine Ab<|Rt ?_;obtain rfl:=Aa hg;exact⟨rfl,.tuple #[.agg #[sv G.2.1,sv G.2.2.1,sv G.2.2.2.1,sv G.2.2.2.2],.bool G.1],AL (l:=[.cell 3 186,.tmp 4]) (by kernel_rfl) (vs:=[.agg #[sv G.2.1,sv G.2.2.1,sv G.2.2.2.1,sv G.2.2.2.2],.bool G.1]) ⟨Y,0,rfl,Al (t:=186) (g:=true) (s:=4) (by kernel_rfl) h5.at0 rfl (by decide),⟨rfl,trivial⟩⟩,.tuple #[.agg #[sv G.2.1,sv G.2.2.1,sv G.2.2.2.1,sv G.2.2.2.2],.bool G.1],F1,rfl,h5.clear,rfl⟩
def EW(N:Nat)(I:(List AbC))(z0:(AbC->Option (BF×Bool))):Option (BF×Bool):=
 (((idx I 1).bind fun Y=>((z0 Y).bind fun J=>some (J.2,J.1.Area,J.1.Prefix,J.1.Suffix,J.1.Stroke))).bind fun G=>((idx I 0).bind fun O=>((bif G.1 then((idx I 0).bind fun Z=>((Ho N Z).bind fun h0=>(bif h0 then((idx I 0).bind fun h1=>((idx I 1).bind fun h2=>some ((decide ((h1.length:Int) < (h2.length:Int))),O,G.2.2.1,G.2.2.2.1,G.2.2.2.2)))else some (false,O,G.2.2.1,G.2.2.2.1,G.2.2.2.2))))else some (false,O,G.2.2.1,G.2.2.2.1,G.2.2.2.2)).bind fun M=>some (({Area:=M.2.1,Prefix:=M.2.2.1,Suffix:=M.2.2.2.1,Stroke:=M.2.2.2.2}:BF),M.1))))
theorem RW(N:Nat)(w0:World)(F0:Mem)(hF:AbE w0 F0)(Y:(List AbC))(hb:AbD)(h2:Nat)(cl:LC Y.length h2)(hn:SlA AJ F0 hb Y)(ho:Nat)(z0:(AbC->Option (BF×Bool)))(h7:FuncId)(Z h0:List Value)(hp:Ah Tryz.prog h7)(hr:LG F0 h7 Z h0 z0)(b0:F0 ho=some (oc #[.func (.func h7) Z.toArray h0.toArray] 188))(r:(BF×Bool))(h:EW N Y z0=some r):
  Calls Tryz.prog 224 (lA [sL hb Y h2,pt ho 0]) w0 (AE w0 F0 fun F' v=>v=(.tuple #[.agg (D5 r.1),.bool r.2])):=by
 have b1:=Abj hF;refine Go 38 Tryz.func224<|sR [0,1] ?_;refine Al' 186 #[sE,sE,sE,sE] b1 (fun h3 cm b2=>?_);refine Vs 1<|Nss ?_;obtain⟨G,b3,b4⟩:=bS h;refine RD 11 11 [sb h3 #[sE,sE,sE,sE] 186] [] b2 (fun f w=>∃(F1:Mem)(h9:Nat),HS w0 F0 w F1 [sb h9 #[sv G.2.1,sv G.2.2.1,sv G.2.2.2.1,sv G.2.2.2.2] 186,sb h3 #[sE,sE,sE,sE] 186]/\Abh F0 F1/\FI f [] [(0,(sL hb Y h2)),(3,(pt h3 0)),(5,(pt h9 0)),(6,(.bool G.1))]) (fun b5 hc=>?_) ?_
 ·refine Dl 0 (fun _ hq=>(hq.1.1 _ _ b0)) ?_;refine Dv [1] ?_;obtain⟨h4,b6,ht⟩:=bS b3;obtain⟨b7,hx39'⟩:=Ag b6;obtain⟨cn,co,cp,cq,cr,rfl,hF48,hE49⟩:=Abp hn hx39';have b8:=hE49 _ _ hx39';refine Di 2 b7<|Dx 3 0 (fun _ hq=>hq.1.1 _ _ hF48) b8<|Abq (i:=4) (j:=8) (by kernel_rfl) ?_ ?_
  ·obtain⟨b9,ba,bb⟩:=bS ht;refine Abt (l':=[tt,tt,tt,tt,tt,ff,ff,ff,ff,ff,ff]) (zd:=true) (by kernel_rfl) (by kernel_rfl) (by kernel_rfl) (dst:=(some 12)) (ty:=187) (g:=none) (by kernel_rfl) rfl (f0:=(.tmp 8)) (aos:=#[.tmp 11]) (ats:=#[9]) (fid:=h7) (first:=Z.toArray) (cap:=h0.toArray) (args:=(Z++(([sv h4]:List Value)++h0))) rfl hp (FX (l:=[sv h4]) (fi:=Z) (k:=h0) rfl) hc (hr b5 F0 h4 _ (Abi _) hc.pers ba) ?_;rintro _ F2 ct bc hg rfl;refine Dv [5,6,7]<|D1 8<|DAl 186 #[sE,sE,sE,sE] bc hg (fun bd cu be=>?_);refine D1 9<|Fc (D5 b9.1) be hg (fun cv bf=>?_);refine Dv [10] ?_;obtain rfl:=Aa bb;exact Abu (by kernel_rfl) ⟨F2,bd,bf,hg,fI⟩
  ·refine DAl 186 #[sE,sE,sE,sE] hc (Abi _) (fun bg bh hu=>?_);refine D1 4 ?_;obtain⟨bi,bj,bk⟩:=bS ht;refine Abt (l':=[tt,tt,tt,tt,tt,ff,ff,ff,tt,ff,ff]) (zd:=true) (by kernel_rfl) (by kernel_rfl) (by kernel_rfl) (dst:=(some 12)) (ty:=187) (g:=none) (by kernel_rfl) rfl (f0:=(.tmp 8)) (aos:=#[.tmp 11]) (ats:=#[9]) (fid:=h7) (first:=Z.toArray) (cap:=h0.toArray) (args:=(Z++(([sv h4]:List Value)++h0))) rfl hp (FX (l:=[sv h4]) (fi:=Z) (k:=h0) rfl) hu (hr bh F0 h4 _ (Abi _) hu.pers bj) ?_;rintro _ F3 cw bl hw rfl;refine Dv [5,6,7]<|D1 9<|Fc (D5 bi.1) bl hw (fun cx bm=>?_);refine Dv [10] ?_;obtain rfl:=Aa bk;exact Abu (by kernel_rfl) ⟨F3,bg,bm,hw,fI⟩
 ·rintro f cy ⟨F1,h9,hx,bn,⟨_,rfl⟩⟩;refine Ab<|sR (rG 5) ?_;refine Vs 1 ?_;obtain⟨h8,bo,bp⟩:=bS b4;obtain⟨bq,hx79'⟩:=Ag bo;obtain⟨M,O,cz,d0,d1,rfl,hF88,hE89⟩:=Abp (Abk hn bn) hx79';have br:=hE89 _ _ hx79';refine Ix bq<|Lx 0 (hx.pers _ _ hF88) br<|Vs 1<|St0 #[sv h8,sv G.2.2.1,sv G.2.2.2.1,sv G.2.2.2.2] hx (fun d2 bs=>?_);refine Nss ?_;obtain⟨I,bt,bu⟩:=bS bp;refine RD 21 21 [sb h9 #[sv h8,sv G.2.2.1,sv G.2.2.2.1,sv G.2.2.2.2] 186] [] bs (fun f w=>∃(F4:Mem),HS w0 F0 w F4 [sb h3 #[sv I.2.1,sv I.2.2.1,sv I.2.2.2.1,sv I.2.2.2.2] 186]/\Abh F1 F4/\FI f [] [(3,(pt h3 0)),(4,(.bool I.1))]) (fun bv hh=>?_) ?_
  ·refine Dl 0 (fun _ hq=>(hq.1.2 0 _ _ rfl)) ?_;refine Dvl [1,2] (tf 3 18)<|Sd bt (fun h1 bw=>?_) (fun h1 bx=>?_)
   ·refine Dgl 3 22 55 _ (tf 4 17) 2 true 21 h1 (fun _ hq=>mv 0 (.slice (some ⟨M,O,none⟩) Y.length h2)) ?_;obtain⟨hm,bz,c0⟩:=bS bw;obtain⟨c1,hx109'⟩:=Ag bz;have c3:=hE89 _ _ hx109';refine Dgl 4 23 0 (.pointer (some ⟨M,O + (0:Int).toNat * 1,none⟩)) (tf 5 16) 2 true 21 h1 (fun _ hq=>Ce (t:=55) (x:=(.tmp 22)) (y:=(.const (vi 0))) (b:=M) (o:=O) (E:=9) (s:=1) (by_:=16) rfl rfl (by kernel_rfl) c1)<|Dgl 5 24 9 _ (tf 6 15) 2 true 21 h1 (fun _ hq=>lx 9 23 0 1 false 1 (sv hm) (hq.1.1 _ _ hF88) c3)<|D1 6 ?_;obtain⟨c4,c5,c6⟩:=bS c0;refine Abt (l':=[tt,tt,tt,tt,tt,tt,tt,ff,ff,ff,ff,ff,ff,ff,ff,ff,ff,ff,ff,ff,ff]) (zd:=true) (by kernel_rfl) (by kernel_rfl) (by kernel_rfl) (dst:=(some 25)) (ty:=4) (g:=(some (2,true))) (by kernel_rfl) (J2 (d:=21) (by kernel_rfl) rfl h1) (f0:=(.func 225)) (aos:=#[.tmp 24]) (ats:=#[9]) (fid:=225) (first:=#[]) (cap:=#[]) (args:=[sv hm]) rfl (cO 225) rfl hh (M8 N bv F1 hh.pers hm _ c5) ?_;rintro _ F5 d3 hy ha rfl;refine Dtl 7 26 4 _ (tf 8 13) (fun _ hq=>p1 21 (.tmp 25) (.const bF) (.bool c4) h1)<|Dvl [8] (tf 9 12)<|Sd c6 (fun J c7=>?_) (fun J c8=>?_)
    ·refine Dgl 9 28 55 _ (tf 10 11) 8 true 27 J (fun _ hq=>mv 0 (.slice (some ⟨M,O,none⟩) Y.length h2)) ?_;obtain⟨h5,c9,ca⟩:=bS c7;obtain⟨cb,hx126'⟩:=Ag c9;have cc:=hE89 _ _ hx126';refine Dgl 10 29 0 (.pointer (some ⟨M,O + (0:Int).toNat * 1,none⟩)) (tf 11 10) 8 true 27 J (fun _ hq=>Ce (t:=55) (x:=(.tmp 28)) (y:=(.const (vi 0))) (b:=M) (o:=O) (E:=9) (s:=1) (by_:=16) rfl rfl (by kernel_rfl) cb)<|Dgl 11 30 9 _ (tf 12 9) 8 true 27 J (fun _ hq=>lx 9 29 0 1 false 1 (sv h5) (hq.1.1 _ _ hF88) cc)<|Dgl 12 31 3 (vi (h5.length:Int)) (tf 13 8) 8 true 27 J (fun _ hq=>Jl (x:=(.tmp 30)) (ats:=#[9]) (t:=9) (a:=h5) rfl rfl (by kernel_rfl))<|Dgl 13 32 55 _ (tf 14 7) 8 true 27 J (fun _ hq=>mv 0 (.slice (some ⟨M,O,none⟩) Y.length h2)) ?_;obtain⟨h6,cd,ce⟩:=bS ca;obtain⟨cf,hx132'⟩:=Ag cd;have cg:=hE89 _ _ hx132';refine Dgl 14 33 0 (.pointer (some ⟨M,O + (1:Int).toNat * 1,none⟩)) (tf 15 6) 8 true 27 J (fun _ hq=>Ce (t:=55) (x:=(.tmp 32)) (y:=(.const (vi 1))) (b:=M) (o:=O) (E:=9) (s:=1) (by_:=16) rfl rfl (by kernel_rfl) cf)<|Dgl 15 34 9 _ (tf 16 5) 8 true 27 J (fun _ hq=>lx 9 33 0 1 false 1 (sv h6) (hq.1.1 _ _ hF88) cg)<|Dgl 16 35 3 (vi (h6.length:Int)) (tf 17 4) 8 true 27 J (fun _ hq=>Jl (x:=(.tmp 34)) (ats:=#[9]) (t:=9) (a:=h6) rfl rfl (by kernel_rfl))<|Dgl 17 36 4 (.bool (decide ((h5.length:Int) < (h6.length:Int)))) (tf 18 3) 8 true 27 J (fun _ hq=>LJ (t:=3) (t':=3) (x:=(.tmp 31)) (y:=(.tmp 35)) (k:=.i64) (a:=(h5.length:Int)) (b:=(h6.length:Int)) rfl rfl)<|Dtl 18 37 4 _ (tf 19 2) (fun _ hq=>p1 27 (.tmp 36) (.const bF) (.bool (decide ((h5.length:Int) < (h6.length:Int)))) J)<|D1 19<|PH #[sv h8,sv G.2.2.1,sv G.2.2.2.1,sv G.2.2.2.2] hy ha (fun d4 ch=>?_);refine Dvl [20] (tf 21 0) ?_;obtain rfl:=Aa ce;exact Abu (by kernel_rfl) ⟨F5,ch.dr0,ha,fI⟩
    ·refine Dkl [(9,28),(10,29),(11,30),(12,31),(13,32),(14,33)] 8 true 27 J (tf 15 6) ?_;refine Dkl [(15,34),(16,35),(17,36)] 8 true 27 J (tf 18 3)<|Dtl 18 37 4 _ (tf 19 2) (fun _ hq=>p0 27 (.tmp 36) (.const bF) bF J)<|D1 19<|PH #[sv h8,sv G.2.2.1,sv G.2.2.2.1,sv G.2.2.2.2] hy ha (fun d6 ci=>?_);refine Dvl [20] (tf 21 0) ?_;obtain rfl:=Aa c8;exact Abu (by kernel_rfl) ⟨F5,ci.dr0,ha,fI⟩
   ·refine Dkl [(3,22),(4,23),(5,24),(6,25)] 2 true 21 h1 (tf 7 14) ?_;refine Dtl 7 26 4 _ (tf 8 13) (fun _ hq=>p0 21 (.tmp 25) (.const bF) bF h1)<|Dvl [8] (tf 9 12)<|Dkl [(9,28),(10,29),(11,30),(12,31),(13,32),(14,33)] 8 true 27 rfl (tf 15 6)<|Dkl [(15,34),(16,35),(17,36)] 8 true 27 rfl (tf 18 3)<|Dtl 18 37 4 _ (tf 19 2) (fun _ hq=>p0 27 (.tmp 36) (.const bF) bF rfl)<|D1 19<|PH #[sv h8,sv G.2.2.1,sv G.2.2.2.1,sv G.2.2.2.2] hh (Abi _) (fun d7 cj=>?_);refine Dvl [20] (tf 21 0) ?_;obtain rfl:=Aa bx;exact Abu (by kernel_rfl) ⟨F1,cj.dr0,Abi _,fI⟩
  ·rintro f d8 ⟨F4,hz,d9,⟨_,rfl⟩⟩;refine Ab<|Rt ?_;obtain rfl:=Aa bu;exact⟨rfl,.tuple #[.agg #[sv I.2.1,sv I.2.2.1,sv I.2.2.2.1,sv I.2.2.2.2],.bool I.1],AL (l:=[.cell 3 186,.tmp 4]) (by kernel_rfl) (vs:=[.agg #[sv I.2.1,sv I.2.2.1,sv I.2.2.2.1,sv I.2.2.2.2],.bool I.1]) ⟨h3,0,rfl,Al (t:=186) (g:=true) (s:=4) (by kernel_rfl) hz.at0 rfl (by decide),⟨rfl,trivial⟩⟩,.tuple #[.agg #[sv I.2.1,sv I.2.2.1,sv I.2.2.2.1,sv I.2.2.2.2],.bool I.1],F4,rfl,hz.clear,rfl⟩
def FO(N:Nat)(I:AbC):Option Bool:=
 (((Hn N I 4 (fun G=>Cx N G)).bind fun J=>(bif J then some true else((Hn N I 1 (fun G=>BL N G)).bind fun M=>some M))).bind fun O=>some O)
theorem Ok(N:Nat)(w0:World)(F0:Mem)(hF:AbE w0 F0)(J:AbC)(r:Bool)(h:FO N J=some r):
  Calls Tryz.prog 227 (lA [sv J]) w0 (AE w0 F0 fun F' v=>v=(.bool r)):=by
 have Z:=Abj hF;refine Go 9 Tryz.func227<|sR [0] ?_;refine Vs 1<|Nss (Rg (rG 7) ?_);obtain⟨h0,h2,h3⟩:=bS h;refine Abn (fun f w=>∃(F1:Mem),HS w0 F0 w F1 []/\Abh F0 F1/\FI f [] [(2,(.bool h0))]) ?_ ?_
 ·refine Vs 1 ?_;obtain⟨hm,h4,h5⟩:=bS h2;refine Cl' (cO 198) Z (Ij N w0 F0 Z.pers J 4 264 [] [] (fun G=>Cx N G) (cO 264) (fun w1 F1 G r h6 M O=>HJ N w1 F1 M G r O) _ h4) ?_;rintro _ F2 h7 Y h1 rfl;refine Vs 1<|Sp h5 (fun I h8=>?_) (fun I h9=>?_)
  ·refine Ss I 2 ?_;refine Pk1 I<|Vs 1 ?_;obtain rfl:=Aa h8;exact Abd ⟨rfl,F2,Y,h1,fI⟩
  ·refine Vgs I 1 ?_;obtain⟨hn,ha,hb⟩:=bS h9;refine Cg I (cO 198) Y (Ij N h7 F2 Y.pers J 1 199 [] [] (fun G=>BL N G) (cO 199) (fun w1 F1 G r h6 M O=>IZ N w1 F1 M G r O) _ ha) ?_;rintro _ F3 ho hc hg rfl;refine Pk0 I<|Vs 1 ?_;obtain rfl:=Aa hb;exact Abd ⟨rfl,F3,hc,h1.t hg,fI⟩
 ·rintro f hp ⟨F1,hh,hq,⟨_,rfl⟩⟩;refine Ab<|Rt ?_;obtain rfl:=Aa h3;exact Re [.bool h0] hh rfl
def EV(N:Nat)(M:(List AbC))(z0:(AbC->Option (BF×Bool))):Option (BF×Bool):=
 (((idx M 0).bind fun Y=>((z0 Y).bind fun I=>some (I.2,I.1.Area,I.1.Prefix,I.1.Suffix,I.1.Stroke))).bind fun G=>((idx M 1).bind fun O=>((bif G.1 then((idx M 1).bind fun Z=>((FO N Z).bind fun h0=>some (h0,G.2.1,G.2.2.1,G.2.2.2.1,O)))else some (false,G.2.1,G.2.2.1,G.2.2.2.1,O)).bind fun J=>some (({Area:=J.2.1,Prefix:=J.2.2.1,Suffix:=J.2.2.2.1,Stroke:=J.2.2.2.2}:BF),J.1))))
theorem RV(N:Nat)(w0:World)(F0:Mem)(hF:AbE w0 F0)(Y:(List AbC))(h5:AbD)(h2:Nat)(c6:LC Y.length h2)(hc:SlA AJ F0 h5 Y)(hg:Nat)(z0:(AbC->Option (BF×Bool)))(h1:FuncId)(J M:List Value)(hh:Ah Tryz.prog h1)(hm:LG F0 h1 J M z0)(hw:F0 hg=some (oc #[.func (.func h1) J.toArray M.toArray] 188))(r:(BF×Bool))(h:EV N Y z0=some r):
  Calls Tryz.prog 226 (lA [sL h5 Y h2,pt hg 0]) w0 (AE w0 F0 fun F' v=>v=(.tuple #[.agg (D5 r.1),.bool r.2])):=by
 have hx:=Abj hF;refine Go 27 Tryz.func226<|sR [0,1] ?_;refine Al' 186 #[sE,sE,sE,sE] hx (fun Z c7 hy=>?_);refine Vs 1<|Nss ?_;obtain⟨I,hz,b0⟩:=bS h;refine RD 11 11 [sb Z #[sE,sE,sE,sE] 186] [] hy (fun f w=>∃(F1:Mem)(h3:Nat),HS w0 F0 w F1 [sb h3 #[sv I.2.1,sv I.2.2.1,sv I.2.2.2.1,sv I.2.2.2.2] 186,sb Z #[sE,sE,sE,sE] 186]/\Abh F0 F1/\FI f [] [(0,(sL h5 Y h2)),(3,(pt Z 0)),(5,(pt h3 0)),(6,(.bool I.1))]) (fun b1 h6=>?_) ?_
 ·refine Dl 0 (fun _ hq=>(hq.1.1 _ _ hw)) ?_;refine Dv [1] ?_;obtain⟨h0,b2,hn⟩:=bS hz;obtain⟨b3,hx39'⟩:=Ag b2;obtain⟨c8,c9,ca,cb,cc,rfl,hF48,hE49⟩:=Abp hc hx39';have b4:=hE49 _ _ hx39';refine Di 2 b3<|Dx 3 0 (fun _ hq=>hq.1.1 _ _ hF48) b4<|Abq (i:=4) (j:=8) (by kernel_rfl) ?_ ?_
  ·obtain⟨b5,b6,b7⟩:=bS hn;refine Abt (l':=[tt,tt,tt,tt,tt,ff,ff,ff,ff,ff,ff]) (zd:=true) (by kernel_rfl) (by kernel_rfl) (by kernel_rfl) (dst:=(some 12)) (ty:=187) (g:=none) (by kernel_rfl) rfl (f0:=(.tmp 8)) (aos:=#[.tmp 11]) (ats:=#[9]) (fid:=h1) (first:=J.toArray) (cap:=M.toArray) (args:=(J++(([sv h0]:List Value)++M))) rfl hh (FX (l:=[sv h0]) (fi:=J) (k:=M) rfl) h6 (hm b1 F0 h0 _ (Abi _) h6.pers b6) ?_;rintro _ F2 cd b8 h7 rfl;refine Dv [5,6,7]<|D1 8<|DAl 186 #[sE,sE,sE,sE] b8 h7 (fun b9 ce ba=>?_);refine D1 9<|Fc (D5 b5.1) ba h7 (fun cf bb=>?_);refine Dv [10] ?_;obtain rfl:=Aa b7;exact Abu (by kernel_rfl) ⟨F2,b9,bb,h7,fI⟩
  ·refine DAl 186 #[sE,sE,sE,sE] h6 (Abi _) (fun bc bd ho=>?_);refine D1 4 ?_;obtain⟨be,bf,bg⟩:=bS hn;refine Abt (l':=[tt,tt,tt,tt,tt,ff,ff,ff,tt,ff,ff]) (zd:=true) (by kernel_rfl) (by kernel_rfl) (by kernel_rfl) (dst:=(some 12)) (ty:=187) (g:=none) (by kernel_rfl) rfl (f0:=(.tmp 8)) (aos:=#[.tmp 11]) (ats:=#[9]) (fid:=h1) (first:=J.toArray) (cap:=M.toArray) (args:=(J++(([sv h0]:List Value)++M))) rfl hh (FX (l:=[sv h0]) (fi:=J) (k:=M) rfl) ho (hm bd F0 h0 _ (Abi _) ho.pers bf) ?_;rintro _ F3 cg bh hp rfl;refine Dv [5,6,7]<|D1 9<|Fc (D5 be.1) bh hp (fun ch bi=>?_);refine Dv [10] ?_;obtain rfl:=Aa bg;exact Abu (by kernel_rfl) ⟨F3,bc,bi,hp,fI⟩
 ·rintro f ci ⟨F1,h3,hr,bj,⟨_,rfl⟩⟩;refine Ab<|sR (rG 5) ?_;refine Vs 1 ?_;obtain⟨h4,bk,bl⟩:=bS b0;obtain⟨bm,hx79'⟩:=Ag bk;obtain⟨h8,h9,cj,cl,cm,rfl,hF88,hE89⟩:=Abp (Abk hc bj) hx79';have bn:=hE89 _ _ hx79';refine Ix bm<|Lx 0 (hr.pers _ _ hF88) bn<|Vs 1<|St0 #[sv I.2.1,sv I.2.2.1,sv I.2.2.2.1,sv h4] hr (fun cn bo=>?_);refine Nss ?_;obtain⟨G,bp,bq⟩:=bS bl;refine RD 10 10 [sb h3 #[sv I.2.1,sv I.2.2.1,sv I.2.2.2.1,sv h4] 186] [] bo (fun f w=>∃(F4:Mem),HS w0 F0 w F4 [sb Z #[sv G.2.1,sv G.2.2.1,sv G.2.2.2.1,sv G.2.2.2.2] 186]/\Abh F1 F4/\FI f [] [(3,(pt Z 0)),(4,(.bool G.1))]) (fun br ha=>?_) ?_
  ·refine Dl 0 (fun _ hq=>(hq.1.2 0 _ _ rfl)) ?_;refine Dv [1,2]<|Sd bp (fun O bs=>?_) (fun O bt=>?_)
   ·refine Dg 3 22 55 _ 2 true 21 O (fun _ hq=>mv 0 (.slice (some ⟨h8,h9,none⟩) Y.length h2)) ?_;obtain⟨hb,bu,bv⟩:=bS bs;obtain⟨bw,hx109'⟩:=Ag bu;have bx:=hE89 _ _ hx109';refine Dg 4 23 0 (.pointer (some ⟨h8,h9 + (1:Int).toNat * 1,none⟩)) 2 true 21 O (fun _ hq=>Ce (t:=55) (x:=(.tmp 22)) (y:=(.const (vi 1))) (b:=h8) (o:=h9) (E:=9) (s:=1) (by_:=16) rfl rfl (by kernel_rfl) bw)<|Dg 5 24 9 _ 2 true 21 O (fun _ hq=>lx 9 23 0 1 false 1 (sv hb) (hq.1.1 _ _ hF88) bx)<|D1 6 ?_;obtain⟨bz,c0,c1⟩:=bS bv;refine Abt (l':=[tt,tt,tt,tt,tt,tt,tt,ff,ff,ff]) (zd:=true) (by kernel_rfl) (by kernel_rfl) (by kernel_rfl) (dst:=(some 25)) (ty:=4) (g:=(some (2,true))) (by kernel_rfl) (J2 (d:=21) (by kernel_rfl) rfl O) (f0:=(.func 227)) (aos:=#[.tmp 24]) (ats:=#[9]) (fid:=227) (first:=#[]) (cap:=#[]) (args:=[sv hb]) rfl (cO 227) rfl ha (Ok N br F1 ha.pers hb _ c0) ?_;rintro _ F5 co c3 ht rfl;refine Dt 7 26 4 _ (fun _ hq=>p1 21 (.tmp 25) (.const bF) (.bool bz) O)<|D1 8<|PH #[sv I.2.1,sv I.2.2.1,sv I.2.2.2.1,sv h4] c3 ht (fun cp c4=>?_);refine Dv [9] ?_;obtain rfl:=Aa c1;exact Abu (by kernel_rfl) ⟨F5,c4.dr0,ht,fI⟩
   ·refine Dk [(3,22),(4,23),(5,24),(6,25)] 2 true 21 O ?_;refine Dt 7 26 4 _ (fun _ hq=>p0 21 (.tmp 25) (.const bF) bF O)<|D1 8<|PH #[sv I.2.1,sv I.2.2.1,sv I.2.2.2.1,sv h4] ha (Abi _) (fun cq c5=>?_);refine Dv [9] ?_;obtain rfl:=Aa bt;exact Abu (by kernel_rfl) ⟨F1,c5.dr0,Abi _,fI⟩
  ·rintro f cr ⟨F4,hu,ct,⟨_,rfl⟩⟩;refine Ab<|Rt ?_;obtain rfl:=Aa bq;exact⟨rfl,.tuple #[.agg #[sv G.2.1,sv G.2.2.1,sv G.2.2.2.1,sv G.2.2.2.2],.bool G.1],AL (l:=[.cell 3 186,.tmp 4]) (by kernel_rfl) (vs:=[.agg #[sv G.2.1,sv G.2.2.1,sv G.2.2.2.1,sv G.2.2.2.2],.bool G.1]) ⟨Z,0,rfl,Al (t:=186) (g:=true) (s:=4) (by kernel_rfl) hu.at0 rfl (by decide),⟨rfl,trivial⟩⟩,.tuple #[.agg #[sv G.2.1,sv G.2.2.1,sv G.2.2.2.1,sv G.2.2.2.2],.bool G.1],F4,rfl,hu.clear,rfl⟩
def EU(N:Nat)(J:(List AbC))(z0:(AbC->Option (BF×Bool))):Option (BF×Bool):=
 (((idx J 1).bind fun Y=>((z0 Y).bind fun M=>some (M.2,M.1.Area,M.1.Prefix,M.1.Suffix,M.1.Stroke))).bind fun G=>(((idx J 0).bind fun Z=>((idx J 2).bind fun h0=>some (Z,h0))).bind fun I=>((bif G.1 then((idx J 0).bind fun h1=>((Ho N h1).bind fun h2=>(bif h2 then((idx J 2).bind fun h3=>((FO N h3).bind fun h4=>some (h4,I.1,G.2.2.1,G.2.2.2.1,I.2)))else some (false,I.1,G.2.2.1,G.2.2.2.1,I.2))))else some (false,I.1,G.2.2.1,G.2.2.2.1,I.2)).bind fun O=>some (({Area:=O.2.1,Prefix:=O.2.2.1,Suffix:=O.2.2.2.1,Stroke:=O.2.2.2.2}:BF),O.1))))
theorem RU(N:Nat)(w0:World)(F0:Mem)(hF:AbE w0 F0)(O:(List AbC))(h5:AbD)(h2:Nat)(cz:LC O.length h2)(ha:SlA AJ F0 h5 O)(ho:Nat)(z0:(AbC->Option (BF×Bool)))(h6:FuncId)(Y Z:List Value)(hp:Ah Tryz.prog h6)(hr:LG F0 h6 Y Z z0)(b1:F0 ho=some (oc #[.func (.func h6) Y.toArray Z.toArray] 188))(r:(BF×Bool))(h:EU N O z0=some r):
  Calls Tryz.prog 228 (lA [sL h5 O h2,pt ho 0]) w0 (AE w0 F0 fun F' v=>v=(.tuple #[.agg (D5 r.1),.bool r.2])):=by
 have b2:=Abj hF;refine Go 37 Tryz.func228<|sR [0,1] ?_;refine Al' 186 #[sE,sE,sE,sE] b2 (fun M d0 b3=>?_);refine Vs 1<|Nss ?_;obtain⟨G,b4,b5⟩:=bS h;refine RD 11 11 [sb M #[sE,sE,sE,sE] 186] [] b3 (fun f w=>∃(F1:Mem)(h3:Nat),HS w0 F0 w F1 [sb h3 #[sv G.2.1,sv G.2.2.1,sv G.2.2.2.1,sv G.2.2.2.2] 186,sb M #[sE,sE,sE,sE] 186]/\Abh F0 F1/\FI f [] [(0,(sL h5 O h2)),(3,(pt M 0)),(5,(pt h3 0)),(6,(.bool G.1))]) (fun b6 hb=>?_) ?_
 ·refine Dl 0 (fun _ hq=>(hq.1.1 _ _ b1)) ?_;refine Dv [1] ?_;obtain⟨h4,b7,ht⟩:=bS b4;obtain⟨b8,hx39'⟩:=Ag b7;obtain⟨d1,d2,d3,d4,d6,rfl,hF48,hE49⟩:=Abp ha hx39';have b9:=hE49 _ _ hx39';refine Di 2 b8<|Dx 3 0 (fun _ hq=>hq.1.1 _ _ hF48) b9<|Abq (i:=4) (j:=8) (by kernel_rfl) ?_ ?_
  ·obtain⟨ba,bb,bc⟩:=bS ht;refine Abt (l':=[tt,tt,tt,tt,tt,ff,ff,ff,ff,ff,ff]) (zd:=true) (by kernel_rfl) (by kernel_rfl) (by kernel_rfl) (dst:=(some 12)) (ty:=187) (g:=none) (by kernel_rfl) rfl (f0:=(.tmp 8)) (aos:=#[.tmp 11]) (ats:=#[9]) (fid:=h6) (first:=Y.toArray) (cap:=Z.toArray) (args:=(Y++(([sv h4]:List Value)++Z))) rfl hp (FX (l:=[sv h4]) (fi:=Y) (k:=Z) rfl) hb (hr b6 F0 h4 _ (Abi _) hb.pers bb) ?_;rintro _ F2 d7 bd hc rfl;refine Dv [5,6,7]<|D1 8<|DAl 186 #[sE,sE,sE,sE] bd hc (fun be d8 bf=>?_);refine D1 9<|Fc (D5 ba.1) bf hc (fun d9 bg=>?_);refine Dv [10] ?_;obtain rfl:=Aa bc;exact Abu (by kernel_rfl) ⟨F2,be,bg,hc,fI⟩
  ·refine DAl 186 #[sE,sE,sE,sE] hb (Abi _) (fun bh bi hu=>?_);refine D1 4 ?_;obtain⟨bj,bk,bl⟩:=bS ht;refine Abt (l':=[tt,tt,tt,tt,tt,ff,ff,ff,tt,ff,ff]) (zd:=true) (by kernel_rfl) (by kernel_rfl) (by kernel_rfl) (dst:=(some 12)) (ty:=187) (g:=none) (by kernel_rfl) rfl (f0:=(.tmp 8)) (aos:=#[.tmp 11]) (ats:=#[9]) (fid:=h6) (first:=Y.toArray) (cap:=Z.toArray) (args:=(Y++(([sv h4]:List Value)++Z))) rfl hp (FX (l:=[sv h4]) (fi:=Y) (k:=Z) rfl) hu (hr bi F0 h4 _ (Abi _) hu.pers bk) ?_;rintro _ F3 da bm hw rfl;refine Dv [5,6,7]<|D1 9<|Fc (D5 bj.1) bm hw (fun db bn=>?_);refine Dv [10] ?_;obtain rfl:=Aa bl;exact Abu (by kernel_rfl) ⟨F3,bh,bn,hw,fI⟩
 ·rintro f dc ⟨F1,h3,bo,hx,⟨_,rfl⟩⟩;refine Ab<|Sq ?_;obtain⟨J,bp,bq⟩:=bS b5;refine RD 9 10 [sb M #[sE,sE,sE,sE] 186] [] bo (fun f w=>∃(F4:Mem),HS w0 F0 w F4 [sb h3 #[sv J.1,sv G.2.2.1,sv G.2.2.2.1,sv J.2] 186,sb M #[sE,sE,sE,sE] 186]/\Abh F1 F4/\FI f [] [(0,(sL h5 O h2)),(3,(pt M 0)),(5,(pt h3 0)),(6,(.bool G.1))]) (fun dd br=>?_) ?_
  ·refine Dv [0] ?_;obtain⟨hy,bs,bt⟩:=bS bp;obtain⟨bu,hx92'⟩:=Ag bs;obtain⟨de,df,dg,dh,di,rfl,hF101,hE102⟩:=Abp (Abk ha hx) hx92';have bv:=hE102 _ _ hx92';refine Di 1 bu<|Dx 2 0 (fun _ hq=>hq.1.1 _ _ hF101) bv<|Dv [3] ?_;obtain⟨bw,bx,bz⟩:=bS bt;obtain⟨c0,hx106'⟩:=Ag bx;have c1:=hE102 _ _ hx106';refine Di 4 c0<|Dx 5 0 (fun _ hq=>hq.1.1 _ _ hF101) c1<|Dv [6]<|D1 7<|Fc #[sv hy,sv G.2.2.1,sv G.2.2.2.1,sv G.2.2.2.2] br (Abi _) (fun dj c3=>?_);refine Dv [8]<|D1 9<|Fc #[sv hy,sv G.2.2.1,sv G.2.2.2.1,sv bw] c3 (Abi _) (fun dk c4=>?_);obtain rfl:=Aa bz;exact Abu (by kernel_rfl) ⟨F1,c4,Abi _,fI⟩
  ·rintro f dl ⟨F4,c5,c6,⟨_,rfl⟩⟩;refine Ab<|Sq ?_;obtain⟨I,c7,c8⟩:=bS bq;refine RD 16 16 [sb h3 #[sv J.1,sv G.2.2.1,sv G.2.2.2.1,sv J.2] 186] [] c5 (fun f w=>∃(F5:Mem),HS w0 F0 w F5 [sb M #[sv I.2.1,sv I.2.2.1,sv I.2.2.2.1,sv I.2.2.2.2] 186]/\Abh F4 F5/\FI f [] [(3,(pt M 0)),(4,(.bool I.1))]) (fun c9 hg=>?_) ?_
   ·refine Dl 0 (fun _ hq=>(hq.1.2 0 _ _ rfl)) ?_;refine Dv [1,2]<|Sd c7 (fun h0 ca=>?_) (fun h0 cb=>?_)
    ·refine Dg 3 26 55 _ 2 true 25 h0 (fun _ hq=>mv 0 (sL h5 O h2)) ?_;obtain⟨hh,cc,cd⟩:=bS ca;obtain⟨ce,hx130'⟩:=Ag cc;obtain⟨h7,h8,dm,dn,dp,rfl,hF139,hE140⟩:=Abp (Abk ha (hx.t c6)) hx130';have cf:=hE140 _ _ hx130';refine Dg 4 27 0 (.pointer (some ⟨h7,h8 + (0:Int).toNat * 1,none⟩)) 2 true 25 h0 (fun _ hq=>Ce (t:=55) (x:=(.tmp 26)) (y:=(.const (vi 0))) (b:=h7) (o:=h8) (E:=9) (s:=1) (by_:=16) rfl rfl (by kernel_rfl) ce)<|Dg 5 28 9 _ 2 true 25 h0 (fun _ hq=>lx 9 27 0 1 false 1 (sv hh) (hq.1.1 _ _ hF139) cf)<|D1 6 ?_;obtain⟨cg,ch,ci⟩:=bS cd;refine Abt (l':=[tt,tt,tt,tt,tt,tt,tt,ff,ff,ff,ff,ff,ff,ff,ff,ff]) (zd:=true) (by kernel_rfl) (by kernel_rfl) (by kernel_rfl) (dst:=(some 29)) (ty:=4) (g:=(some (2,true))) (by kernel_rfl) (J2 (d:=25) (by kernel_rfl) rfl h0) (f0:=(.func 225)) (aos:=#[.tmp 28]) (ats:=#[9]) (fid:=225) (first:=#[]) (cap:=#[]) (args:=[sv hh]) rfl (cO 225) rfl hg (M8 N c9 F4 hg.pers hh _ ch) ?_;rintro _ F6 cj hm h9 rfl;refine Dt 7 30 4 _ (fun _ hq=>p1 25 (.tmp 29) (.const bF) (.bool cg) h0)<|Dv [8]<|Sd ci (fun h1 cl=>?_) (fun h1 cm=>?_)
     ·refine Dg 9 32 55 _ 8 true 31 h1 (fun _ hq=>mv 0 (.slice (some ⟨h7,h8,none⟩) O.length h2)) ?_;obtain⟨hn,cn,co⟩:=bS cl;obtain⟨cp,hx155'⟩:=Ag cn;have cq:=hE140 _ _ hx155';refine Dg 10 33 0 (.pointer (some ⟨h7,h8 + (2:Int).toNat * 1,none⟩)) 8 true 31 h1 (fun _ hq=>Ce (t:=55) (x:=(.tmp 32)) (y:=(.const (vi 2))) (b:=h7) (o:=h8) (E:=9) (s:=1) (by_:=16) rfl rfl (by kernel_rfl) cp)<|Dg 11 34 9 _ 8 true 31 h1 (fun _ hq=>lx 9 33 0 1 false 1 (sv hn) (hq.1.1 _ _ hF139) cq)<|D1 12 ?_;obtain⟨cr,ct,cu⟩:=bS co;refine Abt (l':=[tt,tt,tt,tt,tt,tt,tt,tt,tt,tt,tt,tt,tt,ff,ff,ff]) (zd:=true) (by kernel_rfl) (by kernel_rfl) (by kernel_rfl) (dst:=(some 35)) (ty:=4) (g:=(some (8,true))) (by kernel_rfl) (J2 (d:=31) (by kernel_rfl) rfl h1) (f0:=(.func 227)) (aos:=#[.tmp 34]) (ats:=#[9]) (fid:=227) (first:=#[]) (cap:=#[]) (args:=[sv hn]) rfl (cO 227) rfl hm (Ok N cj F6 hm.pers hn _ ct) ?_;rintro _ F7 dq cv hz rfl;refine Dt 13 36 4 _ (fun _ hq=>p1 31 (.tmp 35) (.const bF) (.bool cr) h1)<|D1 14<|PH #[sv J.1,sv G.2.2.1,sv G.2.2.2.1,sv J.2] cv (h9.t hz) (fun dr cw=>?_);refine Dv [15] ?_;obtain rfl:=Aa cu;exact Abu (by kernel_rfl) ⟨F7,cw.dr0,h9.t hz,fI⟩
     ·refine Dk [(9,32),(10,33),(11,34),(12,35)] 8 true 31 h1 ?_;refine Dt 13 36 4 _ (fun _ hq=>p0 31 (.tmp 35) (.const bF) bF h1)<|D1 14<|PH #[sv J.1,sv G.2.2.1,sv G.2.2.2.1,sv J.2] hm h9 (fun ds cx=>?_);refine Dv [15] ?_;obtain rfl:=Aa cm;exact Abu (by kernel_rfl) ⟨F6,cx.dr0,h9,fI⟩
    ·refine Dk [(3,26),(4,27),(5,28),(6,29)] 2 true 25 h0 ?_;refine Dt 7 30 4 _ (fun _ hq=>p0 25 (.tmp 29) (.const bF) bF h0)<|Dv [8]<|Dk [(9,32),(10,33),(11,34),(12,35)] 8 true 31 rfl<|Dt 13 36 4 _ (fun _ hq=>p0 31 (.tmp 35) (.const bF) bF rfl)<|D1 14<|PH #[sv J.1,sv G.2.2.1,sv G.2.2.2.1,sv J.2] hg (Abi _) (fun dt cy=>?_);refine Dv [15] ?_;obtain rfl:=Aa cb;exact Abu (by kernel_rfl) ⟨F4,cy.dr0,Abi _,fI⟩
   ·rintro f du ⟨F5,b0,dv,⟨_,rfl⟩⟩;refine Ab<|Rt ?_;obtain rfl:=Aa c8;exact⟨rfl,.tuple #[.agg #[sv I.2.1,sv I.2.2.1,sv I.2.2.2.1,sv I.2.2.2.2],.bool I.1],AL (l:=[.cell 3 186,.tmp 4]) (by kernel_rfl) (vs:=[.agg #[sv I.2.1,sv I.2.2.1,sv I.2.2.2.1,sv I.2.2.2.2],.bool I.1]) ⟨M,0,rfl,Al (t:=186) (g:=true) (s:=4) (by kernel_rfl) b0.at0 rfl (by decide),⟨rfl,trivial⟩⟩,.tuple #[.agg #[sv I.2.1,sv I.2.2.1,sv I.2.2.2.1,sv I.2.2.2.2],.bool I.1],F5,rfl,b0.clear,rfl⟩
def O4(N:Nat):Option (List Cb):=
 some [({words_:=1,split_:=(fun G=>EX N G (fun G=>AN N G))}:Cb),({words_:=2,split_:=(fun G=>EW N G (fun G=>AN N G))}:Cb),({words_:=2,split_:=(fun G=>EV N G (fun G=>AN N G))}:Cb),({words_:=3,split_:=(fun G=>EU N G (fun G=>AN N G))}:Cb)]
theorem Um(N:Nat)(w0:World)(F0:Mem)(hF:AbE w0 F0)(hG:BM F0)(r:(List Cb))(h:O4 N=some r):
  Calls Tryz.prog 184 (lA []) w0 (AE w0 F0 fun F' v=>∃(h4:AbD)(h5:Nat),v=(sL h4 r h5)/\LC r.length h5/\SlA R2 F' h4 r):=by
 have h7:=Abj hF;refine Go 11 Tryz.func184<|sR [0] ?_;refine Vs 1<|Nss (Rg [0,1] ?_);refine Al' 188 #[.nilFunc] h7 (fun J hm h8=>?_);refine St0 #[fV 221 #[]] h8 (fun hn h9=>?_);refine Nss (Rg (rG 10) ?_);refine Vs 8 ?_;obtain⟨F1,ha,h2,hF28⟩:=h9.fc0;refine Bs 228 [vi 1,fV 223 #[pt J 0],vi 2,fV 224 #[pt J 0],vi 2,fV 226 #[pt J 0],vi 3,fV 228 #[pt J 0]] ha (fun h3 ho hb=>?_);have h6:Aq R2 228 F1 (some ⟨h3,0,none⟩) 4 [({words_:=1,split_:=(fun G=>EX N G (fun G=>AN N G))}:Cb),({words_:=2,split_:=(fun G=>EW N G (fun G=>AN N G))}:Cb),({words_:=2,split_:=(fun G=>EV N G (fun G=>AN N G))}:Cb),({words_:=3,split_:=(fun G=>EU N G (fun G=>AN N G))}:Cb)] (some h3,.cells (lA [vi 1,fV 223 #[pt J 0],vi 2,fV 224 #[pt J 0],vi 2,fV 226 #[pt J 0],vi 3,fV 228 #[pt J 0]]) 228 (0,0)):=Abx ⟨⟨223,[],[pt J 0],rfl,cO 223,(fun w1 F1 G Y Z h0 h1 r I M O=>RX N w1 F1 M G Y Z h0 h1 J (fun G=>AN N G) 221 [] [] (cO 221) (LG.mono (fun w1 F1 G r I M O=>G4 N w1 F1 M (hG.mono (h2.t I)) G r O) I) (I _ _ hF28) r O)⟩,⟨⟨224,[],[pt J 0],rfl,cO 224,(fun w1 F1 G Y Z h0 h1 r I M O=>RW N w1 F1 M G Y Z h0 h1 J (fun G=>AN N G) 221 [] [] (cO 221) (LG.mono (fun w1 F1 G r I M O=>G4 N w1 F1 M (hG.mono (h2.t I)) G r O) I) (I _ _ hF28) r O)⟩,⟨⟨226,[],[pt J 0],rfl,cO 226,(fun w1 F1 G Y Z h0 h1 r I M O=>RV N w1 F1 M G Y Z h0 h1 J (fun G=>AN N G) 221 [] [] (cO 221) (LG.mono (fun w1 F1 G r I M O=>G4 N w1 F1 M (hG.mono (h2.t I)) G r O) I) (I _ _ hF28) r O)⟩,⟨⟨228,[],[pt J 0],rfl,cO 228,(fun w1 F1 G Y Z h0 h1 r I M O=>RU N w1 F1 M G Y Z h0 h1 J (fun G=>AN N G) 221 [] [] (cO 221) (LG.mono (fun w1 F1 G r I M O=>G4 N w1 F1 M (hG.mono (h2.t I)) G r O) I) (I _ _ hF28) r O)⟩,rfl⟩⟩⟩⟩ (by simp);refine Vs 1<|Nt<|Rt ?_;have hc:=Abv h6;obtain⟨F2,hg,hp,hh⟩:=hb.fr0 h6;obtain rfl:=Aa h;exact Re [.slice (some ⟨h3,0,none⟩) [({words_:=1,split_:=(fun G=>EX N G (fun G=>AN N G))}:Cb),({words_:=2,split_:=(fun G=>EW N G (fun G=>AN N G))}:Cb),({words_:=2,split_:=(fun G=>EV N G (fun G=>AN N G))}:Cb),({words_:=3,split_:=(fun G=>EU N G (fun G=>AN N G))}:Cb)].length 4] hg ⟨some ⟨h3,0,none⟩,4,rfl,hc,hh⟩
def D9(N:Nat)(x0:AbC)(I:(List AbC))(J:(List Cb)):Int->Option (A4 (BF×Bool) Int):=fun G=>
 (bif(decide (G < (J.length:Int)))then((idx J G).bind fun M=>(bif(M.words_ !=(I.length:Int))then some (.next (W64 (G + 1)))else((M.split_ I).bind fun O=>(bif O.2 then some (.ret (O.1,true))else some (.next (W64 (G + 1)))))))else some (.done G))
def LY(N:Nat)(G:AbC):Option (BF×Bool):=
 (bif(decide ((G.length:Int) > 16))then some (({Area:=([]:AbC),Prefix:=([]:AbC),Suffix:=([]:AbC),Stroke:=([]:AbC)}:BF),false)else((strings_Split N G ([47]:AbC)).bind fun I=>((O4 N).bind fun J=>((AF (D9 N G I J) N 0).bind fun o=>o.k (fun r=>some r) (fun h0=>some (({Area:=([]:AbC),Prefix:=([]:AbC),Suffix:=([]:AbC),Stroke:=([]:AbC)}:BF),false))))))
theorem Ul(N:Nat)(w0:World)(F0:Mem)(hF:AbE w0 F0)(hG:BM F0)(Z:AbC)(r:(BF×Bool))(h:LY N Z=some r):
  Calls Tryz.prog 143 (lA [sv Z]) w0 (AE w0 F0 fun F' v=>v=(.tuple #[.agg (D5 r.1),.bool r.2])):=by
 have hn:=Abj hF;refine Go 37 Tryz.func143<|sR [0,1] ?_;refine Al' 186 #[sE,sE,sE,sE] hn (fun G ho h1=>?_);refine Vs 1<|Nss<|sR [0,1,2] ?_;refine Vs 3<|Nt<|Cd h (fun hp hq=>?_) (fun hp hr=>?_)
 ·refine sR [0,1,2] ?_;refine Vs 1<|St0 #[sE,sE,sE,sE] h1 (fun c7 h6=>?_);refine Vs 1<|Nt<|Rt<|Ad ?_;obtain rfl:=Aa hq;exact⟨rfl,.tuple #[.agg #[sE,sE,sE,sE],bF],AL (l:=[.cell 2 186,.tmp 3]) (by kernel_rfl) (vs:=[.agg #[sE,sE,sE,sE],bF]) ⟨G,0,rfl,Al (t:=186) (g:=true) (s:=4) (by kernel_rfl) h6.at0 rfl (by decide),⟨rfl,trivial⟩⟩,.tuple #[.agg #[sE,sE,sE,sE],bF],F0,rfl,h6.clear,rfl⟩
 ·refine Sc ?_;refine Ab<|sR [0,1,2] ?_;refine Vs 1 ?_;obtain⟨h2,ht,hu⟩:=bS hr;refine Cl' (cO 93) h1 (Ei N ho F0 h1.pers hG Z ([47]:AbC) _ ht) ?_;rintro _ F1 hw h7 hx ⟨h8,h9,rfl,hy,hz⟩;refine Vs 1<|Nss<|sR [0,1,2] ?_;obtain⟨h3,b0,b1⟩:=bS hu;refine Cl' (cO 184) h7 (Um N hw F1 h7.pers (hG.mono hx) _ b0) ?_;rintro _ F2 c8 b2 b3 ⟨b4,b5,rfl,c9,b6⟩;refine Vs 2<|Nt ?_;obtain⟨ha,b7,hb⟩:=bS b1;refine Abo (fun f w=>∃(hc:Int)(F4:Mem),ha=.done hc/\HS w0 F0 w F4 [sb G #[sE,sE,sE,sE] 186]/\Abh F2 F4/\FI f [] [(2,(pt G 0))]) ?_ ?_
  ·refine Bk ?_;refine Abg (by kernel_rfl) (fun m f w=>∃(I:Int)(J:Mem),AF (D9 N Z h2 h3) m I=some ha/\HS w0 F0 w J [sb G #[sE,sE,sE,sE] 186]/\Abh F2 J/\FI f [] [(2,(pt G 0)),(4,(sL h8 h2 h9)),(15,(sL b4 h3 b5)),(16,(vi (h3.length:Int))),(17,(vi I))]) N ⟨0,F2,b7,b2,Abi _,fI⟩ ?_;rintro ca f cb ⟨I,J,b8,h4,M,⟨_,rfl⟩⟩;obtain⟨hg,cc,rfl,b9,h0⟩:=AB b8;refine sR [0] ?_;refine Vs 1<|Nss<|Cd b9 (fun ba bb=>?_) (fun ba bc=>?_)
   ·refine Sc ?_;refine Ab<|Sq<|Bk<|sR (rG 4) ?_;obtain⟨bd,be,bf⟩:=bS bb;obtain⟨bg,hx74'⟩:=Ag be;obtain⟨cd,ce,cf,cg,ch,rfl,hF83,hE84⟩:=Abp (Abk b6 M) hx74';obtain⟨bh,bi,bj,bk,bl,bm⟩:=hE84 _ _ hx74';refine Ix bg<|Lx 0 (h4.pers _ _ hF83) bk<|Al' 228 #[vi 0,.nilFunc] h4 (fun ci cj bn=>?_);refine St0 #[vi bd.words_,.func (.func bh) bi.toArray bj.toArray] bn (fun bo O=>?_);refine Nss<|sR (rG 5) ?_;refine Vs 1<|Ld O.at0<|Vs 3<|Nt<|Cd bf (fun bp bq=>?_) (fun bp br=>?_)
    ·refine Ex ?_;refine Ak<|Au rfl<|Ab<|Rg [0,1]<|Vs 2<|Abd ?_;have bs:=Ax bq h0;exact⟨hg,Nat.lt_succ_self _,W64 (I + 1),J,bs,O.dr0,M,fI⟩
    ·refine Sc ?_;refine Ab<|sR (rG 10) ?_;refine Vs 1<|Ld O.at0<|Vs 1 ?_;obtain⟨Y,bt,bu⟩:=bS br;refine Cq bl O (bm bo J h2 h8 h9 hy (Abk hz (b3.t M)) _ (Abi _) O.pers bt) ?_;rintro _ F5 cl bv bw rfl;refine Vs 3<|Al' 186 #[sE,sE,sE,sE] bv (fun cm cn bx=>?_);refine St0 (D5 Y.1) bx (fun co h5=>?_);refine Vs 1<|Nss (Rg [0] ?_);refine Vs 1<|Nt<|Cd bu (fun bz c0=>?_) (fun bz c1=>?_)
     ·refine sR [0,1,2] ?_;refine Ld h5.at0<|St2 (D5 Y.1) h5 (fun cp hh=>?_);refine Vs 1<|Nt<|Rt<|As<|Ad<|Ad<|As ?_;have hret:=BC c0 h0;subst hret;refine .inr<|Ad ?_;obtain rfl:=Aa hb;exact⟨rfl,.tuple #[.agg (D5 Y.1),bT],AL (l:=[.cell 2 186,.tmp 3]) (by kernel_rfl) (vs:=[.agg (D5 Y.1),bT]) ⟨G,0,rfl,Al (t:=186) (g:=true) (s:=4) (by kernel_rfl) hh.at2 rfl (by decide),⟨rfl,trivial⟩⟩,.tuple #[.agg (D5 Y.1),bT],F5,rfl,hh.clear,rfl⟩
     ·refine Sc ?_;refine Am<|Ab<|Rg [0,1]<|Vs 2<|Abd ?_;have c3:=Ax c1 h0;exact⟨hg,Nat.lt_succ_self _,W64 (I + 1),F5,c3,h5.dr0.dr0,M.t bw,fI⟩
   ·refine Ex ?_;refine Ak<|Ak<|Au rfl ?_;have c4:=Az bc h0;exact .inl ⟨rfl,I,J,c4,h4,M,fI⟩
  ·rintro f cq ⟨hc,F4,rfl,c5,cr,⟨_,rfl⟩⟩;have c6:=AY hb;refine Ab<|sR [0,1,2] ?_;refine Vs 1<|St0 #[sE,sE,sE,sE] c5 (fun ct hm=>?_);refine Vs 1<|Nt<|Rt ?_;obtain rfl:=Aa c6;exact⟨rfl,.tuple #[.agg #[sE,sE,sE,sE],bF],AL (l:=[.cell 2 186,.tmp 3]) (by kernel_rfl) (vs:=[.agg #[sE,sE,sE,sE],bF]) ⟨G,0,rfl,Al (t:=186) (g:=true) (s:=4) (by kernel_rfl) hm.at0 rfl (by decide),⟨rfl,trivial⟩⟩,.tuple #[.agg #[sE,sE,sE,sE],bF],F4,rfl,hm.clear,rfl⟩
def Ip(N:Nat)(G:AbC):Option Bool:=
 ((LY N G).bind fun I=>some I.2)
theorem O1(N:Nat)(w0:World)(F0:Mem)(hF:AbE w0 F0)(hG:BM F0)(G:AbC)(r:Bool)(h:Ip N G=some r):
  Calls Tryz.prog 79 (lA [sv G]) w0 (AE w0 F0 fun F' v=>v=(.bool r)):=by
 have I:=Abj hF;refine Go 11 Tryz.func79<|sR [0] ?_;refine Vs 1<|Nss (Rg (rG 8) ?_);refine Vs 1 ?_;obtain⟨J,M,O⟩:=bS h;refine Cl' (cO 143) I (Ul N w0 F0 I.pers hG G _ M) ?_;rintro _ F1 h1 Y h2 rfl;refine Vs 3<|Al' 186 #[sE,sE,sE,sE] Y (fun h3 h4 Z=>?_);refine St0 (D5 J.1) Z (fun h5 h0=>?_);refine Vs 1<|Nss (Rg [0,1] ?_);refine Vs 2<|Nt<|Rt ?_;obtain rfl:=Aa O;exact Re [.bool J.2] h0 rfl
def Cw(N:Nat)(I J:Int):Option AbC:=
 ((strconv_Itoa N I).bind fun G=>((strings_Repeat N ([48]:AbC) (max 0 (W64 (J - (G.length:Int))))).bind fun M=>((A2 M G).bind fun O=>some O)))
theorem Kg(N:Nat)(w0:World)(F0:Mem)(hF:AbE w0 F0)(hG:BM F0)(G I:Int)(r:AbC)(h:Cw N G I=some r):
  Calls Tryz.prog 146 (lA [vi G,vi I]) w0 (AE w0 F0 fun F' v=>v=(sv r)):=by
 have J:=Abj hF;refine Go 16 Tryz.func146<|sR [0] ?_;refine Vs 1<|Nss (Rg [0,1,2] ?_);refine Vs 1 ?_;obtain⟨M,Z,h0⟩:=bS h;refine Cl' (cO 85) J (A7 N w0 F0 J.pers hG G _ Z) ?_;rintro _ F1 h1 O h8 rfl;refine Vs 1<|Nss (Rg (rG 9) ?_);refine Vs 5 ?_;obtain⟨h2,h3,h4⟩:=bS h0;refine Cl' (cO 186) O (OW N h1 F1 O.pers ([48]:AbC) (max 0 (W64 (I - (M.length:Int)))) _ h3) ?_;rintro _ F2 h9 h5 ha rfl;refine Vs 1 ?_;obtain⟨Y,h6,h7⟩:=bS h4;refine V 15 9 (Ay (t:=9) (t':=9) (x:=(.tmp 13)) (y:=(.tmp 14)) (a:=h2) (b:=M) (v:=Y) rfl rfl h6)<|Vs 1<|Nt<|Rt ?_;obtain rfl:=Aa h7;exact Re [sv Y] h5 rfl
def DB(N:Nat)(G:Int):Option (AbC×Int):=
 ((Io N G 0 20000).bind fun I=>(bif(!I)then some (([]:AbC),1)else((strconv_Itoa N (W64 ((W64 (Int.tdiv G 1440)) + 1))).bind fun J=>((A2 J ([32]:AbC)).bind fun M=>((Cw N (Int.tmod (W64 (Int.tdiv G 60)) 24) 2).bind fun O=>((A2 M O).bind fun Y=>((Cw N (Int.tmod G 60) 2).bind fun Z=>((A2 Y Z).bind fun h0=>some (h0,0)))))))))
theorem KB(N:Nat)(w0:World)(F0:Mem)(hF:AbE w0 F0)(hG:BM F0)(G:Int)(r:(AbC×Int))(h:DB N G=some r):
  Calls Tryz.prog 82 (lA [vi G]) w0 (AE w0 F0 fun F' v=>v=(.tuple #[sv r.1,vi r.2])):=by
 have M:=Abj hF;refine Go 21 Tryz.func82<|sR [0,1] ?_;refine Vs 2<|Nss<|sR [0,1,2] ?_;refine Vs 1 ?_;obtain⟨b1,h3,h4⟩:=bS h;refine Cl' (cO 140) M (Kf N w0 F0 M.pers G 0 20000 _ h3) ?_;rintro _ F1 h5 I J rfl;refine Vs 1<|Nt<|Cd h4 (fun h6 h7=>?_) (fun h6 h8=>?_)
 ·refine sR [0,1] ?_;refine Vs 2<|Nt<|Rt<|Ad ?_;obtain rfl:=Aa h7;exact Re [sE,vi 1] I rfl
 ·refine Sc ?_;refine Ab<|sR (rG 16) ?_;refine Vs 3 ?_;obtain⟨h9,ha,hb⟩:=bS h8;refine Cl' (cO 85) I (A7 N h5 F1 I.pers (hG.mono J) (W64 ((W64 (Int.tdiv G 1440)) + 1)) _ ha) ?_;rintro _ F2 hc O Y rfl;obtain⟨Z,hg,hh⟩:=bS hb;refine V 11 9 (Ay (t:=9) (t':=9) (x:=(.tmp 10)) (y:=(.const (sv ([32]:AbC)))) (a:=h9) (b:=([32]:AbC)) (v:=Z) rfl rfl hg)<|Vs 3 ?_;obtain⟨hm,hn,ho⟩:=bS hh;refine Cl' (cO 146) O (Kg N hc F2 O.pers (hG.mono (J.t Y)) (Int.tmod (W64 (Int.tdiv G 60)) 24) 2 _ hn) ?_;rintro _ F3 hp h0 hq rfl;obtain⟨h1,hr,ht⟩:=bS ho;refine V 16 9 (Ay (t:=9) (t':=9) (x:=(.tmp 11)) (y:=(.tmp 15)) (a:=Z) (b:=hm) (v:=h1) rfl rfl hr)<|Vs 2 ?_;obtain⟨hu,hw,hx⟩:=bS ht;refine Cl' (cO 146) h0 (Kg N hp F3 h0.pers (hG.mono ((J.t Y).trans hq)) (Int.tmod G 60) 2 _ hw) ?_;rintro _ F4 b2 hy b3 rfl;obtain⟨h2,hz,b0⟩:=bS hx;refine V 20 9 (Ay (t:=9) (t':=9) (x:=(.tmp 16)) (y:=(.tmp 19)) (a:=h1) (b:=hu) (v:=h2) rfl rfl hz)<|Vs 2<|Nt<|Rt ?_;obtain rfl:=Aa b0;exact Re [sv h2,vi 0] hy rfl
def DO(N:Nat)(I:(List AbC)):Int->Option (A4 AbC Int):=fun G=>
 (bif(decide (G < (I.length:Int)))then((idx I G).bind fun J=>(bif(J !=([]:AbC))then some (.ret J)else some (.next (W64 (G + 1)))))else some (.done G))
def G2(N:Nat)(G:(List AbC)):Option AbC:=
 ((AF (DO N G) N 0).bind fun o=>o.k (fun r=>some r) (fun h0=>some ([]:AbC)))
theorem PF(N:Nat)(w0:World)(F0:Mem)(hF:AbE w0 F0)(G:(List AbC))(M:AbD)(O:Nat)(hy:LC G.length O)(h4:SlA AJ F0 M G)(r:AbC)(h:G2 N G=some r):
  Calls Tryz.prog 147 (lA [sL M G O]) w0 (AE w0 F0 fun F' v=>v=(sv r)):=by
 have h5:=Abj hF;refine Go 18 Tryz.func147<|sR [0] ?_;refine Vs 1<|Nss (Rg [0] ?_);refine Vs 1<|Nss<|sR [0,1,2] ?_;refine Vs 3<|Nt ?_;obtain⟨h1,h6,h2⟩:=bS h;refine Abo (fun f w=>∃(h3:Int)(Y:Mem),h1=.done h3/\HS w0 F0 w Y []/\Abh F0 Y/\FI f [] [(3,sE)]) ?_ ?_
 ·refine Bk ?_;refine Abg (by kernel_rfl) (fun m f w=>∃(I:Int)(F1:Mem),AF (DO N G) m I=some h1/\HS w0 F0 w F1 []/\Abh F0 F1/\FI f [] [(3,sE),(6,(sL M G O)),(7,(vi (G.length:Int))),(8,(vi I))]) N ⟨0,F0,h6,h5,Abi _,fI⟩ ?_;rintro hz f b0 ⟨I,F1,h7,J,Z,⟨_,rfl⟩⟩;obtain⟨h8,b1,rfl,h9,h0⟩:=AB h7;refine sR [0] ?_;refine Vs 1<|Nss<|Cd h9 (fun ha hb=>?_) (fun ha hc=>?_)
  ·refine Sc ?_;refine Ab<|Sq<|Bk<|sR [0,1,2] ?_;obtain⟨hg,hh,hm⟩:=bS hb;obtain⟨hn,hx49'⟩:=Ag hh;obtain⟨b2,b3,b4,b5,b6,rfl,hF58,hE59⟩:=Abp (Abk h4 Z) hx49';have ho:=hE59 _ _ hx49';refine Ix hn<|Lx 0 (J.pers _ _ hF58) ho<|Vs 1<|Nss (Rg [0,1,2] ?_);refine Vs 3<|Nt<|Cd hm (fun hp hq=>?_) (fun hp hr=>?_)
   ·refine sR [0,1] ?_;refine Vs 2<|Nt<|Rt<|As<|Ad<|Ad<|As ?_;have hret:=BC hq h0;subst hret;refine .inr<|Ad ?_;obtain rfl:=Aa h2;exact Re [sv hg] J rfl
   ·refine Sc ?_;refine Am<|Ab<|Rg [0,1]<|Vs 2<|Abd ?_;have ht:=Ax hr h0;exact⟨h8,Nat.lt_succ_self _,W64 (I + 1),F1,ht,J,Z,fI⟩
  ·refine Ex ?_;refine Ak<|Ak<|Au rfl ?_;have hu:=Az hc h0;exact .inl ⟨rfl,I,F1,hu,J,Z,fI⟩
 ·rintro f b7 ⟨h3,Y,rfl,hw,b8,⟨_,rfl⟩⟩;have hx:=AY h2;refine Ab<|sR [0,1] ?_;refine Vs 2<|Nt<|Rt ?_;obtain rfl:=Aa hx;exact Re [sE] hw rfl
def CA(N:Nat)(x0:Ac)(x1:Af)(h0:Bool)(J:(List AW)):(List AbC×Int)->Option (A4 (AbC×Int) (List AbC×Int)):=fun G=>
 (bif(decide (G.2 < (J.length:Int)))then((idx J G.2).bind fun I=>((bif I.has_ then((Cw N I.n_ I.digits_).bind fun M=>((Cv G.1 [M]).bind fun O=>some O))else some G.1).bind fun Y=>some (.next (Y,(W64 (G.2 + 1))))))else some (.done (G.1,G.2)))
def Bz(N:Nat)(G:Ac)(I:Af):Option (AbC×Int):=
 ((CD N (lY G) ({Report:=I.Report,Serial:=I.Serial,Zone:=I.Zone}:Af)).bind fun J=>(bif(!J)then some (([]:AbC),1)else((DT N (lY G) ({Report:=I.Report,Serial:=I.Serial,Zone:=I.Zone}:Af)).bind fun M=>((AF (CA N G I J M) N (([]:List AbC),0)).bind fun o=>o.k (fun r=>some r) (fun O=>((strings_Join N O.1 ([32]:AbC)).bind fun Y=>((G2 N ([Y,([45]:AbC)])).bind fun Z=>some (Z,0))))))))
theorem Fi(N:Nat)(w0:World)(F0:Mem)(hF:AbE w0 F0)(hG:BM F0)(G:Ac)(I:Af)(r:(AbC×Int))(h:Bz N G I=some r):
  Calls Tryz.prog 83 (lA [.agg (Aj G),.agg (A9 I)]) w0 (AE w0 F0 fun F' v=>v=(.tuple #[sv r.1,vi r.2])):=by
 have b2:=Abj hF;refine Go 36 Tryz.func83<|sR (rG 4) ?_;refine Bx' 23 (Aj G) b2 (fun d6 d7 b3=>?_);refine Bx' 32 (A9 I) b3 (fun d8 b4 h4=>?_);refine Vs 2<|Nss<|sR (rG 4) ?_;refine Ld h4.at1<|Ld h4.at0 ?_;obtain⟨b5,b6,b7⟩:=bS h;refine Cl' (cO 75) h4 (Fh N b4 F0 h4.pers (lY G) ({Report:=I.Report,Serial:=I.Serial,Zone:=I.Zone}:Af) _ b6) ?_;rintro _ F1 b8 Y b9 rfl;refine Vs 1<|Nt<|Cd b7 (fun ba bb=>?_) (fun ba bc=>?_)
 ·refine sR [0,1] ?_;refine Vs 2<|Nt<|Rt<|Ad ?_;obtain rfl:=Aa bb;exact Re [sE,vi 1] Y rfl
 ·refine Sc ?_;refine Ab<|sR [0] ?_;refine Vs 1<|Nss<|sR (rG 5) ?_;refine Ld Y.at1<|Ld Y.at0 ?_;obtain⟨Z,bd,be⟩:=bS bc;refine Cl' (cO 138) Y (Hl N b8 F1 Y.pers (lY G) ({Report:=I.Report,Serial:=I.Serial,Zone:=I.Zone}:Af) _ bd) ?_;rintro _ F2 d9 bf bg ⟨bh,hq,rfl,da,bi⟩;refine Vs 2<|Nt ?_;have bj:=bf.dr0.dr0.dummy (oc #[] 0);obtain⟨hr,bk,bl⟩:=bS be;refine Abo (fun f w=>∃(h0:(List AbC×Int))(F4:Mem)(h5:AbD)(h6:Nat)(hc:Option Nat×Obj),hr=.done h0/\HS w0 F0 w F4 [hc]/\Abh F2 F4/\FI f [] [(6,(sL h5 h0.1 h6))]/\Aq AJ 9 F4 h5 h6 h0.1 hc) ?_ ?_
  ·refine Bk ?_;refine Abg (by kernel_rfl) (fun m f w=>∃(J:(List AbC×Int))(M:Mem)(h1:AbD)(h2:Nat)(h3:Option Nat×Obj),AF (CA N G I b5 Z) m J=some hr/\HS w0 F0 w M [h3]/\Abh F2 M/\FI f [] [(6,(sL h1 J.1 h2)),(15,(sL bh Z hq)),(16,(vi (Z.length:Int))),(17,(vi J.2))]/\Aq AJ 9 M h1 h2 J.1 h3) N ⟨(([]:List AbC),0),F2,none,0,(none,.cells #[] 0 (0,0)),bk,bj,Abi _,fI,Abw AJ 9 F2 _⟩ ?_;rintro db f dc ⟨J,M,h1,h2,h3,bm,hg,h7,⟨_,rfl⟩,hh⟩;obtain⟨bn,dd,rfl,bo,ht⟩:=AB bm;refine sR [0] ?_;refine Vs 1<|Nss<|Cd bo (fun bp bq=>?_) (fun bp br=>?_)
   ·refine Sc ?_;refine Ab<|Sq<|Bk<|sR (rG 4) ?_;obtain⟨hm,bs,bt⟩:=bS bq;obtain⟨bu,hx76'⟩:=Ag bs;obtain⟨bv,bw,de,df,dg,rfl,hF85,hE86⟩:=Abp (Abk bi h7) hx76';have bx:=hE86 _ _ hx76';refine Ix bu<|Lx 0 (hg.pers _ _ hF85) bx<|Al' 180 #[bF,vi 0,vi 0,vi 0] hg (fun dh di bz=>?_);refine St0 (LR hm) bz (fun c0 O=>?_);refine Nss (Rg [0,1] ?_);refine Vs 1<|Ld O.at0<|Nt ?_;obtain⟨hn,c1,c3⟩:=bS bt;refine Abo (fun f w=>∃(F5:Mem)(h8:AbD)(h9:Nat)(ha:Option Nat×Obj),HS w0 F0 w F5 [ha]/\Abh M F5/\FI f [] [(6,(sL h8 hn h9)),(15,(.slice (some ⟨bv,bw,none⟩) Z.length hq)),(16,(vi (Z.length:Int))),(17,(vi J.2))]/\Aq AJ 9 F5 h8 h9 hn ha) ?_ ?_
    ·refine Cd c1 (fun c4 c5=>?_) (fun c4 c6=>?_)
     ·refine Rg (rG 9) ?_;refine Vs 2<|Ld O.at0<|Vs 1<|Ld O.at0 ?_;obtain⟨ho,c7,c8⟩:=bS c5;refine Cl' (cO 146) O (Kg N c0 M O.pers (hG.mono ((b9.t bg).trans h7)) hm.n_ hm.digits_ _ c7) ?_;rintro _ F6 dj c9 hu rfl;refine Bs 9 [sv ho] c9 (fun hw dk hx=>?_);have ca:Aq AJ 9 F6 (some ⟨hw,0,none⟩) 1 [ho] (some hw,.cells (lA [sv ho]) 9 (0,0)):=Abx ⟨rfl,rfl⟩ (by simp);obtain⟨dl,cb,cc⟩:=bS c8;refine Ap2 Pr hx (hh.mono hu) (hx.rd0 ca) cb (fun cd ce cf dm cg ch=>?_);refine Vs 1<|Abd ?_;obtain rfl:=Aa cc;exact .inl ⟨rfl,F6,cd,ce,cf,cg.dr0.dr0,hu,fI,ch⟩
     ·refine Sc ?_;obtain rfl:=Aa c6;exact .inl ⟨rfl,M,h1,h2,h3,O.dr0,Abi _,fI,hh⟩
    ·rintro f dn ⟨F5,h8,h9,ha,ci,cj,⟨_,rfl⟩,cl⟩;refine Am<|Ab<|Rg [0,1]<|Vs 2<|Abd ?_;have cm:=Ax c3 ht;exact⟨bn,Nat.lt_succ_self _,(hn,(W64 (J.2 + 1))),F5,h8,h9,ha,cm,ci,h7.t cj,fI,cl⟩
   ·refine Ex ?_;refine Ak<|Ak<|Au rfl ?_;have cn:=Az br ht;exact .inl ⟨rfl,(J.1,J.2),M,h1,h2,h3,cn,hg,h7,fI,hh⟩
  ·rintro f co ⟨h0,F4,h5,h6,hc,rfl,cp,dp,⟨_,rfl⟩,hy⟩;have cq:=AY bl;refine Ab<|sR (rG 6) ?_;refine Vs 1 ?_;have cr:=Abv hy;obtain⟨F7,hz,dq,ct⟩:=cp.fr0 hy;obtain⟨hb,cu,cv⟩:=bS cq;refine Cl' (cO 84) hz (DP N co F7 hz.pers h0.1 h5 h6 cr ct ([32]:AbC) _ cu) ?_;rintro _ F8 dr cw ds rfl;refine Bs 9 [sv hb,sv ([45]:AbC)] cw (fun hp cx cy=>?_);have b0:Aq AJ 9 F8 (some ⟨hp,0,none⟩) 2 [hb,([45]:AbC)] (some hp,.cells (lA [sv hb,sv ([45]:AbC)]) 9 (0,0)):=Abx ⟨rfl,⟨rfl,rfl⟩⟩ (by simp);have cz:=Abv b0;obtain⟨F9,b1,dt,d0⟩:=cy.fr0 b0;obtain⟨d1,d2,d3⟩:=bS cv;refine Cl' (cO 147) b1 (PF N cx F9 b1.pers ([hb,([45]:AbC)]) (some ⟨hp,0,none⟩) 2 cz d0 _ d2) ?_;rintro _ du dv d4 dw rfl;refine Vs 2<|Nt<|Rt ?_;obtain rfl:=Aa d3;exact Re [sv d1,vi 0] d4 rfl
def Cs(N:Nat)(x0 I:Int):(Int×AbC)->Option (A4 AbC (Int×AbC)):=fun G=>
 (bif((decide (G.1 > 0))||(decide ((G.2.length:Int) < I)))then((HT ([48,49,50,51,52,53,54,55,56,57]:AbC) (Int.tmod G.1 10) (W64 ((Int.tmod G.1 10) + 1))).bind fun J=>((A2 J G.2).bind fun M=>some (.next ((W64 (Int.tdiv G.1 10)),M))))else some (.done (G.1,G.2)))
def Bg(N:Nat)(G I:Int):Option AbC:=
 ((AF (Cs N G I) N (G,([]:AbC))).bind fun o=>o.k (fun r=>some r) (fun J=>some J.2))
theorem Dh(N:Nat)(w0:World)(F0:Mem)(hF:AbE w0 F0)(O J:Int)(r:AbC)(h:Bg N O J=some r):
  Calls Tryz.prog 151 (lA [vi O,vi J]) w0 (AE w0 F0 fun F' v=>v=(sv r)):=by
 have h8:=Abj hF;refine Go 25 Tryz.func151<|sR [0] ?_;refine Vs 1<|Nss (Rg [0] ?_);refine Vs 1<|Nss ?_;obtain⟨h0,h9,ha⟩:=bS h;refine Abo (fun f w=>∃(Y:(Int×AbC))(Z:Mem),h0=.done Y/\HS w0 F0 w Z []/\Abh F0 Z/\FI f [] [(5,(sv Y.2))]) ?_ ?_
 ·refine Bk ?_;refine Abg (by kernel_rfl) (fun m f w=>∃(G:(Int×AbC))(F1:Mem),AF (Cs N O J) m G=some h0/\HS w0 F0 w F1 []/\Abh F0 F1/\FI f [] [(0,(vi G.1)),(1,(vi J)),(5,(sv G.2))]) N ⟨(O,([]:AbC)),F0,h9,h8,Abi _,fI⟩ ?_;rintro hy f hz ⟨G,F1,hb,h1,h2,⟨_,rfl⟩⟩;obtain⟨hc,b0,rfl,hg,h3⟩:=AB hb;refine Sq<|sR (rG 8) ?_;refine Abn (fun f w=>∃(M:Mem),HS w0 F0 w M []/\Abh F1 M/\FI f [] [(0,(vi G.1)),(1,(vi J)),(5,(sv G.2)),(13,(.bool ((decide (G.1 > 0))||(decide ((G.2.length:Int) < J)))))]) ?_ ?_
  ·refine Vs 3 ?_;refine Abm (decide (G.1 > 0)) (fun I=>?_) (fun I=>?_)
   ·refine Ss I 4 ?_;refine Pk1 I ?_;exact Abd ⟨rfl,F1,h1,Abi _,fJ ⟨rfl,rfl,rfl,congrArg Value.bool (Ep I rfl),trivial⟩⟩
   ·refine Vgs I 4 ?_;refine Pk0 I ?_;exact Abd ⟨rfl,F1,h1,Abi _,fJ ⟨rfl,rfl,rfl,congrArg Value.bool (Ci I rfl),trivial⟩⟩
  ·rintro f b1 ⟨M,h4,h5,⟨_,rfl⟩⟩;refine Ab<|Cd hg (fun hh hm=>?_) (fun hh hn=>?_)
   ·refine Sc ?_;refine Ab<|Bk<|sR (rG 9) ?_;refine Vs 5 ?_;obtain⟨h6,ho,hp⟩:=bS hm;refine V 19 9 (Dn (t:=9) (x:=(.const (sv ([48,49,50,51,52,53,54,55,56,57]:AbC)))) (lo:=(some (.tmp 15))) (hi:=(some (.tmp 18))) (a:=([48,49,50,51,52,53,54,55,56,57]:AbC)) (il:=(Int.tmod G.1 10)) (ih:=(W64 ((Int.tmod G.1 10) + 1))) (v:=h6) rfl (by kernel_rfl) rfl rfl ho)<|Vs 1 ?_;obtain⟨h7,hq,hr⟩:=bS hp;refine V 21 9 (Ay (t:=9) (t':=9) (x:=(.tmp 19)) (y:=(.tmp 20)) (a:=h6) (b:=G.2) (v:=h7) rfl rfl hq)<|Vs 1<|Nt<|Rg [0,1,2]<|Vs 3<|Abd<|Am ?_;have ht:=Ax hr h3;exact⟨hc,Nat.lt_succ_self _,((W64 (Int.tdiv G.1 10)),h7),M,ht,h4,h2.t h5,fI⟩
   ·refine Ex ?_;refine Ak<|Ak<|Au rfl ?_;have hu:=Az hn h3;exact .inl ⟨rfl,(G.1,G.2),M,hu,h4,h2.t h5,fI⟩
 ·rintro f b2 ⟨Y,Z,rfl,hw,b3,⟨_,rfl⟩⟩;have hx:=AY ha;refine Ab<|sR [0,1] ?_;refine Vs 2<|Nt<|Rt ?_;obtain rfl:=Aa hx;exact Re [sv Y.2] hw rfl
def CF(N:Nat)(G:Int):Option (AbC×Int):=
 ((Do N G 0 20000).bind fun I=>(bif(!I)then some (([]:AbC),1)else((Bg N (W64 ((W64 (Int.tdiv G 1440)) + 1)) 1).bind fun J=>((A2 J ([32]:AbC)).bind fun M=>((Bg N (W64 (Int.tdiv (Int.tmod G 1440) 60)) 2).bind fun O=>((A2 M O).bind fun Y=>((Bg N (Int.tmod (Int.tmod G 1440) 60) 2).bind fun Z=>((A2 Y Z).bind fun h0=>some (h0,0)))))))))
theorem IY(N:Nat)(w0:World)(F0:Mem)(hF:AbE w0 F0)(G:Int)(r:(AbC×Int))(h:CF N G=some r):
  Calls Tryz.prog 86 (lA [vi G]) w0 (AE w0 F0 fun F' v=>v=(.tuple #[sv r.1,vi r.2])):=by
 have J:=Abj hF;refine Go 23 Tryz.func86<|sR [0,1] ?_;refine Vs 2<|Nss<|sR [0,1,2] ?_;refine Vs 1 ?_;obtain⟨hy,h1,h2⟩:=bS h;refine Cl' (cO 150) J (DQ N w0 F0 J.pers G 0 20000 _ h1) ?_;rintro _ F1 h3 I hz rfl;refine Vs 1<|Nt<|Cd h2 (fun h4 h5=>?_) (fun h4 h6=>?_)
 ·refine sR [0,1] ?_;refine Vs 2<|Nt<|Rt<|Ad ?_;obtain rfl:=Aa h5;exact Re [sE,vi 1] I rfl
 ·refine Sc ?_;refine Ab<|sR [0,1,2] ?_;refine Vs 3<|Nss (Rg (rG 15) ?_);refine Vs 3 ?_;obtain⟨h7,h8,h9⟩:=bS h6;refine Cl' (cO 151) I (Dh N h3 F1 I.pers (W64 ((W64 (Int.tdiv G 1440)) + 1)) 1 _ h8) ?_;rintro _ F2 ha M b0 rfl;obtain⟨O,hb,hc⟩:=bS h9;refine V 14 9 (Ay (t:=9) (t':=9) (x:=(.tmp 13)) (y:=(.const (sv ([32]:AbC)))) (a:=h7) (b:=([32]:AbC)) (v:=O) rfl rfl hb)<|Vs 2 ?_;obtain⟨hg,hh,hm⟩:=bS hc;refine Cl' (cO 151) M (Dh N ha F2 M.pers (W64 (Int.tdiv (Int.tmod G 1440) 60)) 2 _ hh) ?_;rintro _ F3 hn Y b1 rfl;obtain⟨Z,ho,hp⟩:=bS hm;refine V 18 9 (Ay (t:=9) (t':=9) (x:=(.tmp 14)) (y:=(.tmp 17)) (a:=O) (b:=hg) (v:=Z) rfl rfl ho)<|Vs 2 ?_;obtain⟨hq,hr,ht⟩:=bS hp;refine Cl' (cO 151) Y (Dh N hn F3 Y.pers (Int.tmod (Int.tmod G 1440) 60) 2 _ hr) ?_;rintro _ F4 b2 hu b3 rfl;obtain⟨h0,hw,hx⟩:=bS ht;refine V 22 9 (Ay (t:=9) (t':=9) (x:=(.tmp 18)) (y:=(.tmp 21)) (a:=Z) (b:=hq) (v:=h0) rfl rfl hw)<|Vs 2<|Nt<|Rt ?_;obtain rfl:=Aa hx;exact Re [sv h0,vi 0] hu rfl
def EI(N:Nat)(I:(List AbC)):(AbC×Int)->Option (A4 AbC (AbC×Int)):=fun G=>
 (bif(decide (G.2 < (I.length:Int)))then((bif(decide (G.2 > 0))then((A2 G.1 ([32]:AbC)).bind fun J=>some J)else some G.1).bind fun M=>((idx I G.2).bind fun O=>((A2 M O).bind fun Y=>some (.next (Y,(W64 (G.2 + 1)))))))else some (.done (G.1,G.2)))
def IC(N:Nat)(G:(List AbC)):Option AbC:=
 ((AF (EI N G) N (([]:AbC),0)).bind fun o=>o.k (fun r=>some r) (fun I=>some I.1))
theorem RP(N:Nat)(w0:World)(F0:Mem)(hF:AbE w0 F0)(I:(List AbC))(J:AbD)(M:Nat)(ba:LC I.length M)(h8:SlA AJ F0 J I)(r:AbC)(h:IC N I=some r):
  Calls Tryz.prog 152 (lA [sL J I M]) w0 (AE w0 F0 fun F' v=>v=(sv r)):=by
 have h9:=Abj hF;refine Go 22 Tryz.func152<|sR [0] ?_;refine Vs 1<|Nss (Rg [0] ?_);refine Vs 1<|Nss<|sR [0] ?_;refine Vs 1<|Nt ?_;obtain⟨h2,ha,hb⟩:=bS h;refine Abo (fun f w=>∃(O:(AbC×Int))(Z:Mem),h2=.done O/\HS w0 F0 w Z []/\Abh F0 Z/\FI f [] [(3,(sv O.1))]) ?_ ?_
 ·refine Bk ?_;refine Abg (by kernel_rfl) (fun m f w=>∃(G:(AbC×Int))(F1:Mem),AF (EI N I) m G=some h2/\HS w0 F0 w F1 []/\Abh F0 F1/\FI f [] [(0,(sL J I M)),(3,(sv G.1)),(4,(vi G.2))]) N ⟨(([]:AbC),0),F0,ha,h9,Abi _,fI⟩ ?_;rintro bb f bc ⟨G,F1,hc,h0,h1,⟨_,rfl⟩⟩;obtain⟨hg,bd,rfl,hh,h3⟩:=AB hc;refine Sq<|sR (rG 4) ?_;refine Vs 4<|Nt<|Cd hh (fun hm hn=>?_) (fun hm ho=>?_)
  ·refine Sc ?_;refine Ab<|Sq<|Bk<|Sq<|sR [0,1] ?_;refine Vs 2<|Nt ?_;obtain⟨h4,hp,hq⟩:=bS hn;refine Abo (fun f w=>∃(Y:Mem),HS w0 F0 w Y []/\Abh F1 Y/\FI f [] [(0,(sL J I M)),(3,(sv h4)),(4,(vi G.2))]) ?_ ?_
   ·refine Cd hp (fun hr ht=>?_) (fun hr hu=>?_)
    ·refine Rg [0,1,2] ?_;refine Vs 1 ?_;obtain⟨hw,hx,hy⟩:=bS ht;refine V 14 9 (Ay (t:=9) (t':=9) (x:=(.tmp 13)) (y:=(.const (sv ([32]:AbC)))) (a:=G.1) (b:=([32]:AbC)) (v:=hw) rfl rfl hx)<|Vs 1<|Abd ?_;obtain rfl:=Aa hy;exact .inl ⟨rfl,F1,h0,Abi _,fI⟩
    ·refine Sc ?_;obtain rfl:=Aa hu;exact .inl ⟨rfl,F1,h0,Abi _,fI⟩
   ·rintro f be ⟨Y,h5,h6,⟨_,rfl⟩⟩;refine Ab<|Rg (rG 7)<|Vs 3 ?_;obtain⟨hz,b0,b1⟩:=bS hq;obtain⟨b2,hx64'⟩:=Ag b0;obtain⟨bf,bg,bh,bi,bj,rfl,hF73,hE74⟩:=Abp (Abk h8 (h1.t h6)) hx64';have b3:=hE74 _ _ hx64';refine Ix b2<|Lx 0 (h5.pers _ _ hF73) b3 ?_;obtain⟨h7,b4,b5⟩:=bS b1;refine V 20 9 (Ay (t:=9) (t':=9) (x:=(.tmp 15)) (y:=(.tmp 19)) (a:=h4) (b:=hz) (v:=h7) rfl rfl b4)<|Vs 1<|Abd<|Am<|Ab<|Rg [0,1,2]<|Vs 3<|Abd ?_;have b6:=Ax b5 h3;exact⟨hg,Nat.lt_succ_self _,(h7,(W64 (G.2 + 1))),Y,b6,h5,h1.t h6,fI⟩
  ·refine Ex ?_;refine Ak<|Ak<|Au rfl ?_;have b7:=Az ho h3;exact .inl ⟨rfl,(G.1,G.2),F1,b7,h0,h1,fI⟩
 ·rintro f bk ⟨O,Z,rfl,b8,bl,⟨_,rfl⟩⟩;have b9:=AY hb;refine Ab<|sR [0,1] ?_;refine Vs 2<|Nt<|Rt ?_;obtain rfl:=Aa b9;exact Re [sv O.1] b8 rfl
def Be(N:Nat)(G:Ac)(I:Af):Option (AbC×Int):=
 ((Cf N (lY G) ({Report:=I.Report,Serial:=I.Serial,Zone:=I.Zone}:Af)).bind fun Y=>(bif(!Y)then some (([]:AbC),1)else((bif G.Report then((Bg N I.Report 1).bind fun Z=>((Cv ([]:List AbC) [Z]).bind fun h0=>some h0))else some ([]:List AbC)).bind fun J=>((bif G.Serial then((Bg N I.Serial 3).bind fun h1=>((Cv J [h1]).bind fun h2=>some h2))else some J).bind fun M=>((bif G.Zone then((Bg N I.Zone 2).bind fun h3=>((Cv M [h3]).bind fun h4=>some h4))else some M).bind fun O=>(bif((O.length:Int)==0)then some (([45]:AbC),0)else((IC N O).bind fun h5=>some (h5,0))))))))
theorem Ev(N:Nat)(w0:World)(F0:Mem)(hF:AbE w0 F0)(I:Ac)(G:Af)(r:(AbC×Int))(h:Be N I G=some r):
  Calls Tryz.prog 87 (lA [.agg (Aj I),.agg (A9 G)]) w0 (AE w0 F0 fun F' v=>v=(.tuple #[sv r.1,vi r.2])):=by
 have b5:=Abj hF;refine Go 40 Tryz.func87<|sR (rG 4) ?_;refine Bx' 23 (Aj I) b5 (fun h0 d8 b6=>?_);refine Bx' 32 (A9 G) b6 (fun h1 b7 h2=>?_);refine Vs 2<|Nss<|sR (rG 4) ?_;refine Ld h2.at1<|Ld h2.at0 ?_;obtain⟨d9,b8,b9⟩:=bS h;refine Cl' (cO 78) h2 (Eu N b7 F0 h2.pers (lY I) ({Report:=G.Report,Serial:=G.Serial,Zone:=G.Zone}:Af) _ b8) ?_;rintro _ F1 ba hn da rfl;refine Vs 1<|Nt<|Cd b9 (fun bb bc=>?_) (fun bb bd=>?_)
 ·refine sR [0,1] ?_;refine Vs 2<|Nt<|Rt<|Ad ?_;obtain rfl:=Aa bc;exact Re [sE,vi 1] hn rfl
 ·refine Sc ?_;refine Ab<|sR [0] ?_;refine Vs 1 ?_;have O:=hn.dummy (oc #[] 0);refine Nss<|sR [0,1] ?_;refine Vs 1<|Ld O.at2<|Nt ?_;obtain⟨ho,be,bf⟩:=bS bd;refine Abo (fun f w=>∃(J:Mem)(h3:AbD)(h4:Nat)(h5:Option Nat×Obj),HS w0 F0 w J [h5,sb h1 (A9 G) 32,sb h0 (Aj I) 23]/\Abh F1 J/\FI f [] [(2,(pt h0 0)),(3,(pt h1 0)),(6,(sL h3 ho h4))]/\Aq AJ 9 J h3 h4 ho h5) ?_ ?_
  ·refine Cd be (fun bg bh=>?_) (fun bg bi=>?_)
   ·refine Rg (rG 7) ?_;refine Vs 2<|Ld O.at1 ?_;obtain⟨hb,bj,bk⟩:=bS bh;refine Cl' (cO 151) O (Dh N ba F1 O.pers G.Report 1 _ bj) ?_;rintro _ F3 db bl bm rfl;refine Bs 9 [sv hb] bl (fun hp dc hq=>?_);have bn:Aq AJ 9 F3 (some ⟨hp,0,none⟩) 1 [hb] (some hp,.cells (lA [sv hb]) 9 (0,0)):=Abx ⟨rfl,rfl⟩ (by simp);obtain⟨dd,bo,bp⟩:=bS bk;refine Ap1 Pr hq (Abw AJ 9 F3 _) (hq.rd0 bn) bo (fun bq br bs de bt bu=>?_);refine Vs 1<|Abd ?_;obtain rfl:=Aa bp;exact .inl ⟨rfl,F3,bq,br,bs,bt.dr0,bm,fI,bu⟩
   ·refine Sc ?_;obtain rfl:=Aa bi;exact .inl ⟨rfl,F1,none,0,(none,.cells #[] 0 (0,0)),O,Abi _,fI,Abw AJ 9 F1 _⟩
  ·rintro f bv ⟨J,h3,h4,h5,Y,df,⟨_,rfl⟩,hr⟩;refine Ab<|Sq<|sR [0,1] ?_;refine Vs 1<|Ld Y.at2<|Nt ?_;obtain⟨ht,bw,bx⟩:=bS bf;refine Abo (fun f w=>∃(M:Mem)(h6:AbD)(h7:Nat)(h8:Option Nat×Obj),HS w0 F0 w M [h8,sb h1 (A9 G) 32,sb h0 (Aj I) 23]/\Abh J M/\FI f [] [(2,(pt h0 0)),(3,(pt h1 0)),(6,(sL h6 ht h7))]/\Aq AJ 9 M h6 h7 ht h8) ?_ ?_
   ·refine Cd bw (fun bz c0=>?_) (fun bz c1=>?_)
    ·refine Rg (rG 7) ?_;refine Vs 2<|Ld Y.at1 ?_;obtain⟨hc,c3,c4⟩:=bS c0;refine Cl' (cO 151) Y (Dh N bv J Y.pers G.Serial 3 _ c3) ?_;rintro _ F5 dg c5 hu rfl;refine Bs 9 [sv hc] c5 (fun hw dh hx=>?_);have c6:Aq AJ 9 F5 (some ⟨hw,0,none⟩) 1 [hc] (some hw,.cells (lA [sv hc]) 9 (0,0)):=Abx ⟨rfl,rfl⟩ (by simp);obtain⟨di,c7,c8⟩:=bS c4;refine Ap1 Pr hx (hr.mono hu) (hx.rd0 c6) c7 (fun c9 ca cb dj cc cd=>?_);refine Vs 1<|Abd ?_;obtain rfl:=Aa c8;exact .inl ⟨rfl,F5,c9,ca,cb,cc.dr0,hu,fI,cd⟩
    ·refine Sc ?_;obtain rfl:=Aa c1;exact .inl ⟨rfl,J,h3,h4,h5,Y,Abi _,fI,hr⟩
   ·rintro f ce ⟨M,h6,h7,h8,Z,dk,⟨_,rfl⟩,hy⟩;refine Ab<|Sq<|sR [0,1] ?_;refine Vs 1<|Ld Z.at2<|Nt ?_;obtain⟨hg,cf,cg⟩:=bS bx;refine Abo (fun f w=>∃(F6:Mem)(h9:AbD)(ha:Nat)(hh:Option Nat×Obj),HS w0 F0 w F6 [hh]/\Abh M F6/\FI f [] [(6,(sL h9 hg ha))]/\Aq AJ 9 F6 h9 ha hg hh) ?_ ?_
    ·refine Cd cf (fun ch ci=>?_) (fun ch cj=>?_)
     ·refine Rg (rG 7) ?_;refine Vs 2<|Ld Z.at1 ?_;obtain⟨hm,cl,cm⟩:=bS ci;refine Cl' (cO 151) Z (Dh N ce M Z.pers G.Zone 2 _ cl) ?_;rintro _ F7 dl cn hz rfl;refine Bs 9 [sv hm] cn (fun b0 dm b1=>?_);have co:Aq AJ 9 F7 (some ⟨b0,0,none⟩) 1 [hm] (some b0,.cells (lA [sv hm]) 9 (0,0)):=Abx ⟨rfl,rfl⟩ (by simp);obtain⟨dn,cp,cq⟩:=bS cm;refine Ap1 Pr b1 (hy.mono hz) (b1.rd0 co) cp (fun cr ct cu dp cv cw=>?_);refine Vs 1<|Abd ?_;obtain rfl:=Aa cq;exact .inl ⟨rfl,F7,cr,ct,cu,cv.dr0.dr1.dr1,hz,fI,cw⟩
     ·refine Sc ?_;obtain rfl:=Aa cj;exact .inl ⟨rfl,M,h6,h7,h8,Z.dr1.dr1,Abi _,fI,hy⟩
    ·rintro f cx ⟨F6,h9,ha,hh,b2,dq,⟨_,rfl⟩,b3⟩;refine Ab<|Sq<|sR [0,1,2] ?_;refine Vs 3<|Nt<|Cd cg (fun cy cz=>?_) (fun cy d0=>?_)
     ·refine sR [0,1] ?_;refine Vs 2<|Nt<|Rt<|Ad ?_;obtain rfl:=Aa cz;exact Re [sv ([45]:AbC),vi 0] b2 rfl
     ·refine Sc ?_;refine Ab<|sR (rG 4) ?_;refine Vs 1 ?_;have d1:=Abv b3;obtain⟨F8,b4,dr,d2⟩:=b2.fr0 b3;obtain⟨d3,d4,d6⟩:=bS d0;refine Cl' (cO 152) b4 (RP N cx F8 b4.pers hg h9 ha d1 d2 _ d4) ?_;rintro _ F9 ds d7 dt rfl;refine Vs 2<|Nt<|Rt ?_;obtain rfl:=Aa d6;exact Re [sv d3,vi 0] d7 rfl
def AR(N:Nat)(I:(List AbC))(J:AbC):Int->Option (A4 Int Int):=fun G=>
 (bif(decide (G < (I.length:Int)))then((idx I G).bind fun M=>(bif(J==M)then some (.ret G)else some (.next (W64 (G + 1)))))else some (.done G))
def A5(N:Nat)(G:(List AbC))(I:AbC):Option Int:=
 ((AF (AR N G I) N 0).bind fun o=>o.k (fun r=>some r) (fun h0=>some (-1)))
theorem Ej(N:Nat)(w0:World)(F0:Mem)(hF:AbE w0 F0)(G:(List AbC))(O:AbD)(Y:Nat)(hy:LC G.length Y)(h5:SlA AJ F0 O G)(J:AbC)(r:Int)(h:A5 N G J=some r):
  Calls Tryz.prog 94 (lA [sL O G Y,sv J]) w0 (AE w0 F0 fun F' v=>v=(vi r)):=by
 have h6:=Abj hF;refine Go 19 Tryz.func94<|sR [0] ?_;refine Vs 1<|Nss<|sR [0,1,2] ?_;refine Vs 3<|Nt ?_;obtain⟨h2,h7,h3⟩:=bS h;refine Abo (fun f w=>∃(h4:Int)(Z:Mem),h2=.done h4/\HS w0 F0 w Z []/\Abh F0 Z/\FI f [] []) ?_ ?_
 ·refine Bk ?_;refine Abg (by kernel_rfl) (fun m f w=>∃(I:Int)(F1:Mem),AF (AR N G J) m I=some h2/\HS w0 F0 w F1 []/\Abh F0 F1/\FI f [] [(0,(sL O G Y)),(1,(sv J)),(7,(vi (G.length:Int))),(8,(vi I))]) N ⟨0,F0,h7,h6,Abi _,fI⟩ ?_;rintro hz f b0 ⟨I,F1,h8,M,h0,⟨_,rfl⟩⟩;obtain⟨h9,b1,rfl,ha,h1⟩:=AB h8;refine sR [0] ?_;refine Vs 1<|Nss<|Cd ha (fun hb hc=>?_) (fun hb hg=>?_)
  ·refine Sc ?_;refine Ab<|Sq<|Bk<|sR [0,1] ?_;refine Vs 2<|Nss (Rg (rG 6) ?_);refine Vs 3 ?_;obtain⟨b2,hh,hm⟩:=bS hc;obtain⟨hn,hx48'⟩:=Ag hh;obtain⟨b3,b4,b5,b6,b7,rfl,hF57,hE58⟩:=Abp (Abk h5 h0) hx48';have ho:=hE58 _ _ hx48';refine Ix hn<|Lx 0 (M.pers _ _ hF57) ho<|Vs 1<|Nt<|Cd hm (fun hp hq=>?_) (fun hp hr=>?_)
   ·refine sR [0,1] ?_;refine Vs 2<|Nt<|Rt<|As<|Ad<|Ad<|As ?_;have hret:=BC hq h1;subst hret;refine .inr<|Ad ?_;obtain rfl:=Aa h3;exact Re [vi I] M rfl
   ·refine Sc ?_;refine Am<|Ab<|Rg [0,1]<|Vs 2<|Abd ?_;have ht:=Ax hr h1;exact⟨h9,Nat.lt_succ_self _,W64 (I + 1),F1,ht,M,h0,fI⟩
  ·refine Ex ?_;refine Ak<|Ak<|Au rfl ?_;have hu:=Az hg h1;exact .inl ⟨rfl,I,F1,hu,M,h0,fI⟩
 ·rintro f b8 ⟨h4,Z,rfl,hw,b9,⟨_,rfl⟩⟩;have hx:=AY h3;refine Ab<|sR [0] ?_;refine Vs 1<|Nt<|Rt ?_;obtain rfl:=Aa hx;exact Re [vi (-1)] hw rfl
def CT(N:Nat)(G:AbC):Option Int:=
 ((Hn N G 9 (fun I=>BL N I)).bind fun J=>(bif(!J)then some (-1)else((CJ N G).bind fun M=>some M.1)))
theorem GD(N:Nat)(w0:World)(F0:Mem)(hF:AbE w0 F0)(hG:BM F0)(G:AbC)(r:Int)(h:CT N G=some r):
  Calls Tryz.prog 165 (lA [sv G]) w0 (AE w0 F0 fun F' v=>v=(vi r)):=by
 have M:=Abj hF;refine Go 14 Tryz.func165<|sR [0] ?_;refine Vs 1<|Nss<|sR [0,1,2] ?_;refine Vs 1 ?_;obtain⟨ha,O,Y⟩:=bS h;refine Cl' (cO 198) M (Ij N w0 F0 M.pers G 9 199 [] [] (fun I=>BL N I) (cO 199) (fun w1 F1 I r hb Z h0=>IZ N w1 F1 Z I r h0) _ O) ?_;rintro _ F1 h1 J h2 rfl;refine Vs 1<|Nt<|Cd Y (fun h3 h4=>?_) (fun h3 h5=>?_)
 ·refine sR [0] ?_;refine Vs 1<|Nt<|Rt<|Ad ?_;obtain rfl:=Aa h4;exact Re [vi (-1)] J rfl
 ·refine Sc ?_;refine Ab<|sR (rG 7) ?_;refine Vs 1 ?_;obtain⟨h6,h7,h8⟩:=bS h5;refine Cl' (cO 163) J (Lm N h1 F1 J.pers (hG.mono h2) G _ h7) ?_;rintro _ F2 hc h9 hg ⟨hh,rfl,hm⟩;refine Vs 5<|Nss (Rg [0,1] ?_);refine Vs 2<|Nt<|Rt ?_;obtain rfl:=Aa h8;exact Re [vi h6.1] h9 rfl
def Iq(N:Nat)(J:AbC):Option (Int×Int):=
 ((strings_Cut N J ([32]:AbC)).bind fun M=>((CT N M.1).bind fun I=>((CT N M.2.1).bind fun G=>(bif((decide (I < 1))||((decide (I > 20000))||(decide (G < 0))))then some (0,13)else((DB N (W64 ((W64 ((W64 ((W64 (I - 1)) * 1440)) + (W64 ((W64 (Int.tdiv G 100)) * 60)))) + (Int.tmod G 100)))).bind fun O=>(bif((O.2 !=0)||(O.1 !=J))then some (0,13)else some ((W64 ((W64 ((W64 ((W64 (I - 1)) * 1440)) + (W64 ((W64 (Int.tdiv G 100)) * 60)))) + (Int.tmod G 100))),0)))))))
theorem O2(N:Nat)(w0:World)(F0:Mem)(hF:AbE w0 F0)(hG:BM F0)(Y:AbC)(r:(Int×Int))(h:Iq N Y=some r):
  Calls Tryz.prog 96 (lA [sv Y]) w0 (AE w0 F0 fun F' v=>v=(.tuple #[vi r.1,vi r.2])):=by
 have h4:=Abj hF;refine Go 55 Tryz.func96<|sR [0,1] ?_;refine Vs 2<|Nss (Rg (rG 9) ?_);refine Vs 1 ?_;obtain⟨h5,hb,hc⟩:=bS h;refine Cl' (cO 164) h4 (Mv N w0 F0 h4.pers hG Y ([32]:AbC) _ hb) ?_;rintro _ F1 hg h6 h0 rfl;refine Vs 7<|Nss (Rg (rG 6) ?_);refine Vs 1 ?_;obtain⟨G,hh,hm⟩:=bS hc;refine Cl' (cO 165) h6 (GD N hg F1 h6.pers (hG.mono h0) h5.1 _ hh) ?_;rintro _ F2 hn h7 h8 rfl;refine Vs 1 ?_;obtain⟨I,ho,hp⟩:=bS hm;refine Cl' (cO 165) h7 (GD N hn F2 h7.pers (hG.mono (h0.t h8)) h5.2.1 _ ho) ?_;rintro _ Z b3 h1 hq rfl;refine Vs 2<|Nss<|sR (rG 10) ?_;refine Abn (fun f w=>∃(F4:Mem),HS w0 F0 w F4 []/\Abh Z F4/\FI f [] [(0,(sv Y)),(7,(vi G)),(8,(vi I)),(31,(.bool ((decide (G < 1))||((decide (G > 20000))||(decide (I < 0))))))]) ?_ ?_
 ·refine Vs 3 ?_;refine Abm (decide (G < 1)) (fun J=>?_) (fun J=>?_)
  ·refine Ss J 2 ?_;refine Pk1 J<|Vs 1<|Ss rT 2<|Pk1 rT ?_;exact Abd ⟨rfl,Z,h1,Abi _,fJ ⟨rfl,rfl,rfl,congrArg Value.bool (Ep J rfl),trivial⟩⟩
  ·refine Vgs J 2 ?_;refine Pk0 J<|Vs 1<|Abm (decide (G > 20000)) (fun M=>?_) (fun M=>?_)
   ·refine Ss M 2 ?_;refine Pk1 M ?_;exact Abd ⟨rfl,Z,h1,Abi _,fJ ⟨rfl,rfl,rfl,congrArg Value.bool (Ci J (Ep M rfl)),trivial⟩⟩
   ·refine Vgs M 2 ?_;refine Pk0 M ?_;exact Abd ⟨rfl,Z,h1,Abi _,fJ ⟨rfl,rfl,rfl,congrArg Value.bool (Ci J (Ci M rfl)),trivial⟩⟩
 ·rintro f hr ⟨F4,h2,ht,⟨_,rfl⟩⟩;refine Ab<|Cd hp (fun hu hw=>?_) (fun hu hx=>?_)
  ·refine sR [0,1] ?_;refine Vs 2<|Nt<|Rt<|Ad ?_;obtain rfl:=Aa hw;exact Re [vi 0,vi 13] h2 rfl
  ·refine Sc ?_;refine Ab<|sR (rG 11) ?_;refine Vs 11<|Nss<|sR (rG 7) ?_;refine Vs 1 ?_;obtain⟨h3,hy,hz⟩:=bS hx;refine Cl' (cO 82) h2 (KB N hr F4 h2.pers (hG.mono (((h0.t h8).trans hq).trans ht)) (W64 ((W64 ((W64 ((W64 (G - 1)) * 1440)) + (W64 ((W64 (Int.tdiv I 100)) * 60)))) + (Int.tmod I 100))) _ hy) ?_;rintro _ F5 b4 h9 b5 rfl;refine Vs 5<|Nss (Rg (rG 7) ?_);refine Abn (fun f w=>∃(F6:Mem),HS w0 F0 w F6 []/\Abh F5 F6/\FI f [] [(9,(vi (W64 ((W64 ((W64 ((W64 (G - 1)) * 1440)) + (W64 ((W64 (Int.tdiv I 100)) * 60)))) + (Int.tmod I 100))))),(53,(.bool ((h3.2 !=0)||(h3.1 !=Y))))]) ?_ ?_
   ·refine Vs 3 ?_;refine Abm (h3.2 !=0) (fun O=>?_) (fun O=>?_)
    ·refine Ss O 3 ?_;refine Pk1 O ?_;exact Abd ⟨rfl,F5,h9,Abi _,fJ ⟨rfl,congrArg Value.bool (Ep O rfl),trivial⟩⟩
    ·refine Vgs O 3 ?_;refine Pk0 O ?_;exact Abd ⟨rfl,F5,h9,Abi _,fJ ⟨rfl,congrArg Value.bool (Ci O rfl),trivial⟩⟩
   ·rintro f b6 ⟨F6,ha,b7,⟨_,rfl⟩⟩;refine Ab<|Cd hz (fun b0 b1=>?_) (fun b0 b2=>?_)
    ·refine sR [0,1] ?_;refine Vs 2<|Nt<|Rt<|Ad ?_;obtain rfl:=Aa b1;exact Re [vi 0,vi 13] ha rfl
    ·refine Sc ?_;refine Ab<|sR [0,1,2] ?_;refine Vs 3<|Nt<|Rt ?_;obtain rfl:=Aa b2;exact Re [vi (W64 ((W64 ((W64 ((W64 (G - 1)) * 1440)) + (W64 ((W64 (Int.tdiv I 100)) * 60)))) + (Int.tmod I 100))),vi 0] ha rfl
def FP(N:Nat)(G:Ac)(O:AbC):Option (Af×Int):=
 ((strings_Split N O ([32]:AbC)).bind fun M=>(((DT N (lY G) zE).bind fun h0=>((idx h0 0).bind fun h1=>(bif h1.has_ then some (decide ((M.length:Int) > 0))else some false))).bind fun h2=>((bif h2 then((idx M 0).bind fun h3=>((CT N h3).bind fun h4=>((sub M 1 (M.length:Int)).bind fun h5=>some (h5,h4))))else some (M,0)).bind fun I=>(((DT N (lY G) ({Report:=I.2,Serial:=0,Zone:=0}:Af)).bind fun h6=>((idx h6 1).bind fun h7=>(bif h7.has_ then some (decide ((I.1.length:Int) > 0))else some false))).bind fun h8=>((bif h8 then((idx I.1 0).bind fun h9=>((CT N h9).bind fun ha=>((sub I.1 1 (I.1.length:Int)).bind fun hb=>some (hb,ha))))else some (I.1,0)).bind fun J=>(((DT N (lY G) ({Report:=I.2,Serial:=J.2,Zone:=0}:Af)).bind fun hc=>((idx hc 2).bind fun hg=>(bif hg.has_ then some (decide ((J.1.length:Int) > 0))else some false))).bind fun hh=>((bif hh then((idx J.1 0).bind fun hm=>((CT N hm).bind fun hn=>((sub J.1 1 (J.1.length:Int)).bind fun ho=>some (ho,hn))))else some (J.1,0)).bind fun Y=>((Bz N (lY G) ({Report:=I.2,Serial:=J.2,Zone:=Y.2}:Af)).bind fun Z=>(bif((Z.2 !=0)||(Z.1 !=O))then some (zE,1)else some (({Report:=I.2,Serial:=J.2,Zone:=Y.2}:Af),0))))))))))
theorem Ly(N:Nat)(w0:World)(F0:Mem)(hF:AbE w0 F0)(hG:BM F0)(I:Ac)(x1:AbC)(r:(Af×Int))(h:FP N I x1=some r):
  Calls Tryz.prog 97 (lA [.agg (Aj I),sv x1]) w0 (AE w0 F0 fun F' v=>v=(.tuple #[.agg (A9 r.1),vi r.2])):=by
 have bq:=Abj hF;refine Go 60 Tryz.func97<|sR [0,1,2] ?_;refine Bx' 23 (Aj I) bq (fun Z gx br=>?_);refine Al' 32 #[vi 0,vi 0,vi 0] br (fun Y bs ba=>?_);refine Vs 1<|Nss (Rg [0,1,2] ?_);refine Vs 1 ?_;obtain⟨hw,bt,bu⟩:=bS h;refine Cl' (cO 93) ba (Ei N bs F0 ba.pers hG x1 ([32]:AbC) _ bt) ?_;rintro _ F1 gy bv hp ⟨bb,hx,rfl,bc,hy⟩;refine Vs 1<|Nss (Rg [0] ?_);refine Al' 32 #[vi 0,vi 0,vi 0] bv (fun G gz bw=>?_);refine Nss<|sR (rG 6) ?_;refine Vs 3<|Bs 194 [pt G 0,pt G 1,pt G 2] bw (fun M bx h7=>?_);refine Vs 2<|Nt<|Bk<|CWP.unroll (by kernel_rfl) 4<|URL.step<|sR [0] ?_;refine Vs 1<|Nss<|C1 rT<|Sc<|Ab<|Sq<|Bk<|sR (rG 5) ?_;refine Vs 1<|V 22 0 (ZZ (v1:=(pt M 0)) (by rfl) (B8 (t:=200) (x:=(.tmp 17)) (y:=(.tmp 19)) (b:=M) (nn:=3) (c:=3) (E:=194) (s:=1) (by_:=8) (j:=0) rfl rfl (by kernel_rfl) (by decide)))<|Ld h7.at0<|Vs 2<|Nss (Rg (rG 12) ?_);obtain⟨bz,c0,c1⟩:=bS bu;refine Abn (fun f w=>∃(F2:Mem),HS w0 F0 w F2 [sb M #[pt G 0,pt G 1,pt G 2] 194,sb G #[vi 0,vi 0,vi 0] 32,sb Y #[vi 0,vi 0,vi 0] 32,sb Z (Aj I) 23]/\Abh F1 F2/\FI f [] [(1,(sv x1)),(2,(pt Z 0)),(4,(pt Y 0)),(6,(sL bb hw hx)),(7,(pt G 0)),(9,(pt G 0)),(17,(.slice (some ⟨M,0,none⟩) 3 3)),(18,(vi 3)),(19,(vi 0)),(35,(.bool bz))]) ?_ ?_
 ·refine Ld h7.at3 ?_;refine Ld h7.at1 ?_;obtain⟨i0,c3,c4⟩:=bS c0;refine Cl' (cO 138) h7 (Hl N bx F1 h7.pers (lY I) (zE) _ c3) ?_;rintro _ F3 i1 hz bd ⟨i2,i3,rfl,i4,c5⟩;refine Vs 1 ?_;obtain⟨i5,c6,c7⟩:=bS c4;obtain⟨c8,hx67'⟩:=Ag c6;obtain⟨i6,i7,i8,i9,ia,rfl,hF76,hE77⟩:=Abp c5 hx67';have c9:=hE77 _ _ hx67';refine Ix c8<|Vs 1<|Lx 0 (hz.pers _ _ hF76) c9<|Vs 1<|Sp c7 (fun h8 ca=>?_) (fun h8 cb=>?_)
  ·refine Vgs h8 3 ?_;refine Pk1 h8 ?_;obtain rfl:=Aa ca;exact Abd ⟨rfl,F3,hz,bd,fI⟩
  ·refine Ss h8 3 ?_;refine Pk0 h8 ?_;obtain rfl:=Aa cb;exact Abd ⟨rfl,F3,hz,bd,fI⟩
 ·rintro f cc ⟨F2,hq,h1,⟨_,rfl⟩⟩;refine Ab ?_;obtain⟨J,cd,ce⟩:=bS c1;refine Abo (fun f w=>∃(F4:Mem)(h9:AbD)(h3:Nat),HS w0 F0 w F4 [sb M #[pt G 0,pt G 1,pt G 2] 194,sb G #[vi J.2,vi 0,vi 0] 32,sb Y #[vi 0,vi 0,vi 0] 32,sb Z (Aj I) 23]/\Abh F2 F4/\FI f [] [(1,(sv x1)),(2,(pt Z 0)),(4,(pt Y 0)),(6,(sL h9 J.1 h3)),(7,(pt G 0)),(17,(.slice (some ⟨M,0,none⟩) 3 3)),(18,(vi 3)),(19,(vi 0))]/\LC J.1.length h3/\SlA AJ F4 h9 J.1) ?_ ?_
  ·refine Cd cd (fun cf cg=>?_) (fun cf ch=>?_)
   ·refine sR (rG 7) ?_;refine Vs 2 ?_;obtain⟨ci,cj,cl⟩:=bS cg;obtain⟨cm,hx102'⟩:=Ag cj;obtain⟨cn,co,ib,ic,ie,rfl,hF111,hE112⟩:=Abp (Abk hy h1) hx102';have cp:=hE112 _ _ hx102';refine Ix cm<|Lx 0 (hq.pers _ _ hF111) cp ?_;obtain⟨cq,cr,ct⟩:=bS cl;refine Cl' (cO 165) hq (GD N cc F2 hq.pers (hG.mono (hp.t h1)) ci _ cr) ?_;rintro _ F5 ig cu be rfl;refine Vs 1<|St1 #[vi cq,vi 0,vi 0] cu (fun ii cv=>?_);refine Nt<|Rg [0,1,2]<|Vs 1 ?_;obtain⟨cw,cx,cy⟩:=bS ct;obtain⟨cz,d0,d1,d2,d3⟩:=Gp (P:=Tryz.prog) (T:=AJ) (lo:=(some (.const (vi 1)))) (hi:=none) (mx:=none) (t:=55) (E:=9) (by_:=16) (c:=hx) (a:=(some ⟨cn,co,none⟩)) (l:=hw) (r:=cw) (il:=1) (ih:=(hw.length:Int)) (im:=0) (by kernel_rfl) (by kernel_rfl) bc (Abk hy (h1.t be)) (fun h=>by first | rfl | cases h) cx;refine V 43 55 (d3 (x:=(.tmp 42)) rfl rfl rfl trivial)<|Vs 1<|Abd ?_;obtain rfl:=Aa cy;exact .inl ⟨rfl,F5,cz,d0,cv,be,fI,d1,d2⟩
   ·refine Sc ?_;obtain rfl:=Aa ch;exact .inl ⟨rfl,F2,bb,hx,hq,Abi _,fI,bc,Abk hy h1⟩
  ·rintro f d4 ⟨F4,h9,h3,ha,b0,⟨_,rfl⟩,bf,b1⟩;refine Am<|Ab<|Rg [0,1]<|Vs 2<|Nt<|URL.step<|sR [0] ?_;refine Vs 1<|Nss<|C1 rT<|Sc<|Ab<|Sq<|Bk<|sR (rG 5) ?_;refine Vs 1<|V 22 0 (ZZ (v1:=(pt M 1)) (by rfl) (B8 (t:=200) (x:=(.tmp 17)) (y:=(.tmp 19)) (b:=M) (nn:=3) (c:=3) (E:=194) (s:=1) (by_:=8) (j:=1) rfl rfl (by kernel_rfl) (by decide)))<|Ld ha.at0<|Vs 2<|Nss (Rg (rG 12) ?_);obtain⟨d6,d7,d8⟩:=bS ce;refine Abn (fun f w=>∃(F6:Mem),HS w0 F0 w F6 [sb M #[pt G 0,pt G 1,pt G 2] 194,sb G #[vi J.2,vi 0,vi 0] 32,sb Y #[vi 0,vi 0,vi 0] 32,sb Z (Aj I) 23]/\Abh F4 F6/\FI f [] [(1,(sv x1)),(2,(pt Z 0)),(4,(pt Y 0)),(6,(sL h9 J.1 h3)),(7,(pt G 0)),(9,(pt G 1)),(17,(.slice (some ⟨M,0,none⟩) 3 3)),(18,(vi 3)),(19,(vi 1)),(35,(.bool d6))]) ?_ ?_
   ·refine Ld ha.at3 ?_;refine Ld ha.at1 ?_;obtain⟨ij,d9,da⟩:=bS d7;refine Cl' (cO 138) ha (Hl N d4 F4 ha.pers (lY I) ({Report:=J.2,Serial:=0,Zone:=0}:Af) _ d9) ?_;rintro _ F7 ik b2 bg ⟨io,ip,rfl,iq,db⟩;refine Vs 1 ?_;obtain⟨ir,dc,dd⟩:=bS da;obtain⟨de,hx159'⟩:=Ag dc;obtain⟨it,iu,iv,iw,iy,rfl,hF168,hE169⟩:=Abp db hx159';have df:=hE169 _ _ hx159';refine Ix de<|Vs 1<|Lx 0 (b2.pers _ _ hF168) df<|Vs 1<|Sp dd (fun hb dg=>?_) (fun hb dh=>?_)
    ·refine Vgs hb 3 ?_;refine Pk1 hb ?_;obtain rfl:=Aa dg;exact Abd ⟨rfl,F7,b2,bg,fI⟩
    ·refine Ss hb 3 ?_;refine Pk0 hb ?_;obtain rfl:=Aa dh;exact Abd ⟨rfl,F7,b2,bg,fI⟩
   ·rintro f di ⟨F6,hr,h4,⟨_,rfl⟩⟩;refine Ab ?_;obtain⟨O,dj,dk⟩:=bS d8;refine Abo (fun f w=>∃(F8:Mem)(hc:AbD)(h5:Nat),HS w0 F0 w F8 [sb M #[pt G 0,pt G 1,pt G 2] 194,sb G #[vi J.2,vi O.2,vi 0] 32,sb Y #[vi 0,vi 0,vi 0] 32,sb Z (Aj I) 23]/\Abh F6 F8/\FI f [] [(1,(sv x1)),(2,(pt Z 0)),(4,(pt Y 0)),(6,(sL hc O.1 h5)),(7,(pt G 0)),(17,(.slice (some ⟨M,0,none⟩) 3 3)),(18,(vi 3)),(19,(vi 1))]/\LC O.1.length h5/\SlA AJ F8 hc O.1) ?_ ?_
    ·refine Cd dj (fun dl dm=>?_) (fun dl dn=>?_)
     ·refine sR (rG 7) ?_;refine Vs 2 ?_;obtain⟨dp,dq,dr⟩:=bS dm;obtain⟨ds,hx194'⟩:=Ag dq;obtain⟨dt,du,iz,j0,j1,rfl,hF203,hE204⟩:=Abp (Abk b1 h4) hx194';have dv:=hE204 _ _ hx194';refine Ix ds<|Lx 0 (hr.pers _ _ hF203) dv ?_;obtain⟨dw,dx,dy⟩:=bS dr;refine Cl' (cO 165) hr (GD N di F6 hr.pers (hG.mono (((hp.t h1).trans b0).trans h4)) dp _ dx) ?_;rintro _ F9 j2 dz bh rfl;refine Vs 1<|St1 #[vi J.2,vi dw,vi 0] dz (fun j3 e0=>?_);refine Nt<|Rg [0,1,2]<|Vs 1 ?_;obtain⟨e1,e2,e3⟩:=bS dy;obtain⟨e4,e6,e7,e8,e9⟩:=Gp (P:=Tryz.prog) (T:=AJ) (lo:=(some (.const (vi 1)))) (hi:=none) (mx:=none) (t:=55) (E:=9) (by_:=16) (c:=h3) (a:=(some ⟨dt,du,none⟩)) (l:=J.1) (r:=e1) (il:=1) (ih:=(J.1.length:Int)) (im:=0) (by kernel_rfl) (by kernel_rfl) bf (Abk b1 (h4.t bh)) (fun h=>by first | rfl | cases h) e2;refine V 43 55 (e9 (x:=(.tmp 42)) rfl rfl rfl trivial)<|Vs 1<|Abd ?_;obtain rfl:=Aa e3;exact .inl ⟨rfl,F9,e4,e6,e0,bh,fI,e7,e8⟩
     ·refine Sc ?_;obtain rfl:=Aa dn;exact .inl ⟨rfl,F6,h9,h3,hr,Abi _,fI,bf,Abk b1 h4⟩
    ·rintro f ea ⟨F8,hc,h5,hg,bi,⟨_,rfl⟩,bj,b3⟩;refine Am<|Ab<|Rg [0,1]<|Vs 2<|Nt<|URL.step<|sR [0] ?_;refine Vs 1<|Nss<|C1 rT<|Sc<|Ab<|Sq<|Bk<|sR (rG 5) ?_;refine Vs 1<|V 22 0 (ZZ (v1:=(pt M 2)) (by rfl) (B8 (t:=200) (x:=(.tmp 17)) (y:=(.tmp 19)) (b:=M) (nn:=3) (c:=3) (E:=194) (s:=1) (by_:=8) (j:=2) rfl rfl (by kernel_rfl) (by decide)))<|Ld hg.at0<|Vs 2<|Nss (Rg (rG 12) ?_);obtain⟨eb,ec,ed⟩:=bS dk;refine Abn (fun f w=>∃(h6:Mem),HS w0 F0 w h6 [sb M #[pt G 0,pt G 1,pt G 2] 194,sb G #[vi J.2,vi O.2,vi 0] 32,sb Y #[vi 0,vi 0,vi 0] 32,sb Z (Aj I) 23]/\Abh F8 h6/\FI f [] [(1,(sv x1)),(2,(pt Z 0)),(4,(pt Y 0)),(6,(sL hc O.1 h5)),(7,(pt G 0)),(9,(pt G 2)),(17,(.slice (some ⟨M,0,none⟩) 3 3)),(18,(vi 3)),(19,(vi 2)),(35,(.bool eb))]) ?_ ?_
     ·refine Ld hg.at3 ?_;refine Ld hg.at1 ?_;obtain⟨j4,ee,ef⟩:=bS ec;refine Cl' (cO 138) hg (Hl N ea F8 hg.pers (lY I) ({Report:=J.2,Serial:=O.2,Zone:=0}:Af) _ ee) ?_;rintro _ bk j5 b4 bl ⟨j6,j7,rfl,j8,eg⟩;refine Vs 1 ?_;obtain⟨j9,eh,ei⟩:=bS ef;obtain⟨ej,hx251'⟩:=Ag eh;obtain⟨ja,jb,jc,jd,je,rfl,hF260,hE261⟩:=Abp eg hx251';have ek:=hE261 _ _ hx251';refine Ix ej<|Vs 1<|Lx 0 (b4.pers _ _ hF260) ek<|Vs 1<|Sp ei (fun hh el=>?_) (fun hh en=>?_)
      ·refine Vgs hh 3 ?_;refine Pk1 hh ?_;obtain rfl:=Aa el;exact Abd ⟨rfl,bk,b4,bl,fI⟩
      ·refine Ss hh 3 ?_;refine Pk0 hh ?_;obtain rfl:=Aa en;exact Abd ⟨rfl,bk,b4,bl,fI⟩
     ·rintro f eo ⟨h6,ht,hm,⟨_,rfl⟩⟩;refine Ab ?_;obtain⟨h0,ep,er⟩:=bS ed;refine Abo (fun f w=>∃(hn:Mem)(b5:AbD)(b6:Nat),HS w0 F0 w hn [sb M #[pt G 0,pt G 1,pt G 2] 194,sb G #[vi J.2,vi O.2,vi h0.2] 32,sb Y #[vi 0,vi 0,vi 0] 32,sb Z (Aj I) 23]/\Abh h6 hn/\FI f [] [(1,(sv x1)),(2,(pt Z 0)),(4,(pt Y 0)),(6,(sL b5 h0.1 b6)),(7,(pt G 0)),(17,(.slice (some ⟨M,0,none⟩) 3 3)),(18,(vi 3)),(19,(vi 2))]/\LC h0.1.length b6/\SlA AJ hn b5 h0.1) ?_ ?_
      ·refine Cd ep (fun et eu=>?_) (fun et ev=>?_)
       ·refine sR (rG 7) ?_;refine Vs 2 ?_;obtain⟨ew,ex,ey⟩:=bS eu;obtain⟨ez,hx286'⟩:=Ag ex;obtain⟨g0,g1,jf,jg,jh,rfl,hF295,hE296⟩:=Abp (Abk b3 hm) hx286';have g2:=hE296 _ _ hx286';refine Ix ez<|Lx 0 (ht.pers _ _ hF295) g2 ?_;obtain⟨g3,g4,g5⟩:=bS ey;refine Cl' (cO 165) ht (GD N eo h6 ht.pers (hG.mono (((((hp.t h1).trans b0).trans h4).trans bi).trans hm)) ew _ g4) ?_;rintro _ g6 ji g7 bm rfl;refine Vs 1<|St1 #[vi J.2,vi O.2,vi g3] g7 (fun jj g8=>?_);refine Nt<|Rg [0,1,2]<|Vs 1 ?_;obtain⟨g9,ga,gh⟩:=bS g5;obtain⟨gi,gk,gl,gm,gn⟩:=Gp (P:=Tryz.prog) (T:=AJ) (lo:=(some (.const (vi 1)))) (hi:=none) (mx:=none) (t:=55) (E:=9) (by_:=16) (c:=h5) (a:=(some ⟨g0,g1,none⟩)) (l:=O.1) (r:=g9) (il:=1) (ih:=(O.1.length:Int)) (im:=0) (by kernel_rfl) (by kernel_rfl) bj (Abk b3 (hm.t bm)) (fun h=>by first | rfl | cases h) ga;refine V 43 55 (gn (x:=(.tmp 42)) rfl rfl rfl trivial)<|Vs 1<|Abd ?_;obtain rfl:=Aa gh;exact .inl ⟨rfl,g6,gi,gk,g8,bm,fI,gl,gm⟩
       ·refine Sc ?_;obtain rfl:=Aa ev;exact .inl ⟨rfl,h6,hc,h5,ht,Abi _,fI,bj,Abk b3 hm⟩
      ·rintro f go ⟨hn,b5,b6,hu,gp,⟨_,rfl⟩,jk,jl⟩;refine Am<|Ab<|Rg [0,1]<|Vs 2<|Nt<|URL.step<|sR [0] ?_;refine Vs 1<|Nss<|C0 rF<|Ex<|Ak<|Ak<|Au rfl<|Ab<|Sq ?_;refine sR (rG 8) ?_;refine Ld hu.at3<|Ld hu.at1 ?_;obtain⟨b7,gr,gs⟩:=bS er;refine Cl' (cO 83) hu (Fi N go hn hu.pers (hG.mono ((((((hp.t h1).trans b0).trans h4).trans bi).trans hm).trans gp)) (lY I) ({Report:=J.2,Serial:=O.2,Zone:=h0.2}:Af) _ gr) ?_;rintro _ b8 jm bn jo rfl;refine Vs 5<|Nss (Rg (rG 7) ?_);refine Abn (fun f w=>∃(ho:Mem),HS w0 F0 w ho [sb G #[vi J.2,vi O.2,vi h0.2] 32,sb Y #[vi 0,vi 0,vi 0] 32]/\Abh b8 ho/\FI f [] [(4,(pt Y 0)),(7,(pt G 0)),(57,(.bool ((b7.2 !=0)||(b7.1 !=x1))))]) ?_ ?_
       ·refine Vs 3 ?_;refine Abm (b7.2 !=0) (fun h2=>?_) (fun h2=>?_)
        ·refine Ss h2 3 ?_;refine Pk1 h2 ?_;exact Abd ⟨rfl,b8,bn.dr0.dr2,Abi _,fJ ⟨rfl,rfl,congrArg Value.bool (Ep h2 rfl),trivial⟩⟩
        ·refine Vgs h2 3 ?_;refine Pk0 h2 ?_;exact Abd ⟨rfl,b8,bn.dr0.dr2,Abi _,fJ ⟨rfl,rfl,congrArg Value.bool (Ci h2 rfl),trivial⟩⟩
       ·rintro f jp ⟨ho,b9,jq,⟨_,rfl⟩⟩;refine Ab<|Cd gs (fun gu gv=>?_) (fun gu gw=>?_)
        ·refine sR [0,1,2] ?_;refine Vs 1<|St1 #[vi 0,vi 0,vi 0] b9 (fun jr bo=>?_);refine Vs 1<|Nt<|Rt<|Ad ?_;obtain rfl:=Aa gv;exact⟨rfl,.tuple #[.agg #[vi 0,vi 0,vi 0],vi 1],AL (l:=[.cell 4 32,.tmp 5]) (by kernel_rfl) (vs:=[.agg #[vi 0,vi 0,vi 0],vi 1]) ⟨Y,0,rfl,Al (t:=32) (g:=true) (s:=3) (by kernel_rfl) bo.at1 rfl (by decide),⟨rfl,trivial⟩⟩,.tuple #[.agg #[vi 0,vi 0,vi 0],vi 1],ho,rfl,bo.clear,rfl⟩
        ·refine Sc ?_;refine Ab<|sR [0,1,2] ?_;refine Ld b9.at0<|St1 #[vi J.2,vi O.2,vi h0.2] b9 (fun js bp=>?_);refine Vs 1<|Nt<|Rt ?_;obtain rfl:=Aa gw;exact⟨rfl,.tuple #[.agg #[vi J.2,vi O.2,vi h0.2],vi 0],AL (l:=[.cell 4 32,.tmp 5]) (by kernel_rfl) (vs:=[.agg #[vi J.2,vi O.2,vi h0.2],vi 0]) ⟨Y,0,rfl,Al (t:=32) (g:=true) (s:=3) (by kernel_rfl) bp.at1 rfl (by decide),⟨rfl,trivial⟩⟩,.tuple #[.agg #[vi J.2,vi O.2,vi h0.2],vi 0],ho,rfl,bp.clear,rfl⟩
def Gl(N:Nat)(I:AbC):(List AbC×Int×Int)->Option (A4 (List AbC) (List AbC×Int×Int)):=fun G=>
 (bif(decide (G.2.2 < (I.length:Int)))then((HU I G.2.2).bind fun M=>((bif(M==32)then((HT I G.2.1 G.2.2).bind fun O=>((Cv G.1 [O]).bind fun Y=>some (Y,(W64 (G.2.2 + 1)))))else some (G.1,G.2.1)).bind fun J=>some (.next (J.1,J.2,(W64 (G.2.2 + 1))))))else some (.done (G.1,G.2.1,G.2.2)))
def Hb(N:Nat)(G:AbC):Option (List AbC):=
 ((AF (Gl N G) N (([]:List AbC),0,0)).bind fun o=>o.k (fun r=>some r) (fun I=>((HT G I.2.1 (G.length:Int)).bind fun J=>((Cv I.1 [J]).bind fun M=>some M))))
theorem My(N:Nat)(w0:World)(F0:Mem)(hF:AbE w0 F0)(I:AbC)(r:(List AbC))(h:Hb N I=some r):
  Calls Tryz.prog 167 (lA [sv I]) w0 (AE w0 F0 fun F' v=>∃(hb:AbD)(hc:Nat),v=(sL hb r hc)/\LC r.length hc/\SlA AJ F' hb r):=by
 have hw:=Abj hF;refine Go 31 Tryz.func167<|sR [0] ?_;refine Vs 1<|Nss (Rg [0] ?_);refine Vs 1<|Nss (Rg [0] ?_);refine Vs 1<|Nss<|sR [0] ?_;refine Vs 1<|Nt ?_;have hx:=hw.dummy (oc #[] 0);obtain⟨hg,hy,hz⟩:=bS h;refine Abo (fun f w=>∃(J:(List AbC×Int×Int))(M:Mem)(h6:AbD)(h7:Nat)(h8:Option Nat×Obj),hg=.done J/\HS w0 F0 w M [h8]/\Abh F0 M/\FI f [] [(0,(sv I)),(3,(sL h6 J.1 h7)),(4,(vi J.2.1))]/\Aq AJ 9 M h6 h7 J.1 h8) ?_ ?_
 ·refine Bk ?_;refine Abg (by kernel_rfl) (fun m f w=>∃(G:(List AbC×Int×Int))(F1:Mem)(O:AbD)(Y:Nat)(Z:Option Nat×Obj),AF (Gl N I) m G=some hg/\HS w0 F0 w F1 [Z]/\Abh F0 F1/\FI f [] [(0,(sv I)),(3,(sL O G.1 Y)),(4,(vi G.2.1)),(5,(vi G.2.2))]/\Aq AJ 9 F1 O Y G.1 Z) N ⟨(([]:List AbC),0,0),F0,none,0,(none,.cells #[] 0 (0,0)),hy,hx,Abi _,fI,Abw AJ 9 F0 _⟩ ?_;rintro c8 f c9 ⟨G,F1,O,Y,Z,b0,h9,hh,⟨_,rfl⟩,ha⟩;obtain⟨b1,ca,rfl,b2,hm⟩:=AB b0;refine Sq<|sR (rG 4) ?_;refine Vs 4<|Nt<|Cd b2 (fun b3 b4=>?_) (fun b3 b5=>?_)
  ·refine Sc ?_;refine Ab<|Sq<|Bk<|sR (rG 4) ?_;refine Vs 2 ?_;obtain⟨b6,b7,b8⟩:=bS b4;refine V 14 5 (Co (t:=9) (x:=(.tmp 12)) (y:=(.tmp 13)) (a:=I) (k:=.i64) (i:=G.2.2) (v:=b6) rfl rfl (by kernel_rfl) b7)<|Vs 1<|Nt ?_;obtain⟨h0,b9,ba⟩:=bS b8;refine Abo (fun f w=>∃(F3:Mem)(h1:AbD)(h2:Nat)(h3:Option Nat×Obj),HS w0 F0 w F3 [h3]/\Abh F1 F3/\FI f [] [(0,(sv I)),(3,(sL h1 h0.1 h2)),(4,(vi h0.2)),(5,(vi G.2.2))]/\Aq AJ 9 F3 h1 h2 h0.1 h3) ?_ ?_
   ·refine Cd b9 (fun bb bc=>?_) (fun bb bd=>?_)
    ·refine sR (rG 8) ?_;refine Vs 4 ?_;obtain⟨h4,be,bf⟩:=bS bc;refine V 20 9 (Dn (t:=9) (x:=(.tmp 17)) (lo:=(some (.tmp 18))) (hi:=(some (.tmp 19))) (a:=I) (il:=G.2.1) (ih:=G.2.2) (v:=h4) rfl (by kernel_rfl) rfl rfl be)<|Bs 9 [sv h4] h9 (fun hn cb ho=>?_);have bg:Aq AJ 9 F1 (some ⟨hn,0,none⟩) 1 [h4] (some hn,.cells (lA [sv h4]) 9 (0,0)):=Abx ⟨rfl,rfl⟩ (by simp);obtain⟨cc,bh,bi⟩:=bS bf;refine Ap1 Pr ho ha (ho.rd0 bg) bh (fun bj bk bl cd bm bn=>?_);refine Vs 1<|Nt<|Rg [0,1,2]<|Vs 3<|Abd ?_;obtain rfl:=Aa bi;exact .inl ⟨rfl,F1,bj,bk,bl,bm.dr0,Abi _,fI,bn⟩
    ·refine Sc ?_;obtain rfl:=Aa bd;exact .inl ⟨rfl,F1,O,Y,Z,h9,Abi _,fI,ha⟩
   ·rintro f ce ⟨F3,h1,h2,h3,bo,bp,⟨_,rfl⟩,bq⟩;refine Am<|Ab<|Rg [0,1,2]<|Vs 3<|Abd ?_;have br:=Ax ba hm;exact⟨b1,Nat.lt_succ_self _,(h0.1,h0.2,(W64 (G.2.2 + 1))),F3,h1,h2,h3,br,bo,hh.t bp,fI,bq⟩
  ·refine Ex ?_;refine Ak<|Ak<|Au rfl ?_;have bs:=Az b5 hm;exact .inl ⟨rfl,(G.1,G.2.1,G.2.2),F1,O,Y,Z,bs,h9,hh,fI,ha⟩
 ·rintro f cf ⟨J,M,h6,h7,h8,rfl,bt,cg,⟨_,rfl⟩,bu⟩;have bv:=AY hz;refine Ab<|sR (rG 7) ?_;refine Vs 3 ?_;obtain⟨h5,bw,bx⟩:=bS bv;refine V 28 9 (Dn (t:=9) (x:=(.tmp 26)) (lo:=(some (.tmp 27))) (hi:=none) (a:=I) (il:=J.2.1) (ih:=(I.length:Int)) (v:=h5) rfl (by kernel_rfl) rfl rfl bw)<|Bs 9 [sv h5] bt (fun hp ch hq=>?_);have bz:Aq AJ 9 M (some ⟨hp,0,none⟩) 1 [h5] (some hp,.cells (lA [sv h5]) 9 (0,0)):=Abx ⟨rfl,rfl⟩ (by simp);obtain⟨c0,c1,c3⟩:=bS bx;refine Ap1 Pr hq bu (hq.rd0 bz) c1 (fun hr ht ci cj c4 hu=>?_);refine Vs 1<|Nt<|Rt ?_;have c5:=Abv hu;obtain⟨F4,c6,cl,c7⟩:=c4.fr1 hu;obtain rfl:=Aa c3;exact Re [sL hr c0 ht] c6 ⟨hr,ht,rfl,c5,c7⟩
def EK(N:Nat)(G:Int):Option Bool:=
 some ((decide (48<=G))&&(decide (G<=57)))
theorem G3(N:Nat)(w0:World)(F0:Mem)(hF:AbE w0 F0)(G:Int)(r:Bool)(h:EK N G=some r):
  Calls Tryz.prog 204 (lA [.int .u8 G]) w0 (AE w0 F0 fun F' v=>v=(.bool r)):=by
 have J:=Abj hF;refine Go 9 Tryz.func204<|sR [0] ?_;refine Vs 1<|Nss (Rg (rG 7) ?_);refine Abn (fun f w=>∃(F1:Mem),HS w0 F0 w F1 []/\Abh F0 F1/\FI f [] [(2,(.bool ((decide (48<=G))&&(decide (G<=57)))))]) ?_ ?_
 ·refine Vs 3 ?_;refine Abm (decide (48<=G)) (fun I=>?_) (fun I=>?_)
  ·refine Vgs I 2 ?_;refine Pk1 I<|Vs 1 ?_;exact Abd ⟨rfl,F0,J,Abi _,fJ ⟨congrArg Value.bool (HA I rfl),trivial⟩⟩
  ·refine Ss I 2 ?_;refine Pk0 I<|Vs 1 ?_;exact Abd ⟨rfl,F0,J,Abi _,fJ ⟨congrArg Value.bool (Im I rfl),trivial⟩⟩
 ·rintro f h0 ⟨F1,M,h1,⟨_,rfl⟩⟩;refine Ab<|Rt ?_;obtain rfl:=Aa h;exact Re [.bool ((decide (48<=G))&&(decide (G<=57)))] M rfl
def Ee(N:Nat)(I:AbC):(Int×Int)->Option (A4 Int (Int×Int)):=fun G=>
 (bif(decide (G.2 < (I.length:Int)))then((HU I G.2).bind fun J=>((EK N J).bind fun M=>(bif(!M)then some (.ret (-1))else((HU I G.2).bind fun O=>some (.next ((W64 ((W64 (10 * G.1)) + (W64 (IntKind.u8.wrap (O - 48))))),(W64 (G.2 + 1))))))))else some (.done (G.1,G.2)))
def Bx(N:Nat)(G:AbC):Option Int:=
 (bif((decide ((G.length:Int) < 1))||(decide ((G.length:Int) > 9)))then some (-1)else((AF (Ee N G) N (0,0)).bind fun o=>o.k (fun r=>some r) (fun I=>some I.1)))
theorem ES(N:Nat)(w0:World)(F0:Mem)(hF:AbE w0 F0)(G:AbC)(r:Int)(h:Bx N G=some r):
  Calls Tryz.prog 168 (lA [sv G]) w0 (AE w0 F0 fun F' v=>v=(vi r)):=by
 have h1:=Abj hF;refine Go 33 Tryz.func168<|sR [0] ?_;refine Vs 1<|Nss<|sR (rG 8) ?_;refine Abn (fun f w=>∃(F1:Mem),HS w0 F0 w F1 []/\Abh F0 F1/\FI f [] [(0,(sv G)),(12,(.bool ((decide ((G.length:Int) < 1))||(decide ((G.length:Int) > 9)))))]) ?_ ?_
 ·refine Vs 4 ?_;refine Abm (decide ((G.length:Int) < 1)) (fun J=>?_) (fun J=>?_)
  ·refine Ss J 3 ?_;refine Pk1 J ?_;exact Abd ⟨rfl,F0,h1,Abi _,fJ ⟨rfl,congrArg Value.bool (Ep J rfl),trivial⟩⟩
  ·refine Vgs J 3 ?_;refine Pk0 J ?_;exact Abd ⟨rfl,F0,h1,Abi _,fJ ⟨rfl,congrArg Value.bool (Ci J rfl),trivial⟩⟩
 ·rintro f b7 ⟨F1,h2,b8,⟨_,rfl⟩⟩;refine Ab<|Cd h (fun h9 ha=>?_) (fun h9 hb=>?_)
  ·refine sR [0] ?_;refine Vs 1<|Nt<|Rt<|Ad ?_;obtain rfl:=Aa ha;exact Re [vi (-1)] h2 rfl
  ·refine Sc ?_;refine Ab<|sR [0] ?_;refine Vs 1<|Nss<|sR [0] ?_;refine Vs 1<|Nt ?_;obtain⟨h3,hc,h4⟩:=bS hb;refine Abo (fun f w=>∃(O:(Int×Int))(Y:Mem),h3=.done O/\HS w0 F0 w Y []/\Abh F1 Y/\FI f [] [(3,(vi O.1))]) ?_ ?_
   ·refine Bk ?_;refine Abg (by kernel_rfl) (fun m f w=>∃(I:(Int×Int))(M:Mem),AF (Ee N G) m I=some h3/\HS w0 F0 w M []/\Abh F1 M/\FI f [] [(0,(sv G)),(3,(vi I.1)),(4,(vi I.2))]) N ⟨(0,0),F1,hc,h2,Abi _,fI⟩ ?_;rintro b9 f hg ⟨I,M,hh,Z,h5,⟨_,rfl⟩⟩;obtain⟨hm,ba,rfl,hn,h0⟩:=AB hh;refine Sq<|sR (rG 4) ?_;refine Vs 4<|Nt<|Cd hn (fun ho hp=>?_) (fun ho hq=>?_)
    ·refine Sc ?_;refine Ab<|Sq<|Bk<|Sq<|sR (rG 5) ?_;refine Vs 2 ?_;obtain⟨h6,hr,ht⟩:=bS hp;refine V 21 5 (Co (t:=9) (x:=(.tmp 19)) (y:=(.tmp 20)) (a:=G) (k:=.i64) (i:=I.2) (v:=h6) rfl rfl (by kernel_rfl) hr) ?_;obtain⟨bb,hu,hw⟩:=bS ht;refine Cl' (cO 204) Z (G3 N hg M Z.pers h6 _ hu) ?_;rintro _ F4 bc h7 hx rfl;refine Vs 1<|Nt<|Cd hw (fun hy hz=>?_) (fun hy b0=>?_)
     ·refine sR [0] ?_;refine Vs 1<|Nt<|Rt<|Ad<|As<|Ad<|Ad<|As ?_;have hret:=BC hz h0;subst hret;refine .inr<|Ad ?_;obtain rfl:=Aa h4;exact Re [vi (-1)] h7 rfl
     ·refine Sc ?_;refine Ab<|Rg (rG 9)<|Vs 4 ?_;obtain⟨h8,b1,b2⟩:=bS b0;refine V 28 5 (Co (t:=9) (x:=(.tmp 26)) (y:=(.tmp 27)) (a:=G) (k:=.i64) (i:=I.2) (v:=h8) rfl rfl (by kernel_rfl) b1)<|Vs 4<|Abd<|Am<|Ab<|Rg [0,1,2]<|Vs 3<|Abd ?_;have b3:=Ax b2 h0;exact⟨hm,Nat.lt_succ_self _,((W64 ((W64 (10 * I.1)) + (W64 (IntKind.u8.wrap (h8 - 48))))),(W64 (I.2 + 1))),F4,b3,h7,h5.t hx,fI⟩
    ·refine Ex ?_;refine Ak<|Ak<|Au rfl ?_;have b4:=Az hq h0;exact .inl ⟨rfl,(I.1,I.2),M,b4,Z,h5,fI⟩
   ·rintro f bd ⟨O,Y,rfl,b5,be,⟨_,rfl⟩⟩;have b6:=AY h4;refine Ab<|sR [0,1] ?_;refine Vs 2<|Nt<|Rt ?_;obtain rfl:=Aa b6;exact Re [vi O.1] b5 rfl
def FA(N:Nat)(I:AbC):Option (Int×Int):=
 ((Hb N I).bind fun J=>(bif((decide ((I.length:Int) > 20))||((J.length:Int)!=2))then some (0,13)else((idx J 0).bind fun Y=>((Bx N Y).bind fun M=>((idx J 1).bind fun Z=>((Bx N Z).bind fun G=>(bif((decide (M < 1))||(decide (G < 0)))then some (0,13)else((CF N (W64 ((W64 ((W64 ((W64 (M - 1)) * 1440)) + (W64 ((W64 (Int.tdiv G 100)) * 60)))) + (Int.tmod G 100)))).bind fun O=>(bif((O.2 !=0)||(O.1 !=I))then some (0,13)else some ((W64 ((W64 ((W64 ((W64 (M - 1)) * 1440)) + (W64 ((W64 (Int.tdiv G 100)) * 60)))) + (Int.tmod G 100))),0))))))))))
theorem Oe(N:Nat)(w0:World)(F0:Mem)(hF:AbE w0 F0)(G:AbC)(r:(Int×Int))(h:FA N G=some r):
  Calls Tryz.prog 100 (lA [sv G]) w0 (AE w0 F0 fun F' v=>v=(.tuple #[vi r.1,vi r.2])):=by
 have h4:=Abj hF;refine Go 57 Tryz.func100<|sR [0,1] ?_;refine Vs 2<|Nss (Rg [0,1,2] ?_);refine Vs 1 ?_;obtain⟨h5,ha,hb⟩:=bS h;refine Cl' (cO 167) h4 (My N w0 F0 h4.pers G _ ha) ?_;rintro _ F1 bi h6 bj ⟨hc,hg,rfl,bk,hh⟩;refine Vs 1<|Nss<|sR (rG 8) ?_;refine Abn (fun f w=>∃(Z:Mem),HS w0 F0 w Z []/\Abh F1 Z/\FI f [] [(0,(sv G)),(4,(sL hc h5 hg)),(19,(.bool ((decide ((G.length:Int) > 20))||((h5.length:Int)!=2))))]) ?_ ?_
 ·refine Vs 4 ?_;refine Abm (decide ((G.length:Int) > 20)) (fun J=>?_) (fun J=>?_)
  ·refine Ss J 3 ?_;refine Pk1 J ?_;exact Abd ⟨rfl,F1,h6,Abi _,fJ ⟨rfl,rfl,congrArg Value.bool (Ep J rfl),trivial⟩⟩
  ·refine Vgs J 3 ?_;refine Pk0 J ?_;exact Abd ⟨rfl,F1,h6,Abi _,fJ ⟨rfl,rfl,congrArg Value.bool (Ci J rfl),trivial⟩⟩
 ·rintro f hm ⟨Z,h0,hn,⟨_,rfl⟩⟩;refine Ab<|Cd hb (fun ho hp=>?_) (fun ho hq=>?_)
  ·refine sR [0,1] ?_;refine Vs 2<|Nt<|Rt<|Ad ?_;obtain rfl:=Aa hp;exact Re [vi 0,vi 13] h0 rfl
  ·refine Sc ?_;refine Ab<|sR (rG 5) ?_;refine Vs 1 ?_;obtain⟨hr,ht,hu⟩:=bS hq;obtain⟨hw,hx41'⟩:=Ag ht;obtain⟨bl,bm,bn,bo,bp,rfl,hF50,hE51⟩:=Abp (Abk hh hn) hx41';have hx:=hE51 _ _ hx41';refine Ix hw<|Lx 0 (h0.pers _ _ hF50) hx ?_;obtain⟨Y,hy,hz⟩:=bS hu;refine Cl' (cO 168) h0 (ES N hm Z h0.pers hr _ hy) ?_;rintro _ F3 b0 h1 b1 rfl;refine Vs 1<|Nss (Rg (rG 5) ?_);refine Vs 1 ?_;obtain⟨b2,b3,b4⟩:=bS hz;obtain⟨b5,hx63'⟩:=Ag b3;have b6:=hE51 _ _ hx63';refine Ix b5<|Lx 0 (h1.pers _ _ (b1 _ _ hF50)) b6 ?_;obtain⟨I,b7,b8⟩:=bS b4;refine Cl' (cO 168) h1 (ES N b0 F3 h1.pers b2 _ b7) ?_;rintro _ F4 bq h7 br rfl;refine Vs 1<|Nss<|sR (rG 6) ?_;refine Abn (fun f w=>∃(F5:Mem),HS w0 F0 w F5 []/\Abh F4 F5/\FI f [] [(0,(sv G)),(5,(vi Y)),(6,(vi I)),(33,(.bool ((decide (Y < 1))||(decide (I < 0)))))]) ?_ ?_
   ·refine Vs 3 ?_;refine Abm (decide (Y < 1)) (fun M=>?_) (fun M=>?_)
    ·refine Ss M 2 ?_;refine Pk1 M ?_;exact Abd ⟨rfl,F4,h7,Abi _,fJ ⟨rfl,rfl,rfl,congrArg Value.bool (Ep M rfl),trivial⟩⟩
    ·refine Vgs M 2 ?_;refine Pk0 M ?_;exact Abd ⟨rfl,F4,h7,Abi _,fJ ⟨rfl,rfl,rfl,congrArg Value.bool (Ci M rfl),trivial⟩⟩
   ·rintro f b9 ⟨F5,h2,bs,⟨_,rfl⟩⟩;refine Ab<|Cd b8 (fun ba bb=>?_) (fun ba bc=>?_)
    ·refine sR [0,1] ?_;refine Vs 2<|Nt<|Rt<|Ad ?_;obtain rfl:=Aa bb;exact Re [vi 0,vi 13] h2 rfl
    ·refine Sc ?_;refine Ab<|sR (rG 11) ?_;refine Vs 11<|Nss (Rg (rG 7) ?_);refine Vs 1 ?_;obtain⟨h3,bd,be⟩:=bS bc;refine Cl' (cO 86) h2 (IY N b9 F5 h2.pers (W64 ((W64 ((W64 ((W64 (Y - 1)) * 1440)) + (W64 ((W64 (Int.tdiv I 100)) * 60)))) + (Int.tmod I 100))) _ bd) ?_;rintro _ F6 bt h8 bu rfl;refine Vs 5<|Nss<|sR (rG 7) ?_;refine Abn (fun f w=>∃(F7:Mem),HS w0 F0 w F7 []/\Abh F6 F7/\FI f [] [(7,(vi (W64 ((W64 ((W64 ((W64 (Y - 1)) * 1440)) + (W64 ((W64 (Int.tdiv I 100)) * 60)))) + (Int.tmod I 100))))),(55,(.bool ((h3.2 !=0)||(h3.1 !=G))))]) ?_ ?_
     ·refine Vs 3 ?_;refine Abm (h3.2 !=0) (fun O=>?_) (fun O=>?_)
      ·refine Ss O 3 ?_;refine Pk1 O ?_;exact Abd ⟨rfl,F6,h8,Abi _,fJ ⟨rfl,congrArg Value.bool (Ep O rfl),trivial⟩⟩
      ·refine Vgs O 3 ?_;refine Pk0 O ?_;exact Abd ⟨rfl,F6,h8,Abi _,fJ ⟨rfl,congrArg Value.bool (Ci O rfl),trivial⟩⟩
     ·rintro f bv ⟨F7,h9,bw,⟨_,rfl⟩⟩;refine Ab<|Cd be (fun bf bg=>?_) (fun bf bh=>?_)
      ·refine sR [0,1] ?_;refine Vs 2<|Nt<|Rt<|Ad ?_;obtain rfl:=Aa bg;exact Re [vi 0,vi 13] h9 rfl
      ·refine Sc ?_;refine Ab<|sR [0,1,2] ?_;refine Vs 3<|Nt<|Rt ?_;obtain rfl:=Aa bh;exact Re [vi (W64 ((W64 ((W64 ((W64 (Y - 1)) * 1440)) + (W64 ((W64 (Int.tdiv I 100)) * 60)))) + (Int.tmod I 100))),vi 0] h9 rfl
def CG(N:Nat)(G:Ac)(O:AbC):Option (Af×Int):=
 (bif(decide ((O.length:Int) > 100))then some (zE,1)else((Hb N O).bind fun I=>((bif(G.Report&&(decide (0 < (I.length:Int))))then((idx I 0).bind fun h0=>((Bx N h0).bind fun h1=>some ((W64 (0 + 1)),h1)))else some (0,0)).bind fun J=>((bif(G.Serial&&(decide (J.1 < (I.length:Int))))then((idx I J.1).bind fun h2=>((Bx N h2).bind fun h3=>some ((W64 (J.1 + 1)),h3)))else some (J.1,0)).bind fun M=>((bif(G.Zone&&(decide (M.1 < (I.length:Int))))then((idx I M.1).bind fun h4=>((Bx N h4).bind fun h5=>some h5))else some 0).bind fun Y=>((Be N (lY G) ({Report:=J.2,Serial:=M.2,Zone:=Y}:Af)).bind fun Z=>(bif((Z.2 !=0)||(Z.1 !=O))then some (zE,1)else some (({Report:=J.2,Serial:=M.2,Zone:=Y}:Af),0))))))))
theorem BR(N:Nat)(w0:World)(F0:Mem)(hF:AbE w0 F0)(G:Ac)(Z:AbC)(r:(Af×Int))(h:CG N G Z=some r):
  Calls Tryz.prog 101 (lA [.agg (Aj G),sv Z]) w0 (AE w0 F0 fun F' v=>v=(.tuple #[.agg (A9 r.1),vi r.2])):=by
 have b1:=Abj hF;refine Go 81 Tryz.func101<|sR [0,1,2] ?_;refine Bx' 23 (Aj G) b1 (fun Y d3 b2=>?_);refine Al' 32 #[vi 0,vi 0,vi 0] b2 (fun I b3 hg=>?_);refine Vs 1<|Nss<|sR [0,1,2] ?_;refine Vs 3<|Nt<|Cd h (fun b4 b5=>?_) (fun b4 b6=>?_)
 ·refine sR [0,1,2] ?_;refine Vs 1<|St0 #[vi 0,vi 0,vi 0] hg (fun d4 hu=>?_);refine Vs 1<|Nt<|Rt<|Ad ?_;obtain rfl:=Aa b5;exact⟨rfl,.tuple #[.agg #[vi 0,vi 0,vi 0],vi 1],AL (l:=[.cell 4 32,.tmp 5]) (by kernel_rfl) (vs:=[.agg #[vi 0,vi 0,vi 0],vi 1]) ⟨I,0,rfl,Al (t:=32) (g:=true) (s:=3) (by kernel_rfl) hu.at0 rfl (by decide),⟨rfl,trivial⟩⟩,.tuple #[.agg #[vi 0,vi 0,vi 0],vi 1],F0,rfl,hu.clear,rfl⟩
 ·refine Sc ?_;refine Ab<|sR [0,1,2] ?_;refine Vs 1 ?_;obtain⟨h0,b7,b8⟩:=bS b6;refine Cl' (cO 167) hg (My N b3 F0 hg.pers Z _ b7) ?_;rintro _ F1 d6 b9 d7 ⟨h6,h7,rfl,d8,hh⟩;refine Vs 1<|Nss (Rg [0,1,2] ?_);refine Vs 1<|Al' 32 #[vi 0,vi 0,vi 0] b9 (fun M d9 ba=>?_);refine St0 #[vi 0,vi 0,vi 0] ba (fun da hm=>?_);refine Nss (Rg [0] ?_);refine Vs 1<|Nss<|sR (rG 8) ?_;refine Abn (fun f w=>∃(F2:Mem),HS w0 F0 w F2 [sb M #[vi 0,vi 0,vi 0] 32,sb I #[vi 0,vi 0,vi 0] 32,sb Y (Aj G) 23]/\Abh F1 F2/\FI f [] [(1,(sv Z)),(2,(pt Y 0)),(4,(pt I 0)),(6,(sL h6 h0 h7)),(7,(pt M 0)),(8,(vi 0)),(25,(.bool (G.Report&&(decide (0 < (h0.length:Int))))))]) ?_ ?_
  ·refine Vs 1 ?_;refine Ld hm.at2<|Vs 1<|Abm G.Report (fun h1=>?_) (fun h1=>?_)
   ·refine Vgs h1 4 ?_;refine Pk1 h1 ?_;exact Abd ⟨rfl,F1,hm,Abi _,fJ ⟨rfl,rfl,rfl,rfl,rfl,rfl,congrArg Value.bool (HA h1 rfl),trivial⟩⟩
   ·refine Ss h1 4 ?_;refine Pk0 h1 ?_;exact Abd ⟨rfl,F1,hm,Abi _,fJ ⟨rfl,rfl,rfl,rfl,rfl,rfl,congrArg Value.bool (Im h1 rfl),trivial⟩⟩
  ·rintro f bb ⟨F2,h9,hn,⟨_,rfl⟩⟩;refine Ab ?_;obtain⟨J,bc,bd⟩:=bS b8;refine Abo (fun f w=>∃(F3:Mem),HS w0 F0 w F3 [sb M #[vi J.2,vi 0,vi 0] 32,sb I #[vi 0,vi 0,vi 0] 32,sb Y (Aj G) 23]/\Abh F2 F3/\FI f [] [(1,(sv Z)),(2,(pt Y 0)),(4,(pt I 0)),(6,(sL h6 h0 h7)),(7,(pt M 0)),(8,(vi J.1))]) ?_ ?_
   ·refine Cd bc (fun be bf=>?_) (fun be bg=>?_)
    ·refine sR (rG 7) ?_;refine Vs 2 ?_;obtain⟨bh,bi,bj⟩:=bS bf;obtain⟨bk,hx74'⟩:=Ag bi;obtain⟨db,dc,dd,de,df,rfl,hF83,hE84⟩:=Abp (Abk hh hn) hx74';have bl:=hE84 _ _ hx74';refine Ix bk<|Lx 0 (h9.pers _ _ hF83) bl ?_;obtain⟨bm,bn,bo⟩:=bS bj;refine Cl' (cO 168) h9 (ES N bb F2 h9.pers bh _ bn) ?_;rintro _ F4 dg bp bq rfl;refine Vs 1<|St0 #[vi bm,vi 0,vi 0] bp (fun dh br=>?_);refine Nt<|Rg [0,1,2]<|Vs 3<|Abd ?_;obtain rfl:=Aa bo;exact .inl ⟨rfl,F4,br,bq,fI⟩
    ·refine Sc ?_;obtain rfl:=Aa bg;exact .inl ⟨rfl,F2,h9,Abi _,fI⟩
   ·rintro f di ⟨F3,ho,hw,⟨_,rfl⟩⟩;refine Ab<|Sq<|sR (rG 8) ?_;refine Abn (fun f w=>∃(F5:Mem),HS w0 F0 w F5 [sb M #[vi J.2,vi 0,vi 0] 32,sb I #[vi 0,vi 0,vi 0] 32,sb Y (Aj G) 23]/\Abh F3 F5/\FI f [] [(1,(sv Z)),(2,(pt Y 0)),(4,(pt I 0)),(6,(sL h6 h0 h7)),(7,(pt M 0)),(8,(vi J.1)),(41,(.bool (G.Serial&&(decide (J.1 < (h0.length:Int))))))]) ?_ ?_
    ·refine Vs 1 ?_;refine Ld ho.at2<|Vs 1<|Abm G.Serial (fun h2=>?_) (fun h2=>?_)
     ·refine Vgs h2 4 ?_;refine Pk1 h2 ?_;exact Abd ⟨rfl,F3,ho,Abi _,fJ ⟨rfl,rfl,rfl,rfl,rfl,rfl,congrArg Value.bool (HA h2 rfl),trivial⟩⟩
     ·refine Ss h2 4 ?_;refine Pk0 h2 ?_;exact Abd ⟨rfl,F3,ho,Abi _,fJ ⟨rfl,rfl,rfl,rfl,rfl,rfl,congrArg Value.bool (Im h2 rfl),trivial⟩⟩
    ·rintro f bs ⟨F5,ha,hx,⟨_,rfl⟩⟩;refine Ab ?_;obtain⟨O,bt,bu⟩:=bS bd;refine Abo (fun f w=>∃(F6:Mem),HS w0 F0 w F6 [sb M #[vi J.2,vi O.2,vi 0] 32,sb I #[vi 0,vi 0,vi 0] 32,sb Y (Aj G) 23]/\Abh F5 F6/\FI f [] [(1,(sv Z)),(2,(pt Y 0)),(4,(pt I 0)),(6,(sL h6 h0 h7)),(7,(pt M 0)),(8,(vi O.1))]) ?_ ?_
     ·refine Cd bt (fun bv bw=>?_) (fun bv bx=>?_)
      ·refine sR (rG 7) ?_;refine Vs 2 ?_;obtain⟨bz,c0,c1⟩:=bS bw;obtain⟨c3,hx126'⟩:=Ag c0;obtain⟨dj,dk,dl,dm,dn,rfl,hF135,hE136⟩:=Abp (Abk hh ((hn.t hw).trans hx)) hx126';have c4:=hE136 _ _ hx126';refine Ix c3<|Lx 0 (ha.pers _ _ hF135) c4 ?_;obtain⟨c5,c6,c7⟩:=bS c1;refine Cl' (cO 168) ha (ES N bs F5 ha.pers bz _ c6) ?_;rintro _ F7 dp c8 c9 rfl;refine Vs 1<|St0 #[vi J.2,vi c5,vi 0] c8 (fun dq ca=>?_);refine Nt<|Rg [0,1,2]<|Vs 3<|Abd ?_;obtain rfl:=Aa c7;exact .inl ⟨rfl,F7,ca,c9,fI⟩
      ·refine Sc ?_;obtain rfl:=Aa bx;exact .inl ⟨rfl,F5,ha,Abi _,fI⟩
     ·rintro f dr ⟨F6,hp,cb,⟨_,rfl⟩⟩;refine Ab<|Sq<|sR (rG 8) ?_;refine Abn (fun f w=>∃(F8:Mem),HS w0 F0 w F8 [sb M #[vi J.2,vi O.2,vi 0] 32,sb I #[vi 0,vi 0,vi 0] 32,sb Y (Aj G) 23]/\Abh F6 F8/\FI f [] [(1,(sv Z)),(2,(pt Y 0)),(4,(pt I 0)),(6,(sL h6 h0 h7)),(7,(pt M 0)),(8,(vi O.1)),(57,(.bool (G.Zone&&(decide (O.1 < (h0.length:Int))))))]) ?_ ?_
      ·refine Vs 1 ?_;refine Ld hp.at2<|Vs 1<|Abm G.Zone (fun h3=>?_) (fun h3=>?_)
       ·refine Vgs h3 4 ?_;refine Pk1 h3 ?_;exact Abd ⟨rfl,F6,hp,Abi _,fJ ⟨rfl,rfl,rfl,rfl,rfl,rfl,congrArg Value.bool (HA h3 rfl),trivial⟩⟩
       ·refine Ss h3 4 ?_;refine Pk0 h3 ?_;exact Abd ⟨rfl,F6,hp,Abi _,fJ ⟨rfl,rfl,rfl,rfl,rfl,rfl,congrArg Value.bool (Im h3 rfl),trivial⟩⟩
      ·rintro f cc ⟨F8,hb,cd,⟨_,rfl⟩⟩;refine Ab ?_;obtain⟨h4,ce,cf⟩:=bS bu;refine Abo (fun f w=>∃(F9:Mem),HS w0 F0 w F9 [sb M #[vi J.2,vi O.2,vi h4] 32,sb I #[vi 0,vi 0,vi 0] 32,sb Y (Aj G) 23]/\Abh F8 F9/\FI f [] [(1,(sv Z)),(2,(pt Y 0)),(4,(pt I 0)),(7,(pt M 0))]) ?_ ?_
       ·refine Cd ce (fun cg ch=>?_) (fun cg ci=>?_)
        ·refine sR (rG 7) ?_;refine Vs 2 ?_;obtain⟨cj,cl,cm⟩:=bS ch;obtain⟨cn,hx176'⟩:=Ag cl;obtain⟨ds,dt,du,dv,dw,rfl,hF185,hE186⟩:=Abp (Abk hh ((((hn.t hw).trans hx).trans cb).trans cd)) hx176';have co:=hE186 _ _ hx176';refine Ix cn<|Lx 0 (hb.pers _ _ hF185) co ?_;obtain⟨cp,cq,cr⟩:=bS cm;refine Cl' (cO 168) hb (ES N cc F8 hb.pers cj _ cq) ?_;rintro _ ct dx cu cv rfl;refine Vs 1<|St0 #[vi J.2,vi O.2,vi cp] cu (fun dy cw=>?_);refine Nt<|Rg [0,1,2]<|Vs 3<|Abd ?_;obtain rfl:=Aa cr;exact .inl ⟨rfl,ct,cw,cv,fI⟩
        ·refine Sc ?_;obtain rfl:=Aa ci;exact .inl ⟨rfl,F8,hb,Abi _,fI⟩
       ·rintro f cx ⟨F9,hc,dz,⟨_,rfl⟩⟩;refine Ab<|sR (rG 8) ?_;refine Ld hc.at2<|Ld hc.at0 ?_;obtain⟨hq,cy,cz⟩:=bS cf;refine Cl' (cO 87) hc (Ev N cx F9 hc.pers (lY G) ({Report:=J.2,Serial:=O.2,Zone:=h4}:Af) _ cy) ?_;rintro _ hr e0 hy e1 rfl;refine Vs 5<|Nss<|sR (rG 7) ?_;refine Abn (fun f w=>∃(h8:Mem),HS w0 F0 w h8 [sb M #[vi J.2,vi O.2,vi h4] 32,sb I #[vi 0,vi 0,vi 0] 32]/\Abh hr h8/\FI f [] [(4,(pt I 0)),(7,(pt M 0)),(78,(.bool ((hq.2 !=0)||(hq.1 !=Z))))]) ?_ ?_
        ·refine Vs 3 ?_;refine Abm (hq.2 !=0) (fun h5=>?_) (fun h5=>?_)
         ·refine Ss h5 3 ?_;refine Pk1 h5 ?_;exact Abd ⟨rfl,hr,hy.dr2,Abi _,fJ ⟨rfl,rfl,congrArg Value.bool (Ep h5 rfl),trivial⟩⟩
         ·refine Vgs h5 3 ?_;refine Pk0 h5 ?_;exact Abd ⟨rfl,hr,hy.dr2,Abi _,fJ ⟨rfl,rfl,congrArg Value.bool (Ci h5 rfl),trivial⟩⟩
        ·rintro f e2 ⟨h8,ht,e3,⟨_,rfl⟩⟩;refine Ab<|Cd cz (fun d0 d1=>?_) (fun d0 d2=>?_)
         ·refine sR [0,1,2] ?_;refine Vs 1<|St1 #[vi 0,vi 0,vi 0] ht (fun e4 hz=>?_);refine Vs 1<|Nt<|Rt<|Ad ?_;obtain rfl:=Aa d1;exact⟨rfl,.tuple #[.agg #[vi 0,vi 0,vi 0],vi 1],AL (l:=[.cell 4 32,.tmp 5]) (by kernel_rfl) (vs:=[.agg #[vi 0,vi 0,vi 0],vi 1]) ⟨I,0,rfl,Al (t:=32) (g:=true) (s:=3) (by kernel_rfl) hz.at1 rfl (by decide),⟨rfl,trivial⟩⟩,.tuple #[.agg #[vi 0,vi 0,vi 0],vi 1],h8,rfl,hz.clear,rfl⟩
         ·refine Sc ?_;refine Ab<|sR [0,1,2] ?_;refine Ld ht.at0<|St1 #[vi J.2,vi O.2,vi h4] ht (fun e6 b0=>?_);refine Vs 1<|Nt<|Rt ?_;obtain rfl:=Aa d2;exact⟨rfl,.tuple #[.agg #[vi J.2,vi O.2,vi h4],vi 0],AL (l:=[.cell 4 32,.tmp 5]) (by kernel_rfl) (vs:=[.agg #[vi J.2,vi O.2,vi h4],vi 0]) ⟨I,0,rfl,Al (t:=32) (g:=true) (s:=3) (by kernel_rfl) b0.at1 rfl (by decide),⟨rfl,trivial⟩⟩,.tuple #[.agg #[vi J.2,vi O.2,vi h4],vi 0],h8,rfl,b0.clear,rfl⟩

def Bh(N:Nat)(G:(List AbC))(I:AbC):Option Bool:=
 ((A5 N G I).bind fun J=>some (decide (J>=0)))
theorem GF(N:Nat)(w0:World)(F0:Mem)(hF:AbE w0 F0)(G:(List AbC))(I:AbD)(J:Nat)(Y:LC G.length J)(Z:SlA AJ F0 I G)(M:AbC)(r:Bool)(h:Bh N G M=some r):
  Calls Tryz.prog 122 (lA [sL I G J,sv M]) w0 (AE w0 F0 fun F' v=>v=(.bool r)):=by
 have O:=Abj hF;refine Go 9 Tryz.func122<|sR [0] ?_;refine Vs 1<|Nss (Rg (rG 5) ?_);refine Vs 2 ?_;obtain⟨h0,h1,h2⟩:=bS h;refine Cl' (cO 94) O (Ej N w0 F0 O.pers G I J Y Z M _ h1) ?_;rintro _ F1 h4 h3 h5 rfl;refine Vs 2<|Nt<|Rt ?_;obtain rfl:=Aa h2;exact Re [.bool (decide (h0>=0))] h3 rfl
def Bq(N:Nat)(x0:List Fix):(Int×Int×List Fix)->Option (A4 (List Fix) (Int×Int×List Fix)):=fun G=>
 (bif(decide (G.1 < G.2.1))then none else some (.done (G.1,G.2.1,G.2.2)))
def BH(N:Nat)(G:List Fix):Option (List Fix):=
 ((AF (Bq N G) N (0,(W64 ((G.length:Int) - 1)),G)).bind fun o=>o.k (fun r=>some r) (fun I=>some I.2.2))
theorem Gz(N:Nat){wb w0:World}{Fb F0:Mem}{Lf:Own}(I:List Fix)(J:AbD)(M:Nat)(Z:Option Nat×Obj)(h2:Aq Nc 64 F0 J M I Z)(h4:HS wb Fb w0 F0 (Z::Lf))(r:List Fix)(h:BH N I=some r):
  Calls Tryz.prog 126 (lA [.slice J I.length M]) w0 (fun e w'=>∃ F' e',e=.returned (.tuple #[])/\HS wb Fb w' F' (e'::Lf)/\Abh F0 F'/\Aq Nc 64 F' J M r e'):=by
 refine Rc (n:=28) (c:=Rq Tryz.f126) Tryz.func126 (by kernel_rfl) (by kernel_rfl) (by kernel_rfl)<|sR (rG 5) ?_;refine Vs 1<|Vs 1<|Vs 1<|Vs 1<|Vs 1<|Nt ?_;obtain⟨o1,h5,h3⟩:=bS h;refine Abo (fun f w=>∃(h0:(Int×Int×List Fix))(O:Mem)(h1:Option Nat×Obj),o1=.done h0/\HS wb Fb w O (h1::Lf)/\Abh F0 O/\FI f [] []/\Aq Nc 64 O J M h0.2.2 h1) ?_ ?_
 ·refine Bk ?_;refine Abg (by kernel_rfl) (fun m f w=>∃(G:(Int×Int×List Fix))(F1:Mem)(Y:Option Nat×Obj),AF (Bq N I) m G=some o1/\HS wb Fb w F1 (Y::Lf)/\Abh F0 F1/\FI f [] [(0,(sL J G.2.2 M)),(2,(vi G.1)),(3,(vi G.2.1))]/\Aq Nc 64 F1 J M G.2.2 Y) N ⟨(0,(W64 ((I.length:Int) - 1)),I),F0,Z,h5,h4,Abi _,fI,h2⟩ ?_;rintro hr f w5 ⟨G,F1,Y,h6,h7,h8,⟨_,rfl⟩,h9⟩;obtain⟨ht,hu,rfl,ha,hb⟩:=AB h6;refine Sq<|sR [0,1,2] ?_;refine Vs 1<|Vs 1<|Vs 1<|Nt<|Cd ha (fun hc hg=>?_) (fun hc hh=>?_)
  ·cases hg
  ·refine Ex ?_;refine Ak<|Ak<|Au rfl ?_;have hm:=Az hh hb;exact .inl ⟨rfl,(G.1,G.2.1,G.2.2),F1,Y,hm,h7,h8,fI,h9⟩
 ·rintro f hw ⟨h0,O,h1,rfl,hn,ho,⟨_,rfl⟩,hp⟩;have hq:=AY h3;have hfin:=Aa hq;subst hfin;exact⟨rfl,.tuple #[],AL (l:=[]) (by kernel_rfl) (vs:=[]) trivial,O,_,rfl,hn,ho,hp⟩

def Fz(N:Nat)(I:AbC):(List AbC×Int×Int)->Option (A4 (List AbC) (List AbC×Int×Int)):=fun G=>
 (bif(decide (G.2.2 < (I.length:Int)))then((HU I G.2.2).bind fun M=>((bif(M==47)then((HT I G.2.1 G.2.2).bind fun O=>((Cv G.1 [O]).bind fun Y=>some (Y,(W64 (G.2.2 + 1)))))else some (G.1,G.2.1)).bind fun J=>some (.next (J.1,J.2,(W64 (G.2.2 + 1))))))else some (.done (G.1,G.2.1,G.2.2)))
def HC(N:Nat)(G:AbC):Option (List AbC):=
 ((AF (Fz N G) N (([]:List AbC),0,0)).bind fun o=>o.k (fun r=>some r) (fun I=>((HT G I.2.1 (G.length:Int)).bind fun J=>((Cv I.1 [J]).bind fun M=>some M))))
theorem Rk(N:Nat)(w0:World)(F0:Mem)(hF:AbE w0 F0)(I:AbC)(r:(List AbC))(h:HC N I=some r):
  Calls Tryz.prog 229 (lA [sv I]) w0 (AE w0 F0 fun F' v=>∃(hb:AbD)(hc:Nat),v=(sL hb r hc)/\LC r.length hc/\SlA AJ F' hb r):=by
 have hw:=Abj hF;refine Go 31 Tryz.func229<|sR [0] ?_;refine Vs 1<|Nss (Rg [0] ?_);refine Vs 1<|Nss (Rg [0] ?_);refine Vs 1<|Nss<|sR [0] ?_;refine Vs 1<|Nt ?_;have hx:=hw.dummy (oc #[] 0);obtain⟨hg,hy,hz⟩:=bS h;refine Abo (fun f w=>∃(J:(List AbC×Int×Int))(M:Mem)(h6:AbD)(h7:Nat)(h8:Option Nat×Obj),hg=.done J/\HS w0 F0 w M [h8]/\Abh F0 M/\FI f [] [(0,(sv I)),(3,(sL h6 J.1 h7)),(4,(vi J.2.1))]/\Aq AJ 9 M h6 h7 J.1 h8) ?_ ?_
 ·refine Bk ?_;refine Abg (by kernel_rfl) (fun m f w=>∃(G:(List AbC×Int×Int))(F1:Mem)(O:AbD)(Y:Nat)(Z:Option Nat×Obj),AF (Fz N I) m G=some hg/\HS w0 F0 w F1 [Z]/\Abh F0 F1/\FI f [] [(0,(sv I)),(3,(sL O G.1 Y)),(4,(vi G.2.1)),(5,(vi G.2.2))]/\Aq AJ 9 F1 O Y G.1 Z) N ⟨(([]:List AbC),0,0),F0,none,0,(none,.cells #[] 0 (0,0)),hy,hx,Abi _,fI,Abw AJ 9 F0 _⟩ ?_;rintro c8 f c9 ⟨G,F1,O,Y,Z,b0,h9,hh,⟨_,rfl⟩,ha⟩;obtain⟨b1,ca,rfl,b2,hm⟩:=AB b0;refine Sq<|sR (rG 4) ?_;refine Vs 4<|Nt<|Cd b2 (fun b3 b4=>?_) (fun b3 b5=>?_)
  ·refine Sc ?_;refine Ab<|Sq<|Bk<|sR (rG 4) ?_;refine Vs 2 ?_;obtain⟨b6,b7,b8⟩:=bS b4;refine V 14 5 (Co (t:=9) (x:=(.tmp 12)) (y:=(.tmp 13)) (a:=I) (k:=.i64) (i:=G.2.2) (v:=b6) rfl rfl (by kernel_rfl) b7)<|Vs 1<|Nt ?_;obtain⟨h0,b9,ba⟩:=bS b8;refine Abo (fun f w=>∃(F3:Mem)(h1:AbD)(h2:Nat)(h3:Option Nat×Obj),HS w0 F0 w F3 [h3]/\Abh F1 F3/\FI f [] [(0,(sv I)),(3,(sL h1 h0.1 h2)),(4,(vi h0.2)),(5,(vi G.2.2))]/\Aq AJ 9 F3 h1 h2 h0.1 h3) ?_ ?_
   ·refine Cd b9 (fun bb bc=>?_) (fun bb bd=>?_)
    ·refine sR (rG 8) ?_;refine Vs 4 ?_;obtain⟨h4,be,bf⟩:=bS bc;refine V 20 9 (Dn (t:=9) (x:=(.tmp 17)) (lo:=(some (.tmp 18))) (hi:=(some (.tmp 19))) (a:=I) (il:=G.2.1) (ih:=G.2.2) (v:=h4) rfl (by kernel_rfl) rfl rfl be)<|Bs 9 [sv h4] h9 (fun hn cb ho=>?_);have bg:Aq AJ 9 F1 (some ⟨hn,0,none⟩) 1 [h4] (some hn,.cells (lA [sv h4]) 9 (0,0)):=Abx ⟨rfl,rfl⟩ (by simp);obtain⟨cc,bh,bi⟩:=bS bf;refine Ap1 Pr ho ha (ho.rd0 bg) bh (fun bj bk bl cd bm bn=>?_);refine Vs 1<|Nt<|Rg [0,1,2]<|Vs 3<|Abd ?_;obtain rfl:=Aa bi;exact .inl ⟨rfl,F1,bj,bk,bl,bm.dr0,Abi _,fI,bn⟩
    ·refine Sc ?_;obtain rfl:=Aa bd;exact .inl ⟨rfl,F1,O,Y,Z,h9,Abi _,fI,ha⟩
   ·rintro f ce ⟨F3,h1,h2,h3,bo,bp,⟨_,rfl⟩,bq⟩;refine Am<|Ab<|Rg [0,1,2]<|Vs 3<|Abd ?_;have br:=Ax ba hm;exact⟨b1,Nat.lt_succ_self _,(h0.1,h0.2,(W64 (G.2.2 + 1))),F3,h1,h2,h3,br,bo,hh.t bp,fI,bq⟩
  ·refine Ex ?_;refine Ak<|Ak<|Au rfl ?_;have bs:=Az b5 hm;exact .inl ⟨rfl,(G.1,G.2.1,G.2.2),F1,O,Y,Z,bs,h9,hh,fI,ha⟩
 ·rintro f cf ⟨J,M,h6,h7,h8,rfl,bt,cg,⟨_,rfl⟩,bu⟩;have bv:=AY hz;refine Ab<|sR (rG 7) ?_;refine Vs 3 ?_;obtain⟨h5,bw,bx⟩:=bS bv;refine V 28 9 (Dn (t:=9) (x:=(.tmp 26)) (lo:=(some (.tmp 27))) (hi:=none) (a:=I) (il:=J.2.1) (ih:=(I.length:Int)) (v:=h5) rfl (by kernel_rfl) rfl rfl bw)<|Bs 9 [sv h5] bt (fun hp ch hq=>?_);have bz:Aq AJ 9 M (some ⟨hp,0,none⟩) 1 [h5] (some hp,.cells (lA [sv h5]) 9 (0,0)):=Abx ⟨rfl,rfl⟩ (by simp);obtain⟨c0,c1,c3⟩:=bS bx;refine Ap1 Pr hq bu (hq.rd0 bz) c1 (fun hr ht ci cj c4 hu=>?_);refine Vs 1<|Nt<|Rt ?_;have c5:=Abv hu;obtain⟨F4,c6,cl,c7⟩:=c4.fr1 hu;obtain rfl:=Aa c3;exact Re [sL hr c0 ht] c6 ⟨hr,ht,rfl,c5,c7⟩
def HD(N:Nat)(I:AbC):(Int×Int)->Option (A4 Int (Int×Int)):=fun G=>
 (bif(decide (G.2 < (I.length:Int)))then((HU I G.2).bind fun J=>((EK N J).bind fun M=>some (.next ((bif M then(W64 (G.2 + 1))else G.1),(W64 (G.2 + 1))))))else some (.done (G.1,G.2)))
def Jp(N:Nat)(G:AbC):Option Int:=
 ((AF (HD N G) N (0,0)).bind fun o=>o.k (fun r=>some r) (fun I=>some I.1))
theorem Pl(N:Nat)(w0:World)(F0:Mem)(hF:AbE w0 F0)(I:AbC)(r:Int)(h:Jp N I=some r):
  Calls Tryz.prog 267 (lA [sv I]) w0 (AE w0 F0 fun F' v=>v=(vi r)):=by
 have h6:=Abj hF;refine Go 18 Tryz.func267<|sR [0] ?_;refine Vs 1<|Nss (Rg [0] ?_);refine Vs 1<|Nss<|sR [0] ?_;refine Vs 1<|Nt ?_;obtain⟨h1,h7,h8⟩:=bS h;refine Abo (fun f w=>∃(J:(Int×Int))(O:Mem),h1=.done J/\HS w0 F0 w O []/\Abh F0 O/\FI f [] [(3,(vi J.1))]) ?_ ?_
 ·refine Bk ?_;refine Abg (by kernel_rfl) (fun m f w=>∃(G:(Int×Int))(F1:Mem),AF (HD N I) m G=some h1/\HS w0 F0 w F1 []/\Abh F0 F1/\FI f [] [(0,(sv I)),(3,(vi G.1)),(4,(vi G.2))]) N ⟨(0,0),F0,h7,h6,Abi _,fI⟩ ?_;rintro b0 f h9 ⟨G,F1,ha,Y,h2,⟨_,rfl⟩⟩;obtain⟨hb,b1,rfl,hc,h3⟩:=AB ha;refine Sq<|sR (rG 4) ?_;refine Vs 4<|Nt<|Cd hc (fun hg hh=>?_) (fun hg hm=>?_)
  ·refine Sc ?_;refine Ab<|Sq<|Bk<|sR (rG 4) ?_;refine Vs 2 ?_;obtain⟨h4,hn,ho⟩:=bS hh;refine V 13 5 (Co (t:=9) (x:=(.tmp 11)) (y:=(.tmp 12)) (a:=I) (k:=.i64) (i:=G.2) (v:=h4) rfl rfl (by kernel_rfl) hn) ?_;obtain⟨Z,hp,hq⟩:=bS ho;refine Cl' (cO 204) Y (G3 N h9 F1 Y.pers h4 _ hp) ?_;rintro _ F3 b2 h5 hr rfl;refine Nt<|Abo (fun f w=>∃(M:Mem),HS w0 F0 w M []/\Abh F3 M/\FI f [] [(0,(sv I)),(3,(vi (bif Z then(W64 (G.2 + 1))else G.1))),(4,(vi G.2))]) ?_ ?_
   ·refine Cp Z (fun h0=>?_) (fun h0=>?_)
    ·refine Rg [0,1,2] ?_;refine Vs 3<|Abd ?_;exact .inl ⟨rfl,F3,h5,Abi _,fJ ⟨rfl,congrArg (Value.int .i64) (Ik h0 rfl),rfl,trivial⟩⟩
    ·refine Sc ?_;exact .inl ⟨rfl,F3,h5,Abi _,fJ ⟨rfl,congrArg (Value.int .i64) (LD h0 rfl),rfl,trivial⟩⟩
   ·rintro f b3 ⟨M,ht,hu,⟨_,rfl⟩⟩;refine Am<|Ab<|Rg [0,1,2]<|Vs 3<|Abd ?_;have hw:=Ax hq h3;exact⟨hb,Nat.lt_succ_self _,((bif Z then(W64 (G.2 + 1))else G.1),(W64 (G.2 + 1))),M,hw,ht,(h2.t hr).trans hu,fI⟩
  ·refine Ex ?_;refine Ak<|Ak<|Au rfl ?_;have hx:=Az hm h3;exact .inl ⟨rfl,(G.1,G.2),F1,hx,Y,h2,fI⟩
 ·rintro f b4 ⟨J,O,rfl,hy,b5,⟨_,rfl⟩⟩;have hz:=AY h8;refine Ab<|sR [0,1] ?_;refine Vs 2<|Nt<|Rt ?_;obtain rfl:=Aa hz;exact Re [vi J.1] hy rfl
def Gm(N:Nat)(G:Int):Option Bool:=
 some ((decide (65<=G))&&(decide (G<=90)))
theorem Lr(N:Nat)(w0:World)(F0:Mem)(hF:AbE w0 F0)(G:Int)(r:Bool)(h:Gm N G=some r):
  Calls Tryz.prog 286 (lA [.int .u8 G]) w0 (AE w0 F0 fun F' v=>v=(.bool r)):=by
 have J:=Abj hF;refine Go 9 Tryz.func286<|sR [0] ?_;refine Vs 1<|Nss (Rg (rG 7) ?_);refine Abn (fun f w=>∃(F1:Mem),HS w0 F0 w F1 []/\Abh F0 F1/\FI f [] [(2,(.bool ((decide (65<=G))&&(decide (G<=90)))))]) ?_ ?_
 ·refine Vs 3 ?_;refine Abm (decide (65<=G)) (fun I=>?_) (fun I=>?_)
  ·refine Vgs I 2 ?_;refine Pk1 I<|Vs 1 ?_;exact Abd ⟨rfl,F0,J,Abi _,fJ ⟨congrArg Value.bool (HA I rfl),trivial⟩⟩
  ·refine Ss I 2 ?_;refine Pk0 I<|Vs 1 ?_;exact Abd ⟨rfl,F0,J,Abi _,fJ ⟨congrArg Value.bool (Im I rfl),trivial⟩⟩
 ·rintro f h0 ⟨F1,M,h1,⟨_,rfl⟩⟩;refine Ab<|Rt ?_;obtain rfl:=Aa h;exact Re [.bool ((decide (65<=G))&&(decide (G<=90)))] M rfl
def DI(N:Nat)(I:AbC):Int->Option (A4 Bool Int):=fun G=>
 (bif(decide (G < (I.length:Int)))then(((HU I G).bind fun J=>((Gm N J).bind fun M=>(bif(!M)then((HU I G).bind fun O=>((EK N O).bind fun Y=>some (!Y)))else some false))).bind fun Z=>(bif Z then some (.ret false)else some (.next (W64 (G + 1)))))else some (.done G))
def FT(N:Nat)(G:AbC):Option Bool:=
 ((AF (DI N G) N 0).bind fun o=>o.k (fun r=>some r) (fun h0=>some true))
theorem Ji(N:Nat)(w0:World)(F0:Mem)(hF:AbE w0 F0)(J:AbC)(r:Bool)(h:FT N J=some r):
  Calls Tryz.prog 268 (lA [sv J]) w0 (AE w0 F0 fun F' v=>v=(.bool r)):=by
 have h9:=Abj hF;refine Go 22 Tryz.func268<|sR [0] ?_;refine Vs 1<|Nss<|sR [0] ?_;refine Vs 1<|Nt ?_;obtain⟨h1,ha,h2⟩:=bS h;refine Abo (fun f w=>∃(h3:Int)(O:Mem),h1=.done h3/\HS w0 F0 w O []/\Abh F0 O/\FI f [] []) ?_ ?_
 ·refine Bk ?_;refine Abg (by kernel_rfl) (fun m f w=>∃(G:Int)(F1:Mem),AF (DI N J) m G=some h1/\HS w0 F0 w F1 []/\Abh F0 F1/\FI f [] [(0,(sv J)),(3,(vi G))]) N ⟨0,F0,ha,h9,Abi _,fI⟩ ?_;rintro bf f hb ⟨G,F1,hc,Y,h4,⟨_,rfl⟩⟩;obtain⟨hg,bg,rfl,hh,Z⟩:=AB hc;refine Sq<|sR (rG 4) ?_;refine Vs 4<|Nt<|Cd hh (fun hm hn=>?_) (fun hm ho=>?_)
  ·refine Sc ?_;refine Ab<|Sq<|Bk<|sR (rG 12) ?_;obtain⟨hp,hq,hr⟩:=bS hn;refine Abn (fun f w=>∃(M:Mem),HS w0 F0 w M []/\Abh F1 M/\FI f [] [(0,(sv J)),(3,(vi G)),(21,(.bool hp))]) ?_ ?_
   ·refine Vs 2 ?_;obtain⟨h5,ht,hu⟩:=bS hq;refine V 12 5 (Co (t:=9) (x:=(.tmp 10)) (y:=(.tmp 11)) (a:=J) (k:=.i64) (i:=G) (v:=h5) rfl rfl (by kernel_rfl) ht) ?_;obtain⟨bh,hw,hx⟩:=bS hu;refine Cl' (cO 286) Y (Lr N hb F1 Y.pers h5 _ hw) ?_;rintro _ F4 hy h0 h6 rfl;refine Vs 2<|Sp hx (fun I hz=>?_) (fun I b0=>?_)
    ·refine Vgs I 2 ?_;obtain⟨h7,b1,b2⟩:=bS hz;refine Vg 18 5 5 true 15 I (Co (t:=9) (x:=(.tmp 16)) (y:=(.tmp 17)) (a:=J) (k:=.i64) (i:=G) (v:=h7) rfl rfl (by kernel_rfl) b1) ?_;obtain⟨bi,b3,b4⟩:=bS b2;refine Cg I (cO 204) h0 (G3 N hy F4 h0.pers h7 _ b3) ?_;rintro _ F5 bj b5 b6 rfl;refine Vgs I 1<|Pk1 I ?_;obtain rfl:=Aa b4;exact Abd ⟨rfl,F5,b5,h6.t b6,fI⟩
    ·refine Ss I 5 ?_;refine Pk0 I ?_;obtain rfl:=Aa b0;exact Abd ⟨rfl,F4,h0,h6,fI⟩
   ·rintro f bk ⟨M,h8,b7,⟨_,rfl⟩⟩;refine Ab<|Cd hr (fun b8 b9=>?_) (fun b8 ba=>?_)
    ·refine sR [0] ?_;refine Vs 1<|Nt<|Rt<|As<|Ad<|Ad<|As ?_;have hret:=BC b9 Z;subst hret;refine .inr<|Ad ?_;obtain rfl:=Aa h2;exact Re [bF] h8 rfl
    ·refine Sc ?_;refine Am<|Ab<|Rg [0,1,2]<|Vs 3<|Abd ?_;have bb:=Ax ba Z;exact⟨hg,Nat.lt_succ_self _,W64 (G + 1),M,bb,h8,h4.t b7,fI⟩
  ·refine Ex ?_;refine Ak<|Ak<|Au rfl ?_;have bc:=Az ho Z;exact .inl ⟨rfl,G,F1,bc,Y,h4,fI⟩
 ·rintro f bl ⟨h3,O,rfl,bd,bm,⟨_,rfl⟩⟩;have be:=AY h2;refine Ab<|sR [0] ?_;refine Vs 1<|Nt<|Rt ?_;obtain rfl:=Aa be;exact Re [bT] bd rfl
def CC(N:Nat)(I:AbC):Int->Option (A4 Bool Int):=fun G=>
 (bif(decide (G < (I.length:Int)))then((HU I G).bind fun J=>((Gm N J).bind fun M=>(bif M then some (.ret true)else some (.next (W64 (G + 1))))))else some (.done G))
def EJ(N:Nat)(G:AbC):Option Bool:=
 ((AF (CC N G) N 0).bind fun o=>o.k (fun r=>some r) (fun h0=>some false))
theorem JI(N:Nat)(w0:World)(F0:Mem)(hF:AbE w0 F0)(I:AbC)(r:Bool)(h:EJ N I=some r):
  Calls Tryz.prog 269 (lA [sv I]) w0 (AE w0 F0 fun F' v=>v=(.bool r)):=by
 have h4:=Abj hF;refine Go 14 Tryz.func269<|sR [0] ?_;refine Vs 1<|Nss<|sR [0] ?_;refine Vs 1<|Nt ?_;obtain⟨Y,h5,Z⟩:=bS h;refine Abo (fun f w=>∃(h0:Int)(J:Mem),Y=.done h0/\HS w0 F0 w J []/\Abh F0 J/\FI f [] []) ?_ ?_
 ·refine Bk ?_;refine Abg (by kernel_rfl) (fun m f w=>∃(G:Int)(F1:Mem),AF (CC N I) m G=some Y/\HS w0 F0 w F1 []/\Abh F0 F1/\FI f [] [(0,(sv I)),(3,(vi G))]) N ⟨0,F0,h5,h4,Abi _,fI⟩ ?_;rintro hy f h6 ⟨G,F1,h7,M,h1,⟨_,rfl⟩⟩;obtain⟨h8,hz,rfl,h9,O⟩:=AB h7;refine Sq<|sR (rG 4) ?_;refine Vs 4<|Nt<|Cd h9 (fun ha hb=>?_) (fun ha hc=>?_)
  ·refine Sc ?_;refine Ab<|Sq<|Bk<|sR (rG 4) ?_;refine Vs 2 ?_;obtain⟨h2,hg,hh⟩:=bS hb;refine V 12 5 (Co (t:=9) (x:=(.tmp 10)) (y:=(.tmp 11)) (a:=I) (k:=.i64) (i:=G) (v:=h2) rfl rfl (by kernel_rfl) hg) ?_;obtain⟨b0,hm,hn⟩:=bS hh;refine Cl' (cO 286) M (Lr N h6 F1 M.pers h2 _ hm) ?_;rintro _ F3 b1 h3 ho rfl;refine Nt<|Cd hn (fun hp hq=>?_) (fun hp hr=>?_)
   ·refine sR [0] ?_;refine Vs 1<|Nt<|Rt<|As<|Ad<|Ad<|As ?_;have hret:=BC hq O;subst hret;refine .inr<|Ad ?_;obtain rfl:=Aa Z;exact Re [bT] h3 rfl
   ·refine Sc ?_;refine Am<|Ab<|Rg [0,1,2]<|Vs 3<|Abd ?_;have ht:=Ax hr O;exact⟨h8,Nat.lt_succ_self _,W64 (G + 1),F3,ht,h3,h1.t ho,fI⟩
  ·refine Ex ?_;refine Ak<|Ak<|Au rfl ?_;have hu:=Az hc O;exact .inl ⟨rfl,G,F1,hu,M,h1,fI⟩
 ·rintro f b2 ⟨h0,J,rfl,hw,b3,⟨_,rfl⟩⟩;have hx:=AY Z;refine Ab<|sR [0] ?_;refine Vs 1<|Nt<|Rt ?_;obtain rfl:=Aa hx;exact Re [bF] hw rfl
def FG(N:Nat)(G:AbC):Option Bool:=
 ((Jp N G).bind fun I=>(((FT N G).bind fun J=>(bif J then((Do N I 1 4).bind fun M=>(bif M then((HT G 0 I).bind fun O=>((EJ N O).bind fun Y=>(bif Y then((Do N (W64 ((G.length:Int) - I)) 1 4).bind fun Z=>some Z)else some false)))else some false))else some false)).bind fun h0=>some h0))
theorem HG(N:Nat)(w0:World)(F0:Mem)(hF:AbE w0 F0)(I:AbC)(r:Bool)(h:FG N I=some r):
  Calls Tryz.prog 230 (lA [sv I]) w0 (AE w0 F0 fun F' v=>v=(.bool r)):=by
 have h4:=Abj hF;refine Go 25 Tryz.func230<|sR [0] ?_;refine Vs 1<|Nss (Rg [0,1,2] ?_);refine Vs 1 ?_;obtain⟨Y,h9,ha⟩:=bS h;refine Cl' (cO 267) h4 (Pl N w0 F0 h4.pers I _ h9) ?_;rintro _ F1 hb h5 b9 rfl;refine Vs 1<|Nss (Rg (rG 20) ?_);obtain⟨h6,hc,hg⟩:=bS ha;refine Abn (fun f w=>∃(Z:Mem),HS w0 F0 w Z []/\Abh F1 Z/\FI f [] [(2,(.bool h6))]) ?_ ?_
 ·refine Vs 1 ?_;obtain⟨ba,hh,hm⟩:=bS hc;refine Cl' (cO 268) h5 (Ji N hb F1 h5.pers I _ hh) ?_;rintro _ F3 hn h0 O rfl;refine Vs 1<|Sp hm (fun J ho=>?_) (fun J hp=>?_)
  ·refine Vgs J 1 ?_;obtain⟨bb,hq,hr⟩:=bS ho;refine Cg J (cO 150) h0 (DQ N hn F3 h0.pers Y 1 4 _ hq) ?_;rintro _ F4 ht h1 h2 rfl;refine Pk1 J<|Vs 1<|Sp hr (fun G hu=>?_) (fun G hw=>?_)
   ·refine Vgs G 2 ?_;obtain⟨h7,hx,hy⟩:=bS hu;refine Vg 15 9 6 true 12 G (Dn (t:=9) (x:=(.tmp 13)) (lo:=none) (hi:=(some (.tmp 14))) (a:=I) (il:=0) (ih:=Y) (v:=h7) rfl (by kernel_rfl) rfl rfl hx) ?_;obtain⟨bc,hz,b0⟩:=bS hy;refine Cg G (cO 269) h1 (JI N ht F4 h1.pers h7 _ hz) ?_;rintro _ F5 b1 h3 h8 rfl;refine Pk1 G<|Vs 1<|Sp b0 (fun M b2=>?_) (fun M b3=>?_)
    ·refine Vgs M 4 ?_;obtain⟨bd,b4,b5⟩:=bS b2;refine Cg M (cO 150) h3 (DQ N b1 F5 h3.pers (W64 ((I.length:Int) - Y)) 1 4 _ b4) ?_;rintro _ F6 be b6 b7 rfl;refine Pk1 M<|Vs 1 ?_;obtain rfl:=Aa b5;exact Abd ⟨rfl,F6,b6,((O.t h2).trans h8).trans b7,fI⟩
    ·refine Ss M 5 ?_;refine Pk0 M<|Vs 1 ?_;obtain rfl:=Aa b3;exact Abd ⟨rfl,F5,h3,(O.t h2).trans h8,fI⟩
   ·refine Ss G 4 ?_;refine Pk0 G<|Vs 1<|Ss rF 5<|Pk0 rF<|Vs 1 ?_;obtain rfl:=Aa hw;exact Abd ⟨rfl,F4,h1,O.t h2,fI⟩
  ·refine Ss J 2 ?_;refine Pk0 J<|Vs 1<|Ss rF 4<|Pk0 rF<|Vs 1<|Ss rF 5<|Pk0 rF<|Vs 1 ?_;obtain rfl:=Aa hp;exact Abd ⟨rfl,F3,h0,O,fI⟩
 ·rintro f bf ⟨Z,b8,bg,⟨_,rfl⟩⟩;refine Ab<|Rt ?_;obtain rfl:=Aa hg;exact Re [.bool h6] b8 rfl
def HZ(N:Nat)(G:AbC):Option Bool:=
 (((FT N G).bind fun I=>(bif I then((Do N (G.length:Int) 1 4).bind fun J=>(bif J then((EJ N G).bind fun M=>some M)else some false))else some false)).bind fun O=>some O)
theorem Od(N:Nat)(w0:World)(F0:Mem)(hF:AbE w0 F0)(J:AbC)(r:Bool)(h:HZ N J=some r):
  Calls Tryz.prog 231 (lA [sv J]) w0 (AE w0 F0 fun F' v=>v=(.bool r)):=by
 have Z:=Abj hF;refine Go 14 Tryz.func231<|sR [0] ?_;refine Vs 1<|Nss (Rg (rG 12) ?_);obtain⟨h0,h2,h3⟩:=bS h;refine Abn (fun f w=>∃(F1:Mem),HS w0 F0 w F1 []/\Abh F0 F1/\FI f [] [(2,(.bool h0))]) ?_ ?_
 ·refine Vs 1 ?_;obtain⟨hq,h4,h5⟩:=bS h2;refine Cl' (cO 268) Z (Ji N w0 F0 Z.pers J _ h4) ?_;rintro _ F2 h6 M O rfl;refine Vs 1<|Sp h5 (fun G h7=>?_) (fun G h8=>?_)
  ·refine Vgs G 2 ?_;obtain⟨hr,h9,ha⟩:=bS h7;refine Cg G (cO 150) M (DQ N h6 F2 M.pers (J.length:Int) 1 4 _ h9) ?_;rintro _ F3 hb Y h1 rfl;refine Pk1 G<|Vs 1<|Sp ha (fun I hc=>?_) (fun I hg=>?_)
   ·refine Vgs I 1 ?_;obtain⟨ht,hh,hm⟩:=bS hc;refine Cg I (cO 269) Y (JI N hb F3 Y.pers J _ hh) ?_;rintro _ F4 hu hn ho rfl;refine Pk1 I<|Vs 1 ?_;obtain rfl:=Aa hm;exact Abd ⟨rfl,F4,hn,(O.t h1).trans ho,fI⟩
   ·refine Ss I 2 ?_;refine Pk0 I<|Vs 1 ?_;obtain rfl:=Aa hg;exact Abd ⟨rfl,F3,Y,O.t h1,fI⟩
  ·refine Ss G 3 ?_;refine Pk0 G<|Vs 1<|Ss rF 2<|Pk0 rF<|Vs 1 ?_;obtain rfl:=Aa h8;exact Abd ⟨rfl,F2,M,O,fI⟩
 ·rintro f hw ⟨F1,hp,hx,⟨_,rfl⟩⟩;refine Ab<|Rt ?_;obtain rfl:=Aa h3;exact Re [.bool h0] hp rfl
def Gk(N:Nat)(G:AbC):Option Bool:=
 ((bif((G.length:Int)==1)then((HU G 0).bind fun I=>((EK N I).bind fun J=>some J))else some false).bind fun M=>(bif M then some true else(((FT N G).bind fun O=>(bif O then((Do N (G.length:Int) 1 4).bind fun Y=>(bif Y then((Jp N G).bind fun Z=>some (Z==0))else some false))else some false)).bind fun h0=>some h0)))
theorem Lp(N:Nat)(w0:World)(F0:Mem)(hF:AbE w0 F0)(G:AbC)(r:Bool)(h:Gk N G=some r):
  Calls Tryz.prog 232 (lA [sv G]) w0 (AE w0 F0 fun F' v=>v=(.bool r)):=by
 have O:=Abj hF;refine Go 23 Tryz.func232<|sR [0] ?_;refine Vs 1<|Nss<|sR (rG 8) ?_;obtain⟨h6,h7,h8⟩:=bS h;refine Abn (fun f w=>∃(F1:Mem),HS w0 F0 w F1 []/\Abh F0 F1/\FI f [] [(0,(sv G)),(10,(.bool h6))]) ?_ ?_
 ·refine Vs 4 ?_;refine Sp h7 (fun I h9=>?_) (fun I ha=>?_)
  ·refine Vgs I 1 ?_;obtain⟨h3,hb,hc⟩:=bS h9;refine Vg 8 5 3 true 6 I (Co (t:=9) (x:=(.tmp 7)) (y:=(.const (vi 0))) (a:=G) (k:=.i64) (i:=0) (v:=h3) rfl rfl (by kernel_rfl) hb) ?_;obtain⟨bb,hg,hh⟩:=bS hc;refine Cg I (cO 204) O (G3 N w0 F0 O.pers h3 _ hg) ?_;rintro _ F2 bc hm hn rfl;refine Pk1 I ?_;obtain rfl:=Aa hh;exact Abd ⟨rfl,F2,hm,hn,fI⟩
  ·refine Ss I 3 ?_;refine Pk0 I ?_;obtain rfl:=Aa ha;exact Abd ⟨rfl,F0,O,Abi _,fI⟩
 ·rintro f ho ⟨F1,Y,bd,⟨_,rfl⟩⟩;refine Ab<|Cd h8 (fun hp hq=>?_) (fun hp hr=>?_)
  ·refine sR [0] ?_;refine Vs 1<|Nt<|Rt<|Ad ?_;obtain rfl:=Aa hq;exact Re [bT] Y rfl
  ·refine Sc ?_;refine Ab<|sR (rG 13) ?_;obtain⟨h4,ht,hu⟩:=bS hr;refine Abn (fun f w=>∃(Z:Mem),HS w0 F0 w Z []/\Abh F1 Z/\FI f [] [(2,(.bool h4))]) ?_ ?_
   ·refine Vs 1 ?_;obtain⟨be,hw,hx⟩:=bS ht;refine Cl' (cO 268) Y (Ji N ho F1 Y.pers G _ hw) ?_;rintro _ F4 hy h0 h1 rfl;refine Vs 1<|Sp hx (fun M hz=>?_) (fun M b0=>?_)
    ·refine Vgs M 2 ?_;obtain⟨bf,b1,b2⟩:=bS hz;refine Cg M (cO 150) h0 (DQ N hy F4 h0.pers (G.length:Int) 1 4 _ b1) ?_;rintro _ F5 b3 h2 h5 rfl;refine Pk1 M<|Vs 1<|Sp b2 (fun J b4=>?_) (fun J b5=>?_)
     ·refine Vgs J 1 ?_;obtain⟨bg,b6,b7⟩:=bS b4;refine Cg J (cO 267) h2 (Pl N b3 F5 h2.pers G _ b6) ?_;rintro _ F6 bh b8 b9 rfl;refine Vgs J 1<|Pk1 J<|Vs 1 ?_;obtain rfl:=Aa b7;exact Abd ⟨rfl,F6,b8,(h1.t h5).trans b9,fI⟩
     ·refine Ss J 3 ?_;refine Pk0 J<|Vs 1 ?_;obtain rfl:=Aa b5;exact Abd ⟨rfl,F5,h2,h1.t h5,fI⟩
    ·refine Ss M 3 ?_;refine Pk0 M<|Vs 1<|Ss rF 3<|Pk0 rF<|Vs 1 ?_;obtain rfl:=Aa b0;exact Abd ⟨rfl,F4,h0,h1,fI⟩
   ·rintro f bi ⟨Z,ba,bj,⟨_,rfl⟩⟩;refine Ab<|Rt ?_;obtain rfl:=Aa hu;exact Re [.bool h4] ba rfl
def ID(N:Nat)(J:AbC):Option (AbC×AbC×AbC×Bool):=
 (bif(decide ((J.length:Int) > 16))then some (([]:AbC),([]:AbC),([]:AbC),false)else((HC N J).bind fun G=>((bif((G.length:Int)==1)then((idx G 0).bind fun Y=>((FG N Y).bind fun Z=>some Z))else some false).bind fun h0=>(bif h0 then(((idx G 0).bind fun h1=>some h1).bind fun h2=>some (([]:AbC),h2,([]:AbC),true))else((bif((G.length:Int)==2)then((idx G 0).bind fun h3=>((HZ N h3).bind fun h4=>(bif h4 then((idx G 1).bind fun h5=>((FG N h5).bind fun h6=>(bif h6 then((idx G 0).bind fun h7=>((idx G 1).bind fun h8=>some (decide ((h7.length:Int) < (h8.length:Int)))))else some false)))else some false)))else some false).bind fun h9=>(bif h9 then(((idx G 0).bind fun ha=>((idx G 1).bind fun hb=>some (ha,hb))).bind fun M=>some (M.1,M.2,([]:AbC),true))else((bif((G.length:Int)==2)then((idx G 0).bind fun hc=>((FG N hc).bind fun hg=>(bif hg then((idx G 1).bind fun hh=>((Gk N hh).bind fun hm=>some hm))else some false)))else some false).bind fun hn=>(bif hn then(((idx G 0).bind fun ho=>((idx G 1).bind fun hp=>some (ho,hp))).bind fun O=>some (([]:AbC),O.1,O.2,true))else((bif((G.length:Int)==3)then((idx G 0).bind fun hq=>((HZ N hq).bind fun hr=>(bif hr then((idx G 1).bind fun ht=>((FG N ht).bind fun hu=>(bif hu then((idx G 2).bind fun hw=>((Gk N hw).bind fun hx=>some hx))else some false)))else some false)))else some false).bind fun hy=>(bif hy then(((idx G 0).bind fun hz=>((idx G 1).bind fun b0=>((idx G 2).bind fun b1=>some (hz,b0,b1)))).bind fun I=>some (I.1,I.2.1,I.2.2,true))else some (([]:AbC),([]:AbC),([]:AbC),false)))))))))))
theorem RQ(N:Nat)(w0:World)(F0:Mem)(hF:AbE w0 F0)(x0:AbC)(r:(AbC×AbC×AbC×Bool))(h:ID N x0=some r):
  Calls Tryz.prog 185 (lA [sv x0]) w0 (AE w0 F0 fun F' v=>v=(.tuple #[sv r.1,sv r.2.1,sv r.2.2.1,.bool r.2.2.2])):=by
 have hy:=Abj hF;refine Go 107 Tryz.func185<|sR (rG 4) ?_;refine Vs 4<|Nss<|sR [0,1,2] ?_;refine Vs 3<|Nt<|Cd h (fun bh bi=>?_) (fun bh bj=>?_)
 ·refine sR (rG 4) ?_;refine Vs 4<|Nt<|Rt<|Ad ?_;obtain rfl:=Aa bi;exact Re [sE,sE,sE,bF] hy rfl
 ·refine Sc ?_;refine Ab<|sR [0,1,2] ?_;refine Vs 1 ?_;obtain⟨M,bk,bl⟩:=bS bj;refine Cl' (cO 229) hy (Rk N w0 F0 hy.pers x0 _ bk) ?_;rintro _ F1 bm hp j4 ⟨hc,O,rfl,j5,Y⟩;refine Vs 1<|Nss<|sR (rG 9) ?_;obtain⟨bn,bo,bp⟩:=bS bl;refine Abn (fun f w=>∃(Z:Mem),HS w0 F0 w Z []/\Abh F1 Z/\FI f [] [(6,(sL hc M O)),(20,(.bool bn))]) ?_ ?_
  ·refine Vs 4 ?_;refine Sp bo (fun h0 bq=>?_) (fun h0 br=>?_)
   ·refine Vgs h0 1 ?_;obtain⟨bs,bt,bu⟩:=bS bq;obtain⟨bv,hx45'⟩:=Ag bt;obtain⟨j6,j7,j8,j9,ja,rfl,hF54,hE55⟩:=Abp Y hx45';have bw:=hE55 _ _ hx45';refine Ixg h0 bv<|Lxg h0 0 (hp.pers _ _ hF54) bw ?_;obtain⟨jb,bx,bz⟩:=bS bu;refine Cg h0 (cO 230) hp (HG N bm F1 hp.pers bs _ bx) ?_;rintro _ F3 jc c0 c1 rfl;refine Pk1 h0 ?_;obtain rfl:=Aa bz;exact Abd ⟨rfl,F3,c0,c1,fI⟩
   ·refine Ss h0 4 ?_;refine Pk0 h0 ?_;obtain rfl:=Aa br;exact Abd ⟨rfl,F1,hp,Abi _,fI⟩
  ·rintro f jd ⟨Z,b9,h8,⟨_,rfl⟩⟩;refine Ab<|Cd bp (fun c3 c4=>?_) (fun c3 c5=>?_)
   ·refine Sq ?_;obtain⟨ba,c6,c7⟩:=bS c4;refine RD 7 7 [] [] b9 (fun f w=>∃(F4:Mem),HS w0 F0 w F4 []/\Abh Z F4/\FI f [] [(2,sE),(3,(sv ba)),(4,sE),(5,bT)]) (fun je c8=>?_) ?_
    ·refine Dv [0] ?_;obtain⟨jf,c9,ca⟩:=bS c6;obtain⟨cb,hx83'⟩:=Ag c9;obtain⟨jg,jh,ji,jj,jk,rfl,hF92,hE93⟩:=Abp (Abk Y h8) hx83';have cc:=hE93 _ _ hx83';refine Di 1 cb<|Dx 2 0 (fun _ hq=>hq.1.1 _ _ hF92) cc<|Dv [3,4,5,6] ?_;obtain rfl:=Aa ca;exact Abu (by kernel_rfl) ⟨Z,c8,Abi _,fI⟩
    ·rintro f jl ⟨F4,cd,jm,⟨_,rfl⟩⟩;refine Ab<|Rt<|Ad ?_;obtain rfl:=Aa c7;exact Re [sE,sv ba,sE,bT] cd rfl
   ·refine Sc ?_;refine Ab<|Sq<|Sq ?_;obtain⟨ce,cf,cg⟩:=bS c5;refine RD 26 26 [] [] b9 (fun f w=>∃(F5:Mem),HS w0 F0 w F5 []/\Abh Z F5/\FI f [] [(6,(sL hc M O)),(49,(.bool ce))]) (fun ch hz=>?_) ?_
    ·refine Dvl [0,1,2,3] (tf 4 22) ?_;refine Sd cf (fun h1 ci=>?_) (fun h1 cj=>?_)
     ·refine Dgl 4 28 55 _ (tf 5 21) 3 true 27 h1 (fun _ hq=>mv 6 (sL hc M O)) ?_;obtain⟨b0,cl,cm⟩:=bS ci;obtain⟨cn,hx111'⟩:=Ag cl;obtain⟨I,J,jo,jp,jq,rfl,hF120,hE121⟩:=Abp (Abk Y h8) hx111';have co:=hE121 _ _ hx111';refine Dgl 5 29 0 (.pointer (some ⟨I,J + (0:Int).toNat * 1,none⟩)) (tf 6 20) 3 true 27 h1 (fun _ hq=>Ce (t:=55) (x:=(.tmp 28)) (y:=(.const (vi 0))) (b:=I) (o:=J) (E:=9) (s:=1) (by_:=16) rfl rfl (by kernel_rfl) cn)<|Dgl 6 30 9 _ (tf 7 19) 3 true 27 h1 (fun _ hq=>lx 9 29 0 1 false 1 (sv b0) (hq.1.1 _ _ hF120) co)<|D1 7 ?_;obtain⟨cp,cq,cr⟩:=bS cm;refine Abt (l':=[tt,tt,tt,tt,tt,tt,tt,tt,ff,ff,ff,ff,ff,ff,ff,ff,ff,ff,ff,ff,ff,ff,ff,ff,ff,ff]) (zd:=true) (by kernel_rfl) (by kernel_rfl) (by kernel_rfl) (dst:=(some 31)) (ty:=4) (g:=(some (3,true))) (by kernel_rfl) (J2 (d:=27) (by kernel_rfl) rfl h1) (f0:=(.func 231)) (aos:=#[.tmp 30]) (ats:=#[9]) (fid:=231) (first:=#[]) (cap:=#[]) (args:=[sv b0]) rfl (cO 231) rfl hz (Od N ch Z hz.pers b0 _ cq) ?_;rintro _ F6 ct b1 b2 rfl;refine Dtl 8 32 4 _ (tf 9 17) (fun _ hq=>p1 27 (.tmp 31) (.const bF) (.bool cp) h1)<|Dvl [9] (tf 10 16)<|Sd cr (fun h2 cu=>?_) (fun h2 cv=>?_)
      ·refine Dgl 10 34 55 _ (tf 11 15) 9 true 33 h2 (fun _ hq=>mv 6 (.slice (some ⟨I,J,none⟩) M.length O)) ?_;obtain⟨b3,cw,cx⟩:=bS cu;obtain⟨cy,hx136'⟩:=Ag cw;have cz:=hE121 _ _ hx136';refine Dgl 11 35 0 (.pointer (some ⟨I,J + (1:Int).toNat * 1,none⟩)) (tf 12 14) 9 true 33 h2 (fun _ hq=>Ce (t:=55) (x:=(.tmp 34)) (y:=(.const (vi 1))) (b:=I) (o:=J) (E:=9) (s:=1) (by_:=16) rfl rfl (by kernel_rfl) cy)<|Dgl 12 36 9 _ (tf 13 13) 9 true 33 h2 (fun _ hq=>lx 9 35 0 1 false 1 (sv b3) (hq.1.1 _ _ hF120) cz)<|D1 13 ?_;obtain⟨d0,d1,d2⟩:=bS cx;refine Abt (l':=[tt,tt,tt,tt,tt,tt,tt,tt,tt,tt,tt,tt,tt,tt,ff,ff,ff,ff,ff,ff,ff,ff,ff,ff,ff,ff]) (zd:=true) (by kernel_rfl) (by kernel_rfl) (by kernel_rfl) (dst:=(some 37)) (ty:=4) (g:=(some (9,true))) (by kernel_rfl) (J2 (d:=33) (by kernel_rfl) rfl h2) (f0:=(.func 230)) (aos:=#[.tmp 36]) (ats:=#[9]) (fid:=230) (first:=#[]) (cap:=#[]) (args:=[sv b3]) rfl (cO 230) rfl b1 (HG N ct F6 b1.pers b3 _ d1) ?_;rintro _ F7 jr bb bc rfl;refine Dtl 14 38 4 _ (tf 15 11) (fun _ hq=>p1 33 (.tmp 37) (.const bF) (.bool d0) h2)<|Dvl [15] (tf 16 10)<|Sd d2 (fun G d3=>?_) (fun G d4=>?_)
       ·refine Dgl 16 40 55 _ (tf 17 9) 15 true 39 G (fun _ hq=>mv 6 (.slice (some ⟨I,J,none⟩) M.length O)) ?_;obtain⟨h9,d6,d7⟩:=bS d3;obtain⟨d8,hx153'⟩:=Ag d6;have d9:=hE121 _ _ hx153';refine Dgl 17 41 0 (.pointer (some ⟨I,J + (0:Int).toNat * 1,none⟩)) (tf 18 8) 15 true 39 G (fun _ hq=>Ce (t:=55) (x:=(.tmp 40)) (y:=(.const (vi 0))) (b:=I) (o:=J) (E:=9) (s:=1) (by_:=16) rfl rfl (by kernel_rfl) d8)<|Dgl 18 42 9 _ (tf 19 7) 15 true 39 G (fun _ hq=>lx 9 41 0 1 false 1 (sv h9) (hq.1.1 _ _ hF120) d9)<|Dgl 19 43 3 (vi (h9.length:Int)) (tf 20 6) 15 true 39 G (fun _ hq=>Jl (x:=(.tmp 42)) (ats:=#[9]) (t:=9) (a:=h9) rfl rfl (by kernel_rfl))<|Dgl 20 44 55 _ (tf 21 5) 15 true 39 G (fun _ hq=>mv 6 (.slice (some ⟨I,J,none⟩) M.length O)) ?_;obtain⟨ha,da,db⟩:=bS d7;obtain⟨dc,hx159'⟩:=Ag da;have dd:=hE121 _ _ hx159';refine Dgl 21 45 0 (.pointer (some ⟨I,J + (1:Int).toNat * 1,none⟩)) (tf 22 4) 15 true 39 G (fun _ hq=>Ce (t:=55) (x:=(.tmp 44)) (y:=(.const (vi 1))) (b:=I) (o:=J) (E:=9) (s:=1) (by_:=16) rfl rfl (by kernel_rfl) dc)<|Dgl 22 46 9 _ (tf 23 3) 15 true 39 G (fun _ hq=>lx 9 45 0 1 false 1 (sv ha) (hq.1.1 _ _ hF120) dd)<|Dgl 23 47 3 (vi (ha.length:Int)) (tf 24 2) 15 true 39 G (fun _ hq=>Jl (x:=(.tmp 46)) (ats:=#[9]) (t:=9) (a:=ha) rfl rfl (by kernel_rfl))<|Dgl 24 48 4 (.bool (decide ((h9.length:Int) < (ha.length:Int)))) (tf 25 1) 15 true 39 G (fun _ hq=>LJ (t:=3) (t':=3) (x:=(.tmp 43)) (y:=(.tmp 47)) (k:=.i64) (a:=(h9.length:Int)) (b:=(ha.length:Int)) rfl rfl)<|Dtl 25 49 4 _ (tf 26 0) (fun _ hq=>p1 39 (.tmp 48) (.const bF) (.bool (decide ((h9.length:Int) < (ha.length:Int)))) G) ?_;obtain rfl:=Aa db;exact Abu (by kernel_rfl) ⟨F7,bb,b2.t bc,fI⟩
       ·refine Dkl [(16,40),(17,41),(18,42),(19,43),(20,44),(21,45)] 15 true 39 G (tf 22 4) ?_;refine Dkl [(22,46),(23,47),(24,48)] 15 true 39 G (tf 25 1)<|Dtl 25 49 4 _ (tf 26 0) (fun _ hq=>p0 39 (.tmp 48) (.const bF) bF G) ?_;obtain rfl:=Aa d4;exact Abu (by kernel_rfl) ⟨F7,bb,b2.t bc,fI⟩
      ·refine Dkl [(10,34),(11,35),(12,36),(13,37)] 9 true 33 h2 (tf 14 12) ?_;refine Dtl 14 38 4 _ (tf 15 11) (fun _ hq=>p0 33 (.tmp 37) (.const bF) bF h2)<|Dvl [15] (tf 16 10)<|Dkl [(16,40),(17,41),(18,42),(19,43),(20,44),(21,45)] 15 true 39 rfl (tf 22 4)<|Dkl [(22,46),(23,47),(24,48)] 15 true 39 rfl (tf 25 1)<|Dtl 25 49 4 _ (tf 26 0) (fun _ hq=>p0 39 (.tmp 48) (.const bF) bF rfl) ?_;obtain rfl:=Aa cv;exact Abu (by kernel_rfl) ⟨F6,b1,b2,fI⟩
     ·refine Dkl [(4,28),(5,29),(6,30),(7,31)] 3 true 27 h1 (tf 8 18) ?_;refine Dtl 8 32 4 _ (tf 9 17) (fun _ hq=>p0 27 (.tmp 31) (.const bF) bF h1)<|Dvl [9] (tf 10 16)<|Dkl [(10,34),(11,35),(12,36),(13,37)] 9 true 33 rfl (tf 14 12)<|Dtl 14 38 4 _ (tf 15 11) (fun _ hq=>p0 33 (.tmp 37) (.const bF) bF rfl)<|Dvl [15] (tf 16 10)<|Dkl [(16,40),(17,41),(18,42),(19,43),(20,44),(21,45)] 15 true 39 rfl (tf 22 4)<|Dkl [(22,46),(23,47),(24,48)] 15 true 39 rfl (tf 25 1)<|Dtl 25 49 4 _ (tf 26 0) (fun _ hq=>p0 39 (.tmp 48) (.const bF) bF rfl) ?_;obtain rfl:=Aa cj;exact Abu (by kernel_rfl) ⟨Z,hz,Abi _,fI⟩
    ·rintro f de ⟨F5,hg,hh,⟨_,rfl⟩⟩;refine Ab<|Cd cg (fun df dg=>?_) (fun df dh=>?_)
     ·refine Sq ?_;obtain⟨hr,di,dj⟩:=bS dg;refine RD 10 10 [] [] hg (fun f w=>∃(F8:Mem),HS w0 F0 w F8 []/\Abh F5 F8/\FI f [] [(2,(sv hr.1)),(3,(sv hr.2)),(4,sE),(5,bT)]) (fun js dk=>?_) ?_
      ·refine Dv [0] ?_;obtain⟨jt,dl,dm⟩:=bS di;obtain⟨dn,hx181'⟩:=Ag dl;obtain⟨ju,jv,jw,jx,jy,rfl,hF190,hE191⟩:=Abp (Abk Y (h8.t hh)) hx181';have dp:=hE191 _ _ hx181';refine Di 1 dn<|Dx 2 0 (fun _ hq=>hq.1.1 _ _ hF190) dp<|Dv [3] ?_;obtain⟨jz,dq,dr⟩:=bS dm;obtain⟨ds,hx195'⟩:=Ag dq;have dt:=hE191 _ _ hx195';refine Di 4 ds<|Dx 5 0 (fun _ hq=>hq.1.1 _ _ hF190) dt<|Dv [6,7,8,9] ?_;obtain rfl:=Aa dr;exact Abu (by kernel_rfl) ⟨F5,dk,Abi _,fI⟩
      ·rintro f k0 ⟨F8,du,k1,⟨_,rfl⟩⟩;refine Ab<|Rt<|Ad ?_;obtain rfl:=Aa dj;exact Re [sv hr.1,sv hr.2,sE,bT] du rfl
     ·refine Sc ?_;refine Ab<|Sq<|sR (rG 15) ?_;obtain⟨dv,dw,dx⟩:=bS dh;refine Abn (fun f w=>∃(F9:Mem),HS w0 F0 w F9 []/\Abh F5 F9/\FI f [] [(6,(sL hc M O)),(70,(.bool dv))]) ?_ ?_
      ·refine Vs 4 ?_;refine Sp dw (fun h3 dy=>?_) (fun h3 dz=>?_)
       ·refine Vgs h3 1 ?_;obtain⟨e0,e1,e2⟩:=bS dy;obtain⟨e3,hx213'⟩:=Ag e1;obtain⟨k2,k3,k4,k5,k6,rfl,hF222,hE223⟩:=Abp (Abk Y (h8.t hh)) hx213';have e4:=hE223 _ _ hx213';refine Ixg h3 e3<|Lxg h3 0 (hg.pers _ _ hF222) e4 ?_;obtain⟨k7,e6,e7⟩:=bS e2;refine Cg h3 (cO 230) hg (HG N de F5 hg.pers e0 _ e6) ?_;rintro _ bd e8 ht b4 rfl;refine Pk1 h3<|Vs 1<|Sp e7 (fun h4 e9=>?_) (fun h4 ea=>?_)
        ·refine Vgs h4 1 ?_;obtain⟨eb,ec,ed⟩:=bS e9;obtain⟨ee,hx238'⟩:=Ag ec;have ef:=hE223 _ _ hx238';refine Ixg h4 ee<|Lxg h4 0 (ht.pers _ _ (b4 _ _ hF222)) ef ?_;obtain⟨k8,eg,eh⟩:=bS ed;refine Cg h4 (cO 232) ht (Lp N e8 bd ht.pers eb _ eg) ?_;rintro _ ei k9 ej ek rfl;refine Pk1 h4 ?_;obtain rfl:=Aa eh;exact Abd ⟨rfl,ei,ej,b4.t ek,fI⟩
        ·refine Ss h4 4 ?_;refine Pk0 h4 ?_;obtain rfl:=Aa ea;exact Abd ⟨rfl,bd,ht,b4,fI⟩
       ·refine Ss h3 4 ?_;refine Pk0 h3<|Vs 1<|Ss rF 4<|Pk0 rF ?_;obtain rfl:=Aa dz;exact Abd ⟨rfl,F5,hg,Abi _,fI⟩
      ·rintro f el ⟨F9,hm,b5,⟨_,rfl⟩⟩;refine Ab<|Cd dx (fun en eo=>?_) (fun en ep=>?_)
       ·refine Sq ?_;obtain⟨hu,er,et⟩:=bS eo;refine RD 10 10 [] [] hm (fun f w=>∃(b6:Mem),HS w0 F0 w b6 []/\Abh F9 b6/\FI f [] [(2,sE),(3,(sv hu.1)),(4,(sv hu.2)),(5,bT)]) (fun ka eu=>?_) ?_
        ·refine Dv [0] ?_;obtain⟨kb,ev,ew⟩:=bS er;obtain⟨ex,hx268'⟩:=Ag ev;obtain⟨kc,kd,ke,kf,kg,rfl,hF277,hE278⟩:=Abp (Abk Y ((h8.t hh).trans b5)) hx268';have ey:=hE278 _ _ hx268';refine Di 1 ex<|Dx 2 0 (fun _ hq=>hq.1.1 _ _ hF277) ey<|Dv [3] ?_;obtain⟨kh,ez,g0⟩:=bS ew;obtain⟨g1,hx282'⟩:=Ag ez;have g2:=hE278 _ _ hx282';refine Di 4 g1<|Dx 5 0 (fun _ hq=>hq.1.1 _ _ hF277) g2<|Dv [6,7,8,9] ?_;obtain rfl:=Aa g0;exact Abu (by kernel_rfl) ⟨F9,eu,Abi _,fI⟩
        ·rintro f ki ⟨b6,g3,kj,⟨_,rfl⟩⟩;refine Ab<|Rt<|Ad ?_;obtain rfl:=Aa et;exact Re [sE,sv hu.1,sv hu.2,bT] g3 rfl
       ·refine Sc ?_;refine Ab<|Sq<|sR (rG 21) ?_;obtain⟨g4,g5,g6⟩:=bS ep;refine Abn (fun f w=>∃(hn:Mem),HS w0 F0 w hn []/\Abh F9 hn/\FI f [] [(6,(sL hc M O)),(97,(.bool g4))]) ?_ ?_
        ·refine Vs 4 ?_;refine Sp g5 (fun h5 g7=>?_) (fun h5 g8=>?_)
         ·refine Vgs h5 1 ?_;obtain⟨g9,ga,gh⟩:=bS g7;obtain⟨gi,hx300'⟩:=Ag ga;obtain⟨kl,km,kn,ko,kp,rfl,hF309,hE310⟩:=Abp (Abk Y ((h8.t hh).trans b5)) hx300';have gk:=hE310 _ _ hx300';refine Ixg h5 gi<|Lxg h5 0 (hm.pers _ _ hF309) gk ?_;obtain⟨kr,gl,gm⟩:=bS gh;refine Cg h5 (cO 231) hm (Od N el F9 hm.pers g9 _ gl) ?_;rintro _ be gn hw ho rfl;refine Pk1 h5<|Vs 1<|Sp gm (fun h6 go=>?_) (fun h6 gp=>?_)
          ·refine Vgs h6 1 ?_;obtain⟨gr,gs,gu⟩:=bS go;obtain⟨gv,hx325'⟩:=Ag gs;have gw:=hE310 _ _ hx325';refine Ixg h6 gv<|Lxg h6 0 (hw.pers _ _ (ho _ _ hF309)) gw ?_;obtain⟨ks,gx,gy⟩:=bS gu;refine Cg h6 (cO 230) hw (HG N gn be hw.pers gr _ gx) ?_;rintro _ bf gz hx b7 rfl;refine Pk1 h6<|Vs 1<|Sp gy (fun h7 i0=>?_) (fun h7 i1=>?_)
           ·refine Vgs h7 1 ?_;obtain⟨i2,i3,i4⟩:=bS i0;obtain⟨i5,hx342'⟩:=Ag i3;have i6:=hE310 _ _ hx342';refine Ixg h7 i5<|Lxg h7 0 (hx.pers _ _ ((ho.t b7) _ _ hF309)) i6 ?_;obtain⟨kt,i7,i8⟩:=bS i4;refine Cg h7 (cO 232) hx (Lp N gz bf hx.pers i2 _ i7) ?_;rintro _ i9 ku ia ib rfl;refine Pk1 h7 ?_;obtain rfl:=Aa i8;exact Abd ⟨rfl,i9,ia,(ho.t b7).trans ib,fI⟩
           ·refine Ss h7 4 ?_;refine Pk0 h7 ?_;obtain rfl:=Aa i1;exact Abd ⟨rfl,bf,hx,ho.t b7,fI⟩
          ·refine Ss h6 4 ?_;refine Pk0 h6<|Vs 1<|Ss rF 4<|Pk0 rF ?_;obtain rfl:=Aa gp;exact Abd ⟨rfl,be,hw,ho,fI⟩
         ·refine Ss h5 4 ?_;refine Pk0 h5<|Vs 1<|Ss rF 4<|Pk0 rF<|Vs 1<|Ss rF 4<|Pk0 rF ?_;obtain rfl:=Aa g8;exact Abd ⟨rfl,F9,hm,Abi _,fI⟩
        ·rintro f kw ⟨hn,bg,ic,⟨_,rfl⟩⟩;refine Ab<|Cd g6 (fun ie ig=>?_) (fun ie ii=>?_)
         ·refine Sq ?_;obtain⟨hb,ij,ik⟩:=bS ig;refine RD 13 13 [] [] bg (fun f w=>∃(b8:Mem),HS w0 F0 w b8 []/\Abh hn b8/\FI f [] [(2,(sv hb.1)),(3,(sv hb.2.1)),(4,(sv hb.2.2)),(5,bT)]) (fun ky io=>?_) ?_
          ·refine Dv [0] ?_;obtain⟨kz,ip,iq⟩:=bS ij;obtain⟨ir,hx372'⟩:=Ag ip;obtain⟨l0,l1,l2,l3,l4,rfl,hF381,hE382⟩:=Abp (Abk Y (((h8.t hh).trans b5).trans ic)) hx372';have it:=hE382 _ _ hx372';refine Di 1 ir<|Dx 2 0 (fun _ hq=>hq.1.1 _ _ hF381) it<|Dv [3] ?_;obtain⟨l5,iu,iv⟩:=bS iq;obtain⟨iw,hx386'⟩:=Ag iu;have iy:=hE382 _ _ hx386';refine Di 4 iw<|Dx 5 0 (fun _ hq=>hq.1.1 _ _ hF381) iy<|Dv [6] ?_;obtain⟨l6,iz,j0⟩:=bS iv;obtain⟨j1,hx392'⟩:=Ag iz;have j2:=hE382 _ _ hx392';refine Di 7 j1<|Dx 8 0 (fun _ hq=>hq.1.1 _ _ hF381) j2<|Dv [9,10,11,12] ?_;obtain rfl:=Aa j0;exact Abu (by kernel_rfl) ⟨hn,io,Abi _,fI⟩
          ·rintro f l7 ⟨b8,j3,l8,⟨_,rfl⟩⟩;refine Ab<|Rt<|Ad ?_;obtain rfl:=Aa ik;exact Re [sv hb.1,sv hb.2.1,sv hb.2.2,bT] j3 rfl
         ·refine Sc ?_;refine Ab<|sR (rG 4) ?_;refine Vs 4<|Nt<|Rt ?_;obtain rfl:=Aa ii;exact Re [sE,sE,sE,bF] bg rfl
def Ef(N:Nat)(G:AbC):Option Bool:=
 ((ID N G).bind fun I=>some I.2.2.2)
theorem IX(N:Nat)(w0:World)(F0:Mem)(hF:AbE w0 F0)(G:AbC)(r:Bool)(h:Ef N G=some r):
  Calls Tryz.prog 144 (lA [sv G]) w0 (AE w0 F0 fun F' v=>v=(.bool r)):=by
 have I:=Abj hF;refine Go 15 Tryz.func144<|sR [0] ?_;refine Vs 1<|Nss (Rg (rG 11) ?_);refine Vs 1 ?_;obtain⟨J,M,O⟩:=bS h;refine Cl' (cO 185) I (RQ N w0 F0 I.pers G _ M) ?_;rintro _ F1 h0 Y h1 rfl;refine Vs 9<|Nss (Rg [0,1] ?_);refine Vs 2<|Nt<|Rt ?_;obtain rfl:=Aa O;exact Re [.bool J.2.2.2] Y rfl
def BN(N:Nat)(I:(List Line))(J:Int)(M:(Line->Int->Option Int)):(Int×Int)->Option (A4 (Int×Bool) (Int×Int)):=fun G=>
 (bif(decide (G.1 < G.2))then((idx I (W64 (Int.fdiv (IntKind.u64.wrap (W64 (G.1 + G.2))) (2 ^ min (1:Int).toNat IntKind.u64.bits)))).bind fun O=>((M O J).bind fun Y=>(bif(decide (Y < 0))then none else some (.next (G.1,(W64 (Int.fdiv (IntKind.u64.wrap (W64 (G.1 + G.2))) (2 ^ min (1:Int).toNat IntKind.u64.bits))))))))else some (.done (G.1,G.2)))
def BZ(N:Nat)(G:(List Line))(J:Int)(M:(Line->Int->Option Int)):Option (Int×Bool):=
 ((AF (BN N G J M) N (0,(G.length:Int))).bind fun o=>o.k (fun r=>some r) (fun I=>(bif(decide (I.1 < (G.length:Int)))then((idx G I.1).bind fun O=>((M O J).bind fun Y=>some (I.1,(Y==0))))else none)))
theorem Dy(N:Nat)(w0:World)(F0:Mem)(hF:AbE w0 F0)(I:(List Line))(h0:AbD)(h1:Nat)(bm:LC I.length h1)(h7:SlA A0 F0 h0 I)(J:Int)(Z:FuncId)(O Y:List Value)(x2:Line->Int->Option Int)(h8:Ah Tryz.prog Z)(h9:V6 F0 Z O Y x2)(r:(Int×Bool))(h:BZ N I J x2=some r):
  Calls Tryz.prog 252 (lA [sL h0 I h1,vi J,.func (.func Z) O.toArray Y.toArray]) w0 (AE w0 F0 fun F' v=>v=(.tuple #[vi r.1,.bool r.2])):=by
 have hg:=Abj hF;refine Go 49 Tryz.func252<|sR [0,1] ?_;refine Vs 2<|Nss (Rg [0,1,2] ?_);refine Vs 3<|Nss (Rg [0,1,2] ?_);refine Vs 3<|Nss ?_;obtain⟨ha,hh,hm⟩:=bS h;refine Abo (fun f w=>∃(h2:(Int×Int))(F2:Mem),ha=.done h2/\HS w0 F0 w F2 []/\Abh F0 F2/\FI f [] [(0,(sL h0 I h1)),(1,(vi J)),(2,(.func (.func Z) O.toArray Y.toArray)),(8,(vi (I.length:Int))),(9,(vi h2.1))]) ?_ ?_
 ·refine Bk ?_;refine Abg (by kernel_rfl) (fun m f w=>∃(G:(Int×Int))(F1:Mem),AF (BN N I J x2) m G=some ha/\HS w0 F0 w F1 []/\Abh F0 F1/\FI f [] [(0,(sL h0 I h1)),(1,(vi J)),(2,(.func (.func Z) O.toArray Y.toArray)),(8,(vi (I.length:Int))),(9,(vi G.1)),(10,(vi G.2))]) N ⟨(0,(I.length:Int)),F0,hh,hg,Abi _,fI⟩ ?_;rintro bn f hn ⟨G,F1,ho,h3,h4,⟨_,rfl⟩⟩;obtain⟨hp,bo,rfl,hq,hb⟩:=AB ho;refine Sq<|sR [0,1,2] ?_;refine Vs 3<|Nt<|Cd hq (fun hr ht=>?_) (fun hr hu=>?_)
  ·refine Sc ?_;refine Ab<|Bk<|sR (rG 7) ?_;refine Vs 4<|V 22 222 (Yz (t:=222) (t':=222) (x:=(.tmp 21)) (y:=(.const (.int .u64 1))) (k:=.u64) (q:=.u64) (a:=(IntKind.u64.wrap (W64 (G.1 + G.2)))) (b:=1) rfl rfl (by decide))<|Vs 2<|Nss (Rg (rG 8) ?_);refine Vs 3 ?_;obtain⟨hw,hx,hy⟩:=bS ht;obtain⟨hz,hx55'⟩:=Ag hx;obtain⟨bp,bq,br,bs,bt,rfl,hF64,hE65⟩:=Abp (Abk h7 h4) hx55';have b0:=hE65 _ _ hx55';refine Ix hz<|Lx 0 (h3.pers _ _ hF64) b0<|Vs 1 ?_;obtain⟨bu,b1,b2⟩:=bS hy;refine Cq h8 h3 (h9 hn F1 hw J _ h4 h3.pers b1) ?_;rintro _ F3 bv b3 b4 rfl;refine Vs 1<|Nt<|Cd b2 (fun b5 b6=>?_) (fun b5 b7=>?_)
   ·cases b6
   ·refine Rg [0,1] ?_;refine Vs 2<|Abd<|Am ?_;have b8:=Ax b7 hb;exact⟨hp,Nat.lt_succ_self _,(G.1,(W64 (Int.fdiv (IntKind.u64.wrap (W64 (G.1 + G.2))) (2 ^ min (1:Int).toNat IntKind.u64.bits)))),F3,b8,b3,h4.t b4,fI⟩
  ·refine Ex ?_;refine Ak<|Ak<|Au rfl ?_;have b9:=Az hu hb;exact .inl ⟨rfl,(G.1,G.2),F1,b9,h3,h4,fI⟩
 ·rintro f ba ⟨h2,F2,rfl,h5,hc,⟨_,rfl⟩⟩;have bb:=AY hm;refine Ab<|sR (rG 16) ?_;refine Vs 5<|Sp bb (fun M bc=>?_) (fun M bd=>?_)
  ·refine Vgs M 3 ?_;obtain⟨h6,be,bf⟩:=bS bc;obtain⟨bg,hx86'⟩:=Ag be;obtain⟨bw,bx,bz,c0,c1,rfl,hF95,hE96⟩:=Abp (Abk h7 hc) hx86';have bh:=hE96 _ _ hx86';refine Ixg M bg<|Lxg M 0 (h5.pers _ _ hF95) bh<|Vgs M 1 ?_;obtain⟨bi,bj,bk⟩:=bS bf;refine RWP.call (dst:=(some 46)) (ty:=3) (g:=(some (4,true))) (by kernel_rfl) (J2 (d:=39) (by kernel_rfl) rfl M) (f0:=(.tmp 40)) (aos:=#[.tmp 44,.tmp 45]) (ats:=#[34,3]) (fid:=Z) (first:=O.toArray) (cap:=Y.toArray) (args:=(O++(([.agg (Cr h6),vi J]:List Value)++Y))) rfl h8 (FX (l:=[.agg (Cr h6),vi J]) (fi:=O) (k:=Y) rfl) h5 (h9 ba F2 h6 J _ hc h5.pers bj) ?_;rintro _ F4 c3 bl c4 rfl;refine Vgs M 1<|Pk1 M<|Vs 2<|Nt<|Rt ?_;obtain rfl:=Aa bk;exact Re [vi h2.1,.bool (bi==0)] bl rfl
  ·cases bd
def Jg(N:Nat)(G:Int):Option Bool:=
 some (G !=G)
theorem KA(N:Nat)(w0:World)(F0:Mem)(hF:AbE w0 F0)(G:Int)(r:Bool)(h:Jg N G=some r):
  Calls Tryz.prog 281 (lA [vi G]) w0 (AE w0 F0 fun F' v=>v=(.bool r)):=by
 have I:=Abj hF;refine Go 6 Tryz.func281<|sR [0] ?_;refine Vs 1<|Nss (Rg (rG 4) ?_);refine Vs 4<|Nt<|Rt ?_;obtain rfl:=Aa h;exact Re [.bool (G !=G)] I rfl
def Kx(N:Nat)(G I:Int):Option Int:=
 ((Jg N G).bind fun J=>((Jg N I).bind fun M=>(bif J then none else(bif M then none else(bif(decide (G < I))then none else(bif(decide (G > I))then none else some 0))))))
theorem Oj(N:Nat)(w0:World)(F0:Mem)(hF:AbE w0 F0)(G I r:Int)(h:Kx N G I=some r):
  Calls Tryz.prog 254 (lA [vi G,vi I]) w0 (AE w0 F0 fun F' v=>v=(vi r)):=by
 have J:=Abj hF;refine Go 20 Tryz.func254<|sR [0] ?_;refine Vs 1<|Nss (Rg [0,1,2] ?_);refine Vs 1 ?_;obtain⟨hm,O,Y⟩:=bS h;refine Cl' (cO 281) J (KA N w0 F0 J.pers G _ O) ?_;rintro _ F1 Z M hn rfl;refine Vs 1<|Nss (Rg [0,1,2] ?_);refine Vs 1 ?_;obtain⟨ho,h0,h1⟩:=bS Y;refine Cl' (cO 281) M (KA N Z F1 M.pers I _ h0) ?_;rintro _ F2 hp h2 hq rfl;refine Vs 1<|Nss<|sR [0] ?_;refine Vs 1<|Nt<|Cd h1 (fun h3 h4=>?_) (fun h3 h5=>?_)
 ·cases h4
 ·refine Sc ?_;refine Ab<|Sq<|sR [0] ?_;refine Vs 1<|Nt<|Cd h5 (fun h6 h7=>?_) (fun h6 h8=>?_)
  ·cases h7
  ·refine Sc ?_;refine Ab<|Sq<|sR [0,1,2] ?_;refine Vs 3<|Nt<|Cd h8 (fun h9 ha=>?_) (fun h9 hb=>?_)
   ·cases ha
   ·refine Sc ?_;refine Ab<|Sq<|sR [0,1,2] ?_;refine Vs 3<|Nt<|Cd hb (fun hc hg=>?_) (fun hc hh=>?_)
    ·cases hg
    ·refine Sc ?_;refine Ab<|sR [0] ?_;refine Vs 1<|Nt<|Rt ?_;obtain rfl:=Aa hh;exact Re [vi 0] h2 rfl

end Go.Proofs.YthljkpeimofbbaaGreatDoor
namespace Go.Proofs.YthljkpeimofbbaaGreatDoor
def isL(b:UInt8):Bool:=decide (65<=b.toNat)&&decide (b.toNat<=90)
def isD(b:UInt8):Bool:=decide (48<=b.toNat)&&decide (b.toNat<=57)
def isE(b:UInt8):Bool:=isL b||isD b
theorem XR{b:UInt8}(h:128<=b.toNat):isL b=false:=by unfold isL;simp;omega
theorem XS{b:UInt8}(h:128<=b.toNat):isD b=false:=by unfold isD;simp;omega
theorem Aad{b:UInt8}(h:128<=b.toNat):isE b=false:=by unfold isE;rw[XR h,XS h];rfl
theorem SX{b:UInt8}(h:isE b=true):b.toNat < 128:=by unfold isE isL isD at h;simp at h;omega
theorem Aa3{b:UInt8}(h:isL b=true):isD b=false:=by unfold isL at h;unfold isD;simp at h ⊢;omega
theorem TU(N:Nat)(b:UInt8):Cx N (b.toNat:Int)=some (isL b):=by
 unfold Cx isL;congr 2 <;> (rw[decide_eq_decide];omega)
theorem VL(N:Nat)(b:UInt8):BL N (b.toNat:Int)=some (isD b):=by
 unfold BL isD;congr 2 <;> (rw[decide_eq_decide];omega)
theorem Sg(N:Nat)(b:UInt8):Gm N (b.toNat:Int)=some (isL b):=by
 unfold Gm isL;congr 2 <;> (rw[decide_eq_decide];omega)
theorem Nn(N:Nat)(b:UInt8):EK N (b.toNat:Int)=some (isD b):=by
 unfold EK isD;congr 2 <;> (rw[decide_eq_decide];omega)
theorem Nq(N:Nat){n:Nat}(h:128<=n):Cx N (n:Int)=some false:=by
 unfold Cx;have:decide ((n:Int)<=90)=false:=by rw[decide_eq_false_iff_not];omega
 rw[this,Bool.and_false]
theorem Pf(N:Nat){n:Nat}(h:128<=n):BL N (n:Int)=some false:=by
 unfold BL;have:decide ((n:Int)<=57)=false:=by rw[decide_eq_false_iff_not];omega
 rw[this,Bool.and_false]
theorem Xx(N:Nat)(b:UInt8):EY N (b.toNat:Int)=some (isE b):=by
 unfold EY isE;rw[TU,VL];cases isL b <;> rfl
theorem SU(N:Nat){n:Nat}(h:128<=n):EY N (n:Int)=some false:=by
 unfold EY;rw[Nq N h,Pf N h];rfl
theorem Qt(N:Nat)(a b c:Int):Io N a b c=some (decide (b<=a)&&decide (a<=c)):=rfl
theorem HM(N:Nat)(a b c:Int):Do N a b c=some (decide (b<=a)&&decide (a<=c)):=rfl
structure It(p:Int->Option Bool)(P:UInt8->Bool):Prop where
 lo:∀ b:UInt8,b.toNat < 128->p (b.toNat:Int)=some (P b)
 hi:∀ n:Nat,128<=n->p (n:Int)=some false
 big:∀ b:UInt8,128<=b.toNat->P b=false
theorem Xh(N:Nat):It (fun G=>Cx N G) isL:=⟨fun b _=>TU N b,fun _ h=>Nq N h,fun _ h=>XR h⟩
theorem VB(N:Nat):It (fun G=>BL N G) isD:=⟨fun b _=>VL N b,fun _ h=>Pf N h,fun _ h=>XS h⟩
theorem AaH(N:Nat):It (fun G=>EY N G) isE:=⟨fun b _=>Xx N b,fun _ h=>SU N h,fun _ h=>Aad h⟩
theorem It.some{p:Int->Option Bool}{P:UInt8->Bool}(h:It p P)(n:Nat):(p (n:Int)).isSome=true:=by
 rcases Nat.lt_or_ge n 128 with h' | h'
 ·have:=h.lo (UInt8.ofNat n) (by rw[UInt8.toNat_ofNat'];omega);have e:(UInt8.ofNat n).toNat=n:=by rw[UInt8.toNat_ofNat'];omega
  rw[e]at this;rw[this];rfl
 ·rw[h.hi n h'];rfl
theorem It.all{p:Int->Option Bool}{P:UInt8->Bool}(h:It p P):Nk p=true:=KR.2 fun n _=>h.some n
theorem Jq{p:Int->Option Bool}{P:UInt8->Bool}(hp:It p P){N:Nat}(s:AbC)(most:Int)(hN:s.length < N):
  Hn N s most p=some (s.all P&&(decide (1<=(s.length:Int))&&decide ((s.length:Int)<=most))):=by
 have key:=B9 (body:=Hm N s most p) s.length (fun i (st:Nat)=>st=i/\(s.take i).all P=true)
  (fun o=>(s.all P=true/\o=.done s.length)\/(s.all P=false/\o=.ret false)) (by
   rintro i st hi ⟨rfl,hall⟩;by_cases h:st < s.length
   ·have hget:s[st]? =some s[st]:=List.getElem?_eq_getElem h;unfold Hm;simp only[h,decide_true,cT];have htake:s.take (st + 1)=s.take st++[s[st]]:=by rw[List.take_add_one,hget];rfl
    have hfalse:P s[st]=false->s.all P=false:=fun hP=>by
     rw[List.all_eq_false];exact⟨s[st],List.getElem_mem h,by rw[hP];simp⟩
    rcases Nat.lt_or_ge s[st].toNat 128 with hb | hb
    ·rw[Qb hget hb,hp.lo _ hb];simp only[oS];cases hP:P s[st]with
     | true=>exact .inl ⟨st + 1,rfl,⟨rfl,by rw[htake,List.all_append,hall];simp[hP]⟩,trivial⟩
     | false=>exact .inr ⟨.ret false,rfl,(fun _ e=>by cases e),.inr ⟨hfalse hP,rfl⟩⟩
    ·have hs:=Uz hget hb;rw[hp.hi _ hs.1];simp only[oS];exact .inr ⟨.ret false,rfl,(fun _ e=>by cases e),.inr ⟨hfalse (hp.big _ hb),rfl⟩⟩
   ·have:st=s.length:=by omega
    subst this;unfold Hm;simp only[Nat.lt_irrefl,decide_false,cF];exact .inr ⟨_,rfl,(fun _ e=>by cases e),.inl ⟨by simpa using hall,rfl⟩⟩) s.length N 0 0 (by omega) ⟨rfl,rfl⟩ hN
 obtain⟨o,ho,hR⟩:=key;unfold Hn;rw[ho];rcases hR with⟨G,rfl⟩ | ⟨G,rfl⟩
 ·simp only[oS,A4.k,Qt,G,Bool.true_and]
 ·simp only[oS,A4.k,G,Bool.false_and]
theorem Sa{p:Int->Option Bool}{P:UInt8->Bool}(hp:It p P){b:UInt8}(h:b.toNat < 128):Hr p b.toNat=P b:=by unfold Hr;rw[hp.lo b h];rfl
theorem NO{p:Int->Option Bool}{P:UInt8->Bool}(hp:It p P)(s:AbC)(ha:∀ b,b∈s->b.toNat < 128):∀(f i:Nat),s.length<=i + f->i<=s.length->
  (0<=Go.Lib.idxFuncFrom (Hr p) true ⟨s.toArray⟩ f i ↔ (s.drop i).any P=true)
 | 0,i,G,I=>by
  have:i=s.length:=by omega
  subst this;simp[Go.Lib.idxFuncFrom]
 | f + 1,i,G,I=>by
  unfold Go.Lib.idxFuncFrom;have hsz:(⟨s.toArray⟩:ByteArray).size=s.length:=by simp[ByteArray.size]
  rw[hsz];by_cases h:i < s.length
  ·rw[if_pos h];have hget:s[i]? =some s[i]:=List.getElem?_eq_getElem h;have hd:Utf8.decode ⟨s.toArray⟩ i=(s[i].toNat,1):=Qb hget (ha _ (List.getElem_mem h));rw[hd];simp only;rw[Sa hp (ha _ (List.getElem_mem h)),List.drop_eq_getElem_cons h,List.any_cons];cases hP:P s[i]with
   | true=>simp
   | false=>
    simp only[Bool.false_eq_true,if_false,Bool.false_or];exact NO hp s ha f (i + 1) (by omega) (by omega)
  ·have:i=s.length:=by omega
   subst this;simp
theorem WC{p:Int->Option Bool}{P:UInt8->Bool}(hp:It p P){N:Nat}(s:AbC)(ha:∀ b,b∈s->b.toNat < 128):∃ r,Dm N s p=some r/\decide (r>=0)=s.any P:=by
 refine⟨_,by unfold Dm;rw[if_pos hp.all],?_⟩;have:=NO hp s ha s.length 0 (by omega) (by omega);have hsz:(⟨s.toArray⟩:ByteArray).size=s.length:=by simp[ByteArray.size]
 unfold Go.Lib.idxFunc;rw[hsz];rw[List.drop_zero]at this;cases hs:s.any P with
 | true=>rw[hs]at this;exact decide_eq_true (this.2 rfl)
 | false=>
  rw[hs]at this;exact decide_eq_false fun h=>by have:=this.1 h;cases this
def L0:AbC->Nat
 | []=>0
 | b::r=>if isD b then r.length + 1 else L0 r
def BS(s:AbC):Nat:=L0 s.reverse
theorem Ui:BS []=0:=rfl
theorem Sn(l:AbC)(b:UInt8):BS (l++[b])=if isD b then l.length + 1 else BS l:=by
 unfold BS;rw[List.reverse_append];simp[L0]
theorem PR:∀ l:AbC,L0 l<=l.length
 | []=>Nat.le_refl _
 | b::r=>by
  unfold L0;split
  ·exact Nat.le_refl _
  ·exact Nat.le_succ_of_le (PR r)
theorem S2(s:AbC):BS s<=s.length:=by unfold BS;have:=PR s.reverse;simpa using this
theorem Sm:∀ l:AbC,∀ b,b∈l.take (l.length - L0 l)->isD b=false
 | [],b,h=>by simp at h
 | c::r,b,h=>by
  unfold L0 at h;split at h
  ·simp at h
  ·rename_i hc;have hc':isD c=false:=by simpa using hc
   have:=PR r;rw[show(c::r).length - L0 r=(r.length - L0 r) + 1 by simp;omega,List.take_succ_cons]at h;rcases List.mem_cons.1 h with rfl | h
   ·exact hc'
   ·exact Sm r b h
theorem So(s:AbC):∀ b,b∈s.drop (BS s)->isD b=false:=by
 intro b hb;have h:=Sm s.reverse b;have e:s.reverse.take (s.reverse.length - L0 s.reverse)=(s.drop (BS s)).reverse:=by
  rw[List.reverse_drop,List.length_reverse];rfl
 rw[e]at h;exact h (by simpa using hb)
theorem VY:∀ l:AbC,0 < L0 l->∃ b,l[l.length - L0 l]? =some b/\isD b=true
 | [],h=>by simp[L0]at h
 | c::r,h=>by
  unfold L0 at h ⊢;by_cases hc:isD c=true
  ·rw[if_pos hc];exact⟨c,by simp,hc⟩
  ·rw[if_neg hc]at h ⊢;obtain⟨b,G,I⟩:=VY r h;have:=PR r;refine⟨b,?_,I⟩;rw[show(c::r).length - L0 r=(r.length - L0 r) + 1 by simp;omega,List.getElem?_cons_succ];exact G
theorem Zy(s:AbC)(h:0 < BS s):∃ b,s[BS s - 1]? =some b/\isD b=true:=by
 obtain⟨b,G,I⟩:=VY s.reverse h;refine⟨b,?_,I⟩;have hle:=S2 s;rw[List.length_reverse,List.getElem?_reverse (by show s.length - BS s < s.length;omega)]at G;rw[<-G];congr 1;show BS s - 1=s.length - 1 - (s.length - BS s);omega
theorem Mm(N:Nat)(s:AbC)(ha:∀ b,b∈s->b.toNat < 128):∀(f i:Nat),i<=f->i<=s.length->
  Go.Lib.lastIdxFuncFrom (Hr fun J=>BL N J) true ⟨s.toArray⟩ f i + 1=(BS (s.take i):Int)
 | 0,i,G,I=>by
  have:i=0:=by omega
  subst this;simp[Go.Lib.lastIdxFuncFrom,Ui]
 | f + 1,0,G,I=>by simp[Go.Lib.lastIdxFuncFrom,Ui]
 | f + 1,i + 1,G,I=>by
  unfold Go.Lib.lastIdxFuncFrom;rw[if_pos (Nat.succ_pos i)];have h:i < s.length:=by omega
  have htake:s.take (i + 1)=s.take i++[s[i]]:=by rw[List.take_add_one,List.getElem?_eq_getElem h];rfl
  have hb:=ha _ (List.getElem_mem h);have hdl:Go.Lib.decodeLastL (s.take (i + 1))=(s[i].toNat,1):=by
   unfold Go.Lib.decodeLastL;rw[if_neg (fun e=>by have M:=congrArg List.length e;rw[List.length_take,List.length_nil]at M;omega)];have hlen:(s.take (i + 1)).length - 1=i:=by rw[List.length_take];omega
   have hg:(s.take (i + 1)).getD i 0=s[i]:=by
    rw[List.getD_eq_getElem?_getD,List.getElem?_take,if_pos (by omega),List.getElem?_eq_getElem h];rfl
   rw[hlen,hg,if_pos hb]
  simp only[List.toList_toArray]at *
  rw[hdl];simp only;rw[Sa (VB N) hb,htake,Sn];cases hP:isD s[i]with
  | true=>
   simp only[if_true];rw[List.length_take,Nat.min_eq_left (by omega)];simp
  | false=>
   simp only[Bool.false_eq_true,if_false];rw[show i + 1 - 1=i by omega];exact Mm N s ha f i (by omega) (by omega)
theorem CI(i:Nat)(h:i < 4611686018427387904):W64 ((i:Int) + 1)=((i + 1:Nat):Int):=by
 rw[Bb (by omega) (by omega)];omega
def pcs(c:UInt8):AbC->List AbC
 | []=>[[]]
 | b::s=>if b=c then[]::pcs c s else match pcs c s with
  | p::r=>(b::p)::r
  | []=>[[b]]
theorem I2(c:UInt8):∀ s,pcs c s≠[]
 | []=>by simp[pcs]
 | b::s=>by
  unfold pcs;split
  ·simp
  ·split <;> simp
theorem EL{c:UInt8}:∀{a:AbC},c∉a->pcs c a=[a]
 | [],_=>rfl
 | b::s,h=>by
  have G:¬ b=c:=fun e=>h (by rw[e];exact List.mem_cons_self);have I:c∉s:=fun hm=>h (List.mem_cons_of_mem _ hm);unfold pcs;rw[if_neg G,EL I]
theorem Gn{c:UInt8}:∀{a t:AbC},c∉a->pcs c (a++c::t)=a::pcs c t
 | [],t,_=>by simp[pcs]
 | b::s,t,h=>by
  have G:¬ b=c:=fun e=>h (by rw[e];exact List.mem_cons_self);have I:c∉s:=fun hm=>h (List.mem_cons_of_mem _ hm);rw[List.cons_append]
  conv=>lhs;unfold pcs
  rw[if_neg G,Gn I]
theorem VE(c:UInt8):∀ s,(pcs c s).length=s.count c + 1
 | []=>rfl
 | b::s=>by
  have:=VE c s;unfold pcs;by_cases h:b=c
  ·rw[if_pos h,List.length_cons,this,h];simp
  ·rw[if_neg h,List.count_cons_of_ne (by simpa using h)];cases hp:pcs c s with
   | nil=>exact absurd hp (I2 c s)
   | cons p r=>rw[hp]at this;simpa using this
theorem Qp(c:UInt8):∀ s,[c].intercalate (pcs c s)=s
 | []=>rfl
 | b::s=>by
  have ih:=Qp c s;unfold pcs;by_cases h:b=c
  ·rw[if_pos h];cases hp:pcs c s with
   | nil=>exact absurd hp (I2 c s)
   | cons p r=>
    rw[hp]at ih;subst h;simp only[List.intercalate]at ih ⊢;simp only[List.intersperse_cons_cons,List.flatten_cons,List.nil_append,List.cons_append];rw[ih]
  ·rw[if_neg h];cases hp:pcs c s with
   | nil=>exact absurd hp (I2 c s)
   | cons p r=>
    rw[hp]at ih;simp only;cases r with
    | nil=>simp[List.intercalate]at ih ⊢;exact ih
    | cons q r=>
     simp only[List.intercalate,List.intersperse_cons_cons,List.flatten_cons,List.cons_append]at ih ⊢;rw[ih]
theorem Gc{c:UInt8}:∀{s:AbC},c∈s->∃ a t,s=a++c::t/\c∉a
 | b::s,h=>by
  by_cases hb:b=c
  ·exact⟨[],s,by rw[hb];rfl,by simp⟩
  ·rcases List.mem_cons.1 h with e | h
   ·exact absurd e.symm hb
   ·obtain⟨a,t,G,I⟩:=Gc h;exact⟨b::a,t,by rw[G];rfl,fun hm=>by
     rcases List.mem_cons.1 hm with e | hm
     ·exact hb e.symm
     ·exact I hm⟩
theorem K0{c:UInt8}:∀{s:AbC},c∉s->Go.Lib.index s [c]= -1
 | [],_=>rfl
 | b::s,h=>by
  have G:¬ c=b:=fun e=>h (by rw[e];exact List.mem_cons_self);have I:c∉s:=fun hm=>h (List.mem_cons_of_mem _ hm);unfold Go.Lib.index;rw[if_neg (by simp[List.isPrefixOf];exact G),K0 I];rfl
theorem KZ{c:UInt8}:∀{a t:AbC},c∉a->Go.Lib.index (a++c::t) [c]=(a.length:Int)
 | [],t,_=>by
  show Go.Lib.index (c::t) [c]=0;unfold Go.Lib.index;rw[if_pos (by simp[List.isPrefixOf])]
 | b::s,t,h=>by
  have G:¬ c=b:=fun e=>h (by rw[e];exact List.mem_cons_self);have I:c∉s:=fun hm=>h (List.mem_cons_of_mem _ hm);rw[List.cons_append];unfold Go.Lib.index;rw[if_neg (by simp[List.isPrefixOf];exact G),KZ I,if_neg (by simp <;> omega)];simp
theorem P8{c:UInt8}:∀(n f:Nat)(s:AbC),s.length<=n->s.length < f->Go.Lib.splitK [c] 0 (Go.Lib.countFrom [c] f s) s=pcs c s
 | _,0,s,_,h=>by omega
 | n,f + 1,s,G,I=>by
  by_cases hc:c∈s
  ·obtain⟨a,t,rfl,ha⟩:=Gc hc;have hi:=KZ (t:=t) ha;unfold Go.Lib.countFrom;rw[hi,if_neg (by simp <;> omega),Nat.add_comm 1];unfold Go.Lib.splitK;rw[hi,if_neg (by simp <;> omega)];have hdrop:(a++c::t).drop ((a.length:Int).toNat + [c].length)=t:=by
    simp
   have htake:(a++c::t).take ((a.length:Int).toNat + 0)=a:=by simp
   rw[hdrop,htake,Gn ha];have hl:t.length < n:=by simp at G;omega
   obtain⟨n',rfl⟩:∃ n',n=n' + 1:=⟨n - 1,by omega⟩;rw[P8 n' f t (by omega) (by simp at I;omega)]
  ·rw[EL hc];unfold Go.Lib.countFrom;rw[K0 hc,if_pos (by simp)];rfl
theorem Ts(c:UInt8)(s:AbC):Sz s [c]=pcs c s:=by
 unfold Sz;rw[Go.Lib.splitB_data];have:Go.Lib.countB ⟨s.toArray⟩ ⟨[c].toArray⟩=Go.Lib.countFrom [c] (s.length + 1) s:=by
  rfl
 rw[this];exact P8 s.length (s.length + 1) s (Nat.le_refl _) (Nat.lt_succ_self _)
theorem PM{N:Nat}{s:AbC}(c:UInt8)(h:s.length < 4294967281):strings_Split N s [c]=some (pcs c s):=by
 unfold strings_Split;rw[if_pos ⟨h,by simp⟩,Ts]
theorem Uh{c:UInt8}{s:AbC}(h:c∉s):Go.Lib.cut s [c]=(s,[],false):=by
 unfold Go.Lib.cut;rw[K0 h,if_neg (by decide)]
theorem Ug{c:UInt8}{a t:AbC}(h:c∉a):Go.Lib.cut (a++c::t) [c]=(a,t,true):=by
 unfold Go.Lib.cut;rw[KZ h,if_pos (by omega)];simp only[Int.toNat_natCast,List.length_singleton];rw[List.drop_append];simp
theorem V1(b c:UInt8)(z:Int)(h:z=(c.toNat:Int)):((b.toNat:Int)==z)=decide (b=c):=by
 subst h;rw[Bool.eq_iff_iff];simp only[beq_iff_eq,decide_eq_true_eq];constructor
 ·intro h;exact UInt8.toNat_inj.1 (by omega)
 ·rintro rfl;rfl
theorem Wt{N:Nat}(s:AbC)(hs:s.length < 4294967290)(hN:s.length < N):HC N s=some (pcs 47 s):=by
 have key:=B9 (body:=Fz N s) s.length (fun i st=>∃(out:List AbC)(fr:Nat),st=(out,(fr:Int),(i:Int))/\fr<=i/\out.length<=i/\pcs 47 s=out++pcs 47 (s.drop fr)/\(47:UInt8)∉(s.drop fr).take (i - fr))
  (fun o=>∃(out:List AbC)(fr:Nat),o=.done (out,(fr:Int),(s.length:Int))/\fr<=s.length/\out.length<=s.length/\pcs 47 s=out++[s.drop fr]) (by
   rintro i st hi ⟨out,fr,rfl,I,M,G,J⟩;unfold Fz;simp only;by_cases h:i < s.length
   ·have hget:s[i]? =some s[i]:=List.getElem?_eq_getElem h;have Y:decide ((i:Int) < (s.length:Int))=true:=decide_eq_true (by omega);rw[Y,cT,DG h,oS,V1 _ 47 47 rfl,CI i (by omega)];have hdi:s.drop fr=(s.drop fr).take (i - fr)++s[i]::s.drop (i + 1):=by
     have O:s.drop fr=(s.drop fr).take (i - fr)++(s.drop fr).drop (i - fr):=(List.take_append_drop _ _).symm;rw[List.drop_drop,show fr + (i - fr)=i by omega,List.drop_eq_getElem_cons h]at O;exact O
    by_cases hc:s[i]=47
    ·rw[decide_eq_true hc,cT,Ea I (by omega),oS,Kk (by simp;omega),oS,oS];refine .inl ⟨_,rfl,⟨out++[(s.drop fr).take (i - fr)],i + 1,rfl,by omega,by simp;omega,?_,by simp⟩,h⟩;rw[G]
     conv=>lhs;rw[hdi,hc,Gn J]
     simp
    ·rw[decide_eq_false hc,cF,oS];refine .inl ⟨_,rfl,⟨out,fr,rfl,by omega,by omega,G,?_⟩,h⟩;rw[show i + 1 - fr=(i - fr) + 1 by omega,List.take_add_one,List.getElem?_drop,show fr + (i - fr)=i by omega,hget];intro hm;rcases List.mem_append.1 hm with hm | hm
     ·exact J hm
     ·simp at hm;exact hc hm.symm
   ·have:i=s.length:=by omega
    subst this;rw[decide_eq_false (by omega),cF];refine .inr ⟨_,rfl,(fun _ e=>by cases e),out,fr,rfl,I,M,?_⟩;rw[G,EL];rw[List.take_of_length_le (by simp)]at J;exact J) s.length N 0 ([],0,0) (by omega) ⟨[],0,rfl,Nat.le_refl _,Nat.le_refl _,by simp,by simp⟩ hN
 obtain⟨o,ho,out,fr,rfl,I,M,G⟩:=key;unfold HC;rw[ho];simp only[oS,A4.k];rw[Ea I (Nat.le_refl _),oS,Kk (by simp;omega),G,List.take_of_length_le (by simp)];rfl
theorem TT{N:Nat}(s:AbC)(hs:s.length < 4294967290)(hN:s.length < N):Hb N s=some (pcs 32 s):=by
 have key:=B9 (body:=Gl N s) s.length (fun i st=>∃(out:List AbC)(fr:Nat),st=(out,(fr:Int),(i:Int))/\fr<=i/\out.length<=i/\pcs 32 s=out++pcs 32 (s.drop fr)/\(32:UInt8)∉(s.drop fr).take (i - fr))
  (fun o=>∃(out:List AbC)(fr:Nat),o=.done (out,(fr:Int),(s.length:Int))/\fr<=s.length/\out.length<=s.length/\pcs 32 s=out++[s.drop fr]) (by
   rintro i st hi ⟨out,fr,rfl,I,M,G,J⟩;unfold Gl;simp only;by_cases h:i < s.length
   ·have hget:s[i]? =some s[i]:=List.getElem?_eq_getElem h;have Y:decide ((i:Int) < (s.length:Int))=true:=decide_eq_true (by omega);rw[Y,cT,DG h,oS,V1 _ 32 32 rfl,CI i (by omega)];have hdi:s.drop fr=(s.drop fr).take (i - fr)++s[i]::s.drop (i + 1):=by
     have O:s.drop fr=(s.drop fr).take (i - fr)++(s.drop fr).drop (i - fr):=(List.take_append_drop _ _).symm;rw[List.drop_drop,show fr + (i - fr)=i by omega,List.drop_eq_getElem_cons h]at O;exact O
    by_cases hc:s[i]=32
    ·rw[decide_eq_true hc,cT,Ea I (by omega),oS,Kk (by simp;omega),oS,oS];refine .inl ⟨_,rfl,⟨out++[(s.drop fr).take (i - fr)],i + 1,rfl,by omega,by simp;omega,?_,by simp⟩,h⟩;rw[G]
     conv=>lhs;rw[hdi,hc,Gn J]
     simp
    ·rw[decide_eq_false hc,cF,oS];refine .inl ⟨_,rfl,⟨out,fr,rfl,by omega,by omega,G,?_⟩,h⟩;rw[show i + 1 - fr=(i - fr) + 1 by omega,List.take_add_one,List.getElem?_drop,show fr + (i - fr)=i by omega,hget];intro hm;rcases List.mem_append.1 hm with hm | hm
     ·exact J hm
     ·simp at hm;exact hc hm.symm
   ·have:i=s.length:=by omega
    subst this;rw[decide_eq_false (by omega),cF];refine .inr ⟨_,rfl,(fun _ e=>by cases e),out,fr,rfl,I,M,?_⟩;rw[G,EL];rw[List.take_of_length_le (by simp)]at J;exact J) s.length N 0 ([],0,0) (by omega) ⟨[],0,rfl,Nat.le_refl _,Nat.le_refl _,by simp,by simp⟩ hN
 obtain⟨o,ho,out,fr,rfl,I,M,G⟩:=key;unfold Hb;rw[ho];simp only[oS,A4.k];rw[Ea I (Nat.le_refl _),oS,Kk (by simp;omega),G,List.take_of_length_le (by simp)];rfl
theorem OK{α ρ τ:Type}{body:Int->Option (A4 ρ Int)}{l:List α}(ok:α->Bool)(bad:ρ)(hb:∀ i (h:i < l.length),body (i:Int)=some (bif ok l[i]then .next ((i + 1:Nat):Int)else .ret bad))
  (he:body (l.length:Int)=some (.done (l.length:Int))) {N:Nat} (hN:l.length < N) (fd:Int->Option τ) (fr:ρ->Option τ):((AF body N 0).bind fun o=>o.k fr fd)=bif l.all ok then fd l.length else fr bad:=by
 obtain⟨o,ho,hR⟩:=B9 (body:=body) l.length (fun i s=>s=(i:Int)/\(l.take i).all ok=true) (fun o=>(l.all ok=true/\o=.done (l.length:Int))\/(l.all ok=false/\o=.ret bad)) (by
  rintro i s hi ⟨rfl,hk⟩;by_cases h:i < l.length
  ·rw[hb i h];cases e:ok l[i]with
   | true=>exact .inl ⟨_,rfl,⟨rfl,by rw[List.take_add_one,List.getElem?_eq_getElem h,List.all_append,hk];simp[e]⟩,h⟩
   | false=>exact .inr ⟨_,rfl,(fun _ h=>by cases h),.inr ⟨by rw[List.all_eq_false];exact⟨l[i],List.getElem_mem h,by rw[e];simp⟩,rfl⟩⟩
  ·have:i=l.length:=by omega
   subst this;rw[he];exact .inr ⟨_,rfl,(fun _ h=>by cases h),.inl ⟨by simpa using hk,rfl⟩⟩) l.length N 0 0 (by omega) ⟨rfl,rfl⟩ hN
 rw[ho];rcases hR with⟨G,rfl⟩ | ⟨G,rfl⟩ <;> rw[G] <;> rfl
section
variable {N : Nat} {s : AbC}
theorem B5{i n:Nat}(h:i < n):decide ((i:Int) < (n:Int))=true:=decide_eq_true (by omega)
theorem BX{n:Nat}:decide ((n:Int) < (n:Int))=false:=decide_eq_false (by omega)
theorem SS(hs:s.length < 4611686018427387904)(hN:s.length < N):FT N s=some (s.all isE):=by
 have hb:∀ i (h:i < s.length),DI N s (i:Int)=some (bif isE s[i]then .next ((i + 1:Nat):Int)else .ret false):=fun i h=>by
  unfold DI;rw[B5 h,cT,DG h,oS,Sg,oS,CI i (by omega),oS,Nn];unfold isE;cases isL s[i] <;> cases isD s[i] <;> rfl
 have he:DI N s (s.length:Int)=some (.done (s.length:Int)):=by
  unfold DI;rw[BX,cF]
 unfold FT;rw[OK (l:=s) isE false hb he hN];cases s.all isE <;> rfl
theorem V3:∀ s:AbC,s.all (fun b=>!isL b)= !s.any isL
 | []=>rfl
 | b::s=>by rw[List.all_cons,List.any_cons,V3 s];cases isL b <;> rfl
theorem Qw(hs:s.length < 4611686018427387904)(hN:s.length < N):EJ N s=some (s.any isL):=by
 have hb:∀ i (h:i < s.length),CC N s (i:Int)=some (bif(!isL s[i])then .next ((i + 1:Nat):Int)else .ret true):=fun i h=>by
  unfold CC;rw[B5 h,cT,DG h,oS,Sg,oS,CI i (by omega)];cases isL s[i] <;> rfl
 have he:CC N s (s.length:Int)=some (.done (s.length:Int)):=by
  unfold CC;rw[BX,cF]
 unfold EJ;rw[OK (l:=s) (fun b=>!isL b) true hb he hN];rw[V3];cases s.any isL <;> rfl
theorem ZK(hs:s.length < 4611686018427387904)(hN:s.length < N):Jp N s=some (BS s:Int):=by
 obtain⟨o,ho,rfl⟩:=B9 (body:=HD N s) s.length (fun i st=>st=((BS (s.take i):Int),(i:Int))) (fun o=>o=.done ((BS s:Int),(s.length:Int))) (by
  rintro i st hi rfl;unfold HD;simp only;by_cases h:i < s.length
  ·rw[B5 h,cT,DG h,oS,Nn,oS,CI i (by omega)];refine .inl ⟨_,rfl,?_,h⟩;rw[List.take_add_one,List.getElem?_eq_getElem h];show _=(((BS (s.take i++[s[i]]):Nat):Int),_);rw[Sn,List.length_take,Nat.min_eq_left (by omega)];cases isD s[i] <;> rfl
  ·have:i=s.length:=by omega
   subst this;rw[BX,cF,List.take_length];exact .inr ⟨_,rfl,(fun _ e=>by cases e),rfl⟩) s.length N 0 (0,0) (by omega) rfl hN
 unfold Jp;rw[ho];rfl
def wiB(n lo hi:Nat):Bool:=decide (lo<=n)&&decide (n<=hi)
def Dz(s:AbC):Bool:=s.all isE&&wiB s.length 1 4&&s.any isL
def Bp(s:AbC):Bool:=s.all isE&&wiB (BS s) 1 4&&(s.take (BS s)).any isL&&wiB (s.length - BS s) 1 4
def BV(s:AbC):Bool:=(s.all isL&&wiB s.length 1 4)||(s.all isD&&wiB s.length 1 1)
theorem JN(n lo hi:Nat):(decide (((lo:Nat):Int)<=(n:Int))&&decide ((n:Int)<=((hi:Nat):Int)))=wiB n lo hi:=by
 unfold wiB;congr 1 <;> (rw[decide_eq_decide];omega)
theorem w14(n:Nat):(decide ((1:Int)<=(n:Int))&&decide ((n:Int)<=(4:Int)))=wiB n 1 4:=JN n 1 4
theorem w11(n:Nat):(decide ((1:Int)<=(n:Int))&&decide ((n:Int)<=(1:Int)))=wiB n 1 1:=JN n 1 1
theorem UZ(hs:s.length < 4611686018427387904)(hN:s.length < N):Ho N s=some (Dz s):=by
 unfold Ho Dz;rw[Jq (AaH N) s 4 hN,oS,w14];cases h:(s.all isE&&wiB s.length 1 4)with
 | false=>rfl
 | true=>
  rw[Bool.and_eq_true]at h;obtain⟨r,G,I⟩:=WC (N:=N) (Xh N) s (fun b hb=>SX (List.all_eq_true.1 h.1 b hb));rw[cT,G,oS,I];rfl
theorem VJ(hs:s.length < 4611686018427387904)(hN:s.length < N):HZ N s=some (Dz s):=by
 unfold HZ Dz;rw[SS hs hN,oS,Qw hs hN,HM,w14];cases s.all isE <;> cases wiB s.length 1 4 <;> rfl
theorem TS(hs:s.length < 4611686018427387904)(hN:s.length < N):FO N s=some (BV s):=by
 unfold FO BV;rw[Jq (Xh N) s 4 hN,Jq (VB N) s 1 hN,w14,w11];cases s.all isL&&wiB s.length 1 4 <;> rfl
theorem WH:∀{s:AbC},BS s=0 ↔ s.any isD=false:=by
 intro s;constructor
 ·intro h;have:=So s;rw[h,List.drop_zero]at this;rw[List.any_eq_false];intro b hb;rw[this b hb];simp
 ·intro h;rcases Nat.eq_zero_or_pos (BS s)with G | G
  ·exact G
  ·obtain⟨b,I,J⟩:=Zy s G;rw[List.any_eq_false]at h;exact absurd J (h b (List.mem_of_getElem? I))
theorem Rx(s:AbC):s.all isL=(s.all isE&& !s.any isD):=by
 induction s with
 | nil=>rfl
 | cons b s ih=>
  simp only[List.all_cons,List.any_cons,ih,isE];cases hL:isL b with
  | true=>rw[Aa3 hL];simp
  | false=>cases isD b <;> cases s.all isE <;> cases s.any isD <;> rfl
theorem Sf(hs:s.length < 4611686018427387904)(hN:s.length < N):Gk N s=some (BV s):=by
 unfold Gk BV;rw[SS hs hN,HM,w14,ZK hs hN,Rx];have hz:((BS s:Int)==0)= !s.any isD:=by
  rw[Bool.eq_iff_iff];simp only[beq_iff_eq,Bool.not_eq_true',<-WH];omega
 match s with
 | []=>rfl
 | [b]=>
  have G:(([b]:AbC).length:Int)==1:=rfl;rw[G,cT,show HU [b] 0=some (b.toNat:Int)from rfl,oS,Nn,oS,oS];simp only[oS,hz];simp only[List.all_cons,List.all_nil,List.any_cons,List.any_nil,isE,Bool.and_true,Bool.or_false];cases isL b <;> cases isD b <;> rfl
 | b::c::t=>
  have G:(((b::c::t).length:Int)==1)=false:=by rw[beq_eq_false_iff_ne];simp;omega
  simp only[G,cF,oS,hz];have I:wiB (b::c::t).length 1 1=false:=by unfold wiB;simp
  rw[I,Bool.and_false,Bool.or_false];cases(b::c::t).all isE <;> cases wiB (b::c::t).length 1 4 <;> cases(b::c::t).any isD <;> rfl
theorem PL(hs:s.length < 4611686018427387904)(hN:s.length < N):FG N s=some (Bp s):=by
 have hk:=S2 s;unfold FG Bp;rw[ZK hs hN,oS,SS hs hN,oS,HM,w14];have G:HT s 0 (BS s:Int)=some (s.take (BS s)):=by
  have:=Ea (a:=s) (lo:=0) (hi:=BS s) (Nat.zero_le _) hk
  simpa using this
 have I:W64 ((s.length:Int) - (BS s:Int))=((s.length - BS s:Nat):Int):=by rw[Bb (by omega) (by omega)];omega
 rw[G,I,HM,w14];have J:=Qw (N:=N) (s:=s.take (BS s)) (by rw[List.length_take];omega) (by rw[List.length_take];omega);simp only[oS,J];cases s.all isE <;> cases wiB (BS s) 1 4 <;> cases(s.take (BS s)).any isL <;> rfl
theorem XK(p:Nat->Bool)(tr:Bool)(s:AbC):∀(f i:Nat),i<=s.length->Go.Lib.lastIdxFuncFrom p tr ⟨s.toArray⟩ f i= -1\/(0<=Go.Lib.lastIdxFuncFrom p tr ⟨s.toArray⟩ f i/\Go.Lib.lastIdxFuncFrom p tr ⟨s.toArray⟩ f i < (i:Int))
 | 0,_,_=>.inl rfl
 | f + 1,i,hi=>by
  unfold Go.Lib.lastIdxFuncFrom;split
  ·rename_i h0;have hw:=Go.Lib.decodeLastL_width (s.take i) (by rw[List.length_take];omega);simp only[List.toList_toArray]at *
   split
   ·exact .inr ⟨by omega,by omega⟩
   ·rcases XK p tr s f (i - (Go.Lib.decodeLastL (s.take i)).2) (by omega)with h | h
    ·exact .inl h
    ·exact .inr ⟨h.1,by omega⟩
  ·exact .inl rfl
theorem Z8(hs:s.length < 4611686018427387904)(hN:s.length < N):∃ x y,Om N s=some (x,y,Bp s)/\(Bp s=true->x=s.take (BS s)/\y=s.drop (BS s)):=by
 have hr:∃ k:Nat,Cn N s (fun G=>BL N G)=some ((k:Int) - 1)/\k<=s.length/\((∀ b,b∈s->b.toNat < 128)->k=BS s):=by
  have hsz:(⟨s.toArray⟩:ByteArray).size=s.length:=by simp[ByteArray.size]
  have e:Cn N s (fun G=>BL N G)=some (Go.Lib.lastIdxFunc (Hr fun G=>BL N G) true ⟨s.toArray⟩):=by
   unfold Cn CU;rw[if_pos ⟨(VB N).all,by omega⟩];rfl
  rw[e];unfold Go.Lib.lastIdxFunc;rw[hsz];have hrange:=XK (Hr fun G=>BL N G) true s s.length s.length (Nat.le_refl _);refine⟨(Go.Lib.lastIdxFuncFrom (Hr fun G=>BL N G) true ⟨s.toArray⟩ s.length s.length + 1).toNat,?_,?_,fun ha=>?_⟩
  ·exact congrArg some (by rcases hrange with h | ⟨h,_⟩ <;> omega)
  ·rcases hrange with h | ⟨M,J⟩
   ·omega
   ·omega
  ·have:=Mm N s ha s.length s.length (Nat.le_refl _) (Nat.le_refl _);rw[List.take_length]at this;omega
 obtain⟨k,M,J,O⟩:=hr;have Y:W64 ((k:Int) - 1 + 1)=(k:Int):=by rw[Bb (by omega) (by omega)];omega
 have Z:HT s 0 (k:Int)=some (s.take k):=by
  have:=Ea (a:=s) (lo:=0) (hi:=k) (Nat.zero_le _) J
  simpa using this
 have e3:HT s (k:Int) (s.length:Int)=some (s.drop k):=by
  rw[Ea J (Nat.le_refl _),List.take_of_length_le (by simp)]
 have e4:=UZ (N:=N) (s:=s.take k) (by rw[List.length_take];omega) (by rw[List.length_take];omega);have e5:=Jq (Xh N) (s.drop k) 4 (N:=N) (by rw[List.length_drop];omega);refine⟨s.take k,s.drop k,?_,?_⟩
 ·unfold Om;rw[M,oS,Y,Z,oS,e3,oS,oS,e4,oS,e5,w14];have hbase:(decide ((k:Int) > 0)&&(Dz (s.take k)&&((s.drop k).all isL&&wiB (s.drop k).length 1 4)))=Bp s:=by
   by_cases ha:s.all isE=true
   ·have hk:k=BS s:=O fun b hb=>SX (List.all_eq_true.1 ha b hb);subst hk;have hle:=S2 s;have e6:(s.take (BS s)).all isE=true:=List.all_eq_true.2 fun b hb=>List.all_eq_true.1 ha b (List.mem_of_mem_take hb);have e7:(s.drop (BS s)).all isL=true:=by
     rw[Rx];rw[Bool.and_eq_true];refine⟨List.all_eq_true.2 fun b hb=>List.all_eq_true.1 ha b (List.mem_of_mem_drop hb),?_⟩;rw[Bool.not_eq_true',List.any_eq_false];intro b hb;rw[So s b hb];simp
    unfold Dz Bp;rw[ha,e6,e7,List.length_take,Nat.min_eq_left hle,List.length_drop];have e8:(decide ((BS s:Int) > 0)&&wiB (BS s) 1 4)=wiB (BS s) 1 4:=by
     unfold wiB;cases hd:decide (1<=BS s)with
     | false=>simp
     | true=>rw[decide_eq_true (by have:=of_decide_eq_true hd;omega)];rfl
    rw[<-e8];cases decide ((BS s:Int) > 0) <;> cases wiB (BS s) 1 4 <;> cases(s.take (BS s)).any isL <;> rfl
   ·have ha':s.all isE=false:=by simpa using ha
    unfold Dz Bp;rw[ha'];have I:(s.take k).all isE=false\/(s.drop k).all isL=false:=by
     rw[<-List.take_append_drop k s,List.all_append]at ha';cases h5:(s.take k).all isE with
     | false=>exact .inl rfl
     | true=>
      right
      rw[h5,Bool.true_and]at ha';rw[Rx,ha'];rfl
    rcases I with I | I <;> rw[I] <;> simp
  rw[<-hbase];cases decide ((k:Int) > 0) <;> cases Dz (s.take k) <;> rfl
 ·intro hb;have ha:s.all isE=true:=by
   unfold Bp at hb;simp only[Bool.and_eq_true]at hb;exact hb.1.1.1
  rw[O fun b hb=>SX (List.all_eq_true.1 ha b hb)];exact⟨rfl,rfl⟩
end
end Go.Proofs.YthljkpeimofbbaaGreatDoor
