/- Lemmas of the claim LogsLeast, printed by a program of the claimant and by hand. No statement of the seat is proved here. -/
import Derived.Test.YthljkpeimofbbaaGreatDoorE14x1
set_option linter.unusedVariables false
set_option linter.unusedSimpArgs false
set_option linter.unusedSectionVars false
set_option maxHeartbeats 4000000
set_option maxRecDepth 100000
namespace Go.Proofs.YthljkpeimofbbaaGreatDoor
def ups (g:Fr) (d:List Deferred):List (Nat×Value)->Fr
 | []=>⟨g.v,d⟩
 | (i,v)::l=>upd (ups g d l) i v
def FI (f:Fr) (d:List Deferred) (l:List (Nat×Value)):Prop:=∃ g,f=ups g d l
theorem So {f:Fr} {i:Nat} {v:Value} (h:f i=v):upd f i v=f:=by
 subst h
 cases f with
 | mk fv fd=>
  simp only [upd,Fr.mk.injEq,and_true]
  funext j
  cases hb:Nat.beq j i with
  | false=>rfl
  | true=>rw [Nat.eq_of_beq_eq_true hb];rfl
def Eqs (f:Fr):List (Nat×Value)->Prop
 | []=>True
 | (i,v)::l=>f i=v/\Eqs f l
theorem Mt {f:Fr} {d:List Deferred} (hd:f.d=d):∀ {l:List (Nat×Value)},Eqs f l->f=ups f d l
 | [],_=>by subst hd;rfl
 | (i,v)::l,h=>by
  show f=upd (ups f d l) i v
  rw [<-Mt hd h.2];exact (So h.1).symm
theorem Tr {f:Fr}:∀ {l:List (Nat×Value)},l.map (fun p=>f p.1)=l.map (·.2)->Eqs f l
 | [],_=>trivial
 | (i,v)::l,h=>by
  simp only [List.map_cons,List.cons.injEq] at h
  exact ⟨h.1,Tr h.2⟩
theorem kq {α:Type} {a:α} (b:α) {c:α} (h:b=c) (k:a=b:=by kernel_rfl):a=c:=k.trans h
theorem fI {f:Fr} {d:List Deferred} {l:List (Nat×Value)} (h:l.map (fun p=>f p.1)=l.map (·.2):=by kernel_rfl) (hd:f.d=d:=by kernel_rfl):FI f d l:=⟨f,Mt hd (Tr h)⟩
theorem fJ {f:Fr} {d:List Deferred} {l:List (Nat×Value)} (h:Eqs f l) (hd:f.d=d:=by kernel_rfl):FI f d l:=⟨f,Mt hd h⟩
def pkC:Op->Operand | .pick c _ _=>c | _=>.tmp 0
def pkA:Op->Operand | .pick _ a _=>a | _=>.tmp 0
def pkB:Op->Operand | .pick _ _ b=>b | _=>.tmp 0
def R4:Op->Bool | .pick _ _ _=>true | _=>false
theorem IZ {op:Op} (h:R4 op=true):op=.pick (pkC op) (pkA op) (pkB op):=by cases op <;> simp_all [R4,pkC,pkA,pkB]
def ldX:Op->Operand | .load _ x=>x | _=>.tmp 0
def ldT:Op->TypeId | .load t _=>t | _=>0
def PP:Op->Bool | .load _ _=>true | _=>false
theorem FJ {op:Op} (h:PP op=true):op=.load (ldT op) (ldX op):=by cases op <;> simp_all [PP,ldX,ldT]
def pO:Value->Nat | .pointer (some ⟨_,o,_⟩)=>o | _=>0
def sB:Value->Nat | .slice (some ⟨b,_,_⟩) _ _=>b | _=>0
def sO:Value->Nat | .slice (some ⟨_,o,_⟩) _ _=>o | _=>0
def sC:Value->Nat | .slice _ _ c=>c | _=>0
def iK:Value->IntKind | .int k _=>k | _=>.i64
def ixX:Op->Operand | .indexAddr _ x _=>x | _=>.tmp 0
def ixY:Op->Operand | .indexAddr _ _ y=>y | _=>.tmp 0
def ixT:Op->TypeId | .indexAddr t _ _=>t | _=>0
def QF:Op->Bool | .indexAddr _ _ _=>true | _=>false
theorem GY {op:Op} (h:QF op=true):op=.indexAddr (ixT op) (ixX op) (ixY op):=by cases op <;> simp_all [QF,ixT,ixX,ixY]
def stX:Op->Operand | .store _ x _=>x | _=>.tmp 0
def stY:Op->Operand | .store _ _ y=>y | _=>.tmp 0
def stT:Op->TypeId | .store t _ _=>t | _=>0
def HT:Op->Bool | .store _ _ _=>true | _=>false
theorem DQ {op:Op} (h:HT op=true):op=.store (stT op) (stX op) (stY op):=by cases op <;> simp_all [HT,stT,stX,stY]
def Uu (t:TypeId):Op->Bool | .alloc t'=>Nat.beq t t' | _=>false
theorem Of {t:TypeId} {op:Op} (h:Uu t op=true):op=.alloc t:=by
 cases op <;> simp only [Uu,Bool.false_eq_true] at h
 rw [Nat.eq_of_beq_eq_true h]
def bxX:Op->Operand | .box _ x=>x | _=>.tmp 0
def Ut (t:TypeId):Op->Bool | .box t' _=>Nat.beq t t' | _=>false
theorem Oe {t:TypeId} {op:Op} (h:Ut t op=true):op=.box t (bxX op):=by
 cases op <;> simp only [Ut,Bool.false_eq_true] at h
 rw [Nat.eq_of_beq_eq_true h];rfl
def bsV (P:Program) (f:Fr):Op->Option (TypeId×List Value) | .buildSlice t len parts=>KF P t len (parts.toList.map fun p=>(p.1,fev f p.2)) | _=>none
def bsL:Op->Nat | .buildSlice _ len _=>len | _=>0
def clV (f:Fr):Op->Option (FuncId×List Value)
 | .call c=>(match c.callee with
  | .value f0=>(match fev f f0 with
   | .func (.func g) fi ca=>some (g,fi.toList++c.args.toList.map (fev f)++ca.toList)
   | _=>none)
  | _=>none)
 | _=>none
theorem Kw {P:Program} {w:World} {f:Fr} {op:Op} {ty:TypeId} {g:FuncId} {args:List Value} (h:clV f op=some (g,args)) (hok:Ai P g):(Al (fev f) op ty).run P w=.ok (.enter g args.toArray) w:=by
 unfold clV at h
 split at h
 ·rename_i c
  obtain ⟨callee,aos,ats⟩:=c
  simp only at h
  split at h
  ·split at h
   ·rename_i hf
    simp only [Option.some.injEq,Prod.mk.injEq] at h
    obtain ⟨rfl,rfl⟩:=h
    exact D4 hf hok rfl
   ·cases h
  ·cases h
 ·cases h
section
variable {P : Program} {ro : Option Nat} {n : Nat} {R : Array Oper} {Q : Exit -> Fr -> World -> Prop} {i : Nat} {rest : List Nat} {f : Fr} {w w' w0 : World} {F0 F : Mem} {L : List (Option Nat × Obj)}
theorem RWP.valU {v:Value} (ho:ung R i=true) (hy:(Al (fev f) (Af R i) (FM R i)).run P w=.ok (.value v) w') (k:RWP P ro n R Q rest (A0 f (A5 R i) v) w'):RWP P ro n R Q (i::rest) f w:=Ws (A8 ho) rfl hy k
theorem Pk1 {t:Bool} (ht:t=true) (k:RWP P ro n R Q rest (A0 f (A5 R i) (fev f (pkA (Af R i)))) w) (hc:fev f (pkC (Af R i))=.bool t:=by kernel_rfl) (ho:(ung R i&&R4 (Af R i))=true:=by kernel_rfl):RWP P ro n R Q (i::rest) f w:=by
 simp only [Bool.and_eq_true] at ho
 refine RWP.valU ho.1 ?_ k
 have:=IZ ho.2
 rw [this] at hc ⊢;exact KI hc ht rfl
theorem Pk0 {t:Bool} (ht:t=false) (k:RWP P ro n R Q rest (A0 f (A5 R i) (fev f (pkB (Af R i)))) w) (hc:fev f (pkC (Af R i))=.bool t:=by kernel_rfl) (ho:(ung R i&&R4 (Af R i))=true:=by kernel_rfl):RWP P ro n R Q (i::rest) f w:=by
 simp only [Bool.and_eq_true] at ho
 refine RWP.valU ho.1 ?_ k
 have:=IZ ho.2
 rw [this] at hc ⊢;exact KJ hc ht rfl
def ldV (P:Program) (t:TypeId) (C:Array Value) (o:Nat):Value:=match EN P t with | some (g,s)=>mkV g (Ap C o s) | none=>undef
def ldK (P:Program) (t:TypeId) (C:Array Value) (o:Nat):Bool:=match EN P t with | some (g,s)=>Nat.beq (Ap C o s).length s&&(g||s==1) | none=>false
theorem Qp {ρ:Operand->Value} {t ty:TypeId} {x:Operand} {b o:Nat} {C:Array Value} {E:TypeId} {fz:Nat×Nat} (hx:ρ x=.pointer (some ⟨b,o,none⟩)) (hp:w.heap[b]? =some (.cells C E fz)) (hk:ldK P t C o=true):
  (Al ρ (.load t x) ty).run P w=.ok (.value (ldV P t C o)) w:=by
 unfold ldK at hk;unfold ldV
 split at hk
 ·rename_i g s ht
  simp only [Bool.and_eq_true] at hk
  exact BK hx ht hp (Nat.eq_of_beq_eq_true hk.1) hk.2 rfl
 ·cases hk
theorem Ld {b:Nat} {C:Array Value} {E:TypeId} {fz:Nat×Nat} (hp:w.heap[b]? =some (.cells C E fz)) (k:RWP P ro n R Q rest (A0 f (A5 R i) (ldV P (ldT (Af R i)) C (pO (fev f (ldX (Af R i)))))) w)
  (hx:fev f (ldX (Af R i))=.pointer (some ⟨b,pO (fev f (ldX (Af R i))),none⟩):=by kernel_rfl) (ho:(ung R i&&(PP (Af R i)&&ldK P (ldT (Af R i)) C (pO (fev f (ldX (Af R i))))))=true:=by kernel_rfl):RWP P ro n R Q (i::rest) f w:=by
 simp only [Bool.and_eq_true] at ho
 refine RWP.valU ho.1 ?_ k
 have:=FJ ho.2.1
 rw [this];exact Qp hx hp ho.2.2
def lxV (P:Program) (t:TypeId) (cs:List Value) (j:Nat):Value:=match EN P t with | some (g,s)=>mkV g ((cs.drop j).take s) | none=>undef
def lxK (P:Program) (t:TypeId) (cs:List Value) (j kk:Nat):Bool:=match EN P t with | some (g,s)=>decide (j + s<=kk)&&(Nat.beq ((cs.drop j).take s).length s&&(g||s==1)) | none=>false
theorem Qn {ρ:Operand->Value} {t ty:TypeId} {x:Operand} {j b o kk:Nat} {C:Array Value} {E:TypeId} {fz:Nat×Nat} {cs:List Value} (hx:ρ x=.pointer (some ⟨b,o + j,none⟩)) (hp:w.heap[b]? =some (.cells C E fz)) (hc:Ap C o kk=cs) (hk:lxK P t cs j kk=true):
  (Al ρ (.load t x) ty).run P w=.ok (.value (lxV P t cs j)) w:=by
 unfold lxK at hk;unfold lxV
 split at hk
 ·rename_i g s ht
  simp only [Bool.and_eq_true] at hk
  exact KK hx ht hp hc hk.1 ⟨Nat.eq_of_beq_eq_true hk.2.1,trivial⟩ hk.2.2 rfl
 ·cases hk
theorem Lx (j:Nat) {b o kk:Nat} {C:Array Value} {E:TypeId} {fz:Nat×Nat} {cs:List Value} (hp:w.heap[b]? =some (.cells C E fz)) (hc:Ap C o kk=cs) (k:RWP P ro n R Q rest (A0 f (A5 R i) (lxV P (ldT (Af R i)) cs j)) w)
  (hx:fev f (ldX (Af R i))=.pointer (some ⟨b,o + j,none⟩):=by kernel_rfl) (ho:(ung R i&&(PP (Af R i)&&lxK P (ldT (Af R i)) cs j kk))=true:=by kernel_rfl):RWP P ro n R Q (i::rest) f w:=by
 simp only [Bool.and_eq_true] at ho
 refine RWP.valU ho.1 ?_ k
 have:=FJ ho.2.1
 rw [this];exact Qn hx hp hc ho.2.2
def elS (P:Program) (t:TypeId):Nat:=match Bu P t with | some (_,s,_)=>s | none=>0
theorem Ix {m:Nat} {y:Int} (hi:0<=y/\y < (m:Int)) (k:RWP P ro n R Q rest (A0 f (A5 R i) (.pointer (some ⟨sB (fev f (ixX (Af R i))),sO (fev f (ixX (Af R i))) + y.toNat * elS P (ixT (Af R i)),none⟩))) w)
  (hx:fev f (ixX (Af R i))=.slice (some ⟨sB (fev f (ixX (Af R i))),sO (fev f (ixX (Af R i))),none⟩) m (sC (fev f (ixX (Af R i)))):=by kernel_rfl) (hy:fev f (ixY (Af R i))=.int (iK (fev f (ixY (Af R i)))) y:=by kernel_rfl)
  (ho:(ung R i&&(QF (Af R i)&&slQ P (ixT (Af R i))))=true:=by kernel_rfl):RWP P ro n R Q (i::rest) f w:=by
 simp only [Bool.and_eq_true] at ho
 obtain ⟨h1,h2,h3⟩:=ho
 refine RWP.valU h1 ?_ k
 unfold slQ at h3
 split at h3
 ·rename_i q hq;obtain ⟨E,s,by_⟩:=q
  have es:elS P (ixT (Af R i))=s:=by simp [elS,hq]
  rw [es]
  have e:=GY h2
  have:=CG (P:=P) (w:=w) (ty:=FM R i) hx hy hq hi
  rw [<-e] at this;exact this
 ·cases h3
theorem Ix0 {m:Nat} {y:Int} (hi:0<=y/\y < (m:Int)) (k:RWP P ro n R Q rest (A0 f (A5 R i) (.pointer (some ⟨sB (fev f (ixX (Af R i))),y.toNat * elS P (ixT (Af R i)),none⟩))) w)
  (hx:fev f (ixX (Af R i))=.slice (some ⟨sB (fev f (ixX (Af R i))),0,none⟩) m (sC (fev f (ixX (Af R i)))):=by kernel_rfl) (hy:fev f (ixY (Af R i))=.int (iK (fev f (ixY (Af R i)))) y:=by kernel_rfl)
  (ho:(ung R i&&(QF (Af R i)&&slQ P (ixT (Af R i))))=true:=by kernel_rfl):RWP P ro n R Q (i::rest) f w:=by
 simp only [Bool.and_eq_true] at ho
 obtain ⟨h1,h2,h3⟩:=ho
 refine RWP.valU h1 ?_ k
 unfold slQ at h3
 split at h3
 ·rename_i q hq;obtain ⟨E,s,by_⟩:=q
  have es:elS P (ixT (Af R i))=s:=by simp [elS,hq]
  rw [es]
  have e:=GY h2
  have:=Ee (P:=P) (w:=w) (ty:=FM R i) hx hy hq hi
  rw [<-e] at this;exact this
 ·cases h3
theorem SC {ρ:Operand->Value} {t ty:TypeId} {x y:Operand} {m:Nat} {q:Int} (hi:0<=q/\q < (m:Int)) (hx:ρ x=.slice (some ⟨sB (ρ x),sO (ρ x),none⟩) m (sC (ρ x))) (hy:ρ y=.int (iK (ρ y)) q) (h3:slQ P t=true):
  (Al ρ (.indexAddr t x y) ty).run P w=.ok (.value (.pointer (some ⟨sB (ρ x),sO (ρ x) + q.toNat * elS P t,none⟩))) w:=by
 unfold slQ at h3
 split at h3
 ·rename_i a hq;obtain ⟨E,s,by_⟩:=a
  have es:elS P t=s:=by simp [elS,hq]
  rw [es];exact CG hx hy hq hi
 ·cases h3
theorem TX {t ty:TypeId} {x y:Operand} {m:Nat} {q:Int} (hi:0<=q/\q < (m:Int)) (hx:fev f x=.slice (some ⟨sB (fev f x),0,none⟩) m (sC (fev f x))) (hy:fev f y=.int (iK (fev f y)) q) (h3:slQ P t=true):
  (Al (fev f) (.indexAddr t x y) ty).run P w=.ok (.value (.pointer (some ⟨sB (fev f x),q.toNat * elS P t,none⟩))) w:=by
 unfold slQ at h3
 split at h3
 ·rename_i a hq;obtain ⟨E,s,by_⟩:=a
  have es:elS P t=s:=by simp [elS,hq]
  rw [es];exact Ee hx hy hq hi
 ·cases h3
theorem RWP.valG {gb' gc:Bool} (hg:gc=gb') {v:Value} (hy:(Al (fev f) (Af R i) (FM R i)).run P w=.ok (.value v) w') (k:RWP P ro n R Q rest (A0 f (A5 R i) v) w')
  (h0:Mu R (gj R [i]) gb' i=true) (hj:Ff R (gj R [i])=some (gq R [i])) (hf:f (gq R [i])=.bool gc):RWP P ro n R Q (i::rest) f w:=by
 rcases MQ h0 with e | e
 ·exact Ws e rfl hy k
 ·exact Ws e (Im hj hf hg) hy k
theorem Pg1 {gb' gc:Bool} (hg:gc=gb') {t:Bool} (ht:t=true) (k:RWP P ro n R Q rest (A0 f (A5 R i) (fev f (pkA (Af R i)))) w) (hc:fev f (pkC (Af R i))=.bool t:=by kernel_rfl) (ho:R4 (Af R i)=true:=by kernel_rfl)
  (h0:Mu R (gj R [i]) gb' i=true:=by kernel_rfl) (hj:Ff R (gj R [i])=some (gq R [i]):=by kernel_rfl) (hf:f (gq R [i])=.bool gc:=by kernel_rfl):RWP P ro n R Q (i::rest) f w:=by
 refine RWP.valG hg ?_ k h0 hj hf
 have:=IZ ho
 rw [this] at hc ⊢;exact KI hc ht rfl
theorem Pg0 {gb' gc:Bool} (hg:gc=gb') {t:Bool} (ht:t=false) (k:RWP P ro n R Q rest (A0 f (A5 R i) (fev f (pkB (Af R i)))) w) (hc:fev f (pkC (Af R i))=.bool t:=by kernel_rfl) (ho:R4 (Af R i)=true:=by kernel_rfl)
  (h0:Mu R (gj R [i]) gb' i=true:=by kernel_rfl) (hj:Ff R (gj R [i])=some (gq R [i]):=by kernel_rfl) (hf:f (gq R [i])=.bool gc:=by kernel_rfl):RWP P ro n R Q (i::rest) f w:=by
 refine RWP.valG hg ?_ k h0 hj hf
 have:=IZ ho
 rw [this] at hc ⊢;exact KJ hc ht rfl
theorem Lg {gb' gc:Bool} (hg:gc=gb') {b:Nat} {C:Array Value} {E:TypeId} {fz:Nat×Nat} (hp:w.heap[b]? =some (.cells C E fz)) (k:RWP P ro n R Q rest (A0 f (A5 R i) (ldV P (ldT (Af R i)) C (pO (fev f (ldX (Af R i)))))) w)
  (hx:fev f (ldX (Af R i))=.pointer (some ⟨b,pO (fev f (ldX (Af R i))),none⟩):=by kernel_rfl) (ho:(PP (Af R i)&&ldK P (ldT (Af R i)) C (pO (fev f (ldX (Af R i)))))=true:=by kernel_rfl)
  (h0:Mu R (gj R [i]) gb' i=true:=by kernel_rfl) (hj:Ff R (gj R [i])=some (gq R [i]):=by kernel_rfl) (hf:f (gq R [i])=.bool gc:=by kernel_rfl):RWP P ro n R Q (i::rest) f w:=by
 simp only [Bool.and_eq_true] at ho
 refine RWP.valG hg ?_ k h0 hj hf
 have:=FJ ho.1
 rw [this];exact Qp hx hp ho.2
theorem Lxg {gb' gc:Bool} (hg:gc=gb') (j:Nat) {b o kk:Nat} {C:Array Value} {E:TypeId} {fz:Nat×Nat} {cs:List Value} (hp:w.heap[b]? =some (.cells C E fz)) (hcs:Ap C o kk=cs) (k:RWP P ro n R Q rest (A0 f (A5 R i) (lxV P (ldT (Af R i)) cs j)) w)
  (hx:fev f (ldX (Af R i))=.pointer (some ⟨b,o + j,none⟩):=by kernel_rfl) (ho:(PP (Af R i)&&lxK P (ldT (Af R i)) cs j kk)=true:=by kernel_rfl)
  (h0:Mu R (gj R [i]) gb' i=true:=by kernel_rfl) (hj:Ff R (gj R [i])=some (gq R [i]):=by kernel_rfl) (hf:f (gq R [i])=.bool gc:=by kernel_rfl):RWP P ro n R Q (i::rest) f w:=by
 simp only [Bool.and_eq_true] at ho
 refine RWP.valG hg ?_ k h0 hj hf
 have:=FJ ho.1
 rw [this];exact Qn hx hp hcs ho.2
theorem Ixg {gb' gc:Bool} (hg:gc=gb') {m:Nat} {y:Int} (hi:0<=y/\y < (m:Int)) (k:RWP P ro n R Q rest (A0 f (A5 R i) (.pointer (some ⟨sB (fev f (ixX (Af R i))),sO (fev f (ixX (Af R i))) + y.toNat * elS P (ixT (Af R i)),none⟩))) w)
  (hx:fev f (ixX (Af R i))=.slice (some ⟨sB (fev f (ixX (Af R i))),sO (fev f (ixX (Af R i))),none⟩) m (sC (fev f (ixX (Af R i)))):=by kernel_rfl) (hy:fev f (ixY (Af R i))=.int (iK (fev f (ixY (Af R i)))) y:=by kernel_rfl)
  (ho:(QF (Af R i)&&slQ P (ixT (Af R i)))=true:=by kernel_rfl)
  (h0:Mu R (gj R [i]) gb' i=true:=by kernel_rfl) (hj:Ff R (gj R [i])=some (gq R [i]):=by kernel_rfl) (hf:f (gq R [i])=.bool gc:=by kernel_rfl):RWP P ro n R Q (i::rest) f w:=by
 simp only [Bool.and_eq_true] at ho
 refine RWP.valG hg ?_ k h0 hj hf
 have e:=GY ho.1
 have:=SC (P:=P) (w:=w) (ty:=FM R i) hi hx hy ho.2
 rw [<-e] at this;exact this
theorem Wn {gb' gc:Bool} (hg:gc=gb') {m:Nat} {y:Int} (hi:0<=y/\y < (m:Int)) (k:RWP P ro n R Q rest (A0 f (A5 R i) (.pointer (some ⟨sB (fev f (ixX (Af R i))),y.toNat * elS P (ixT (Af R i)),none⟩))) w)
  (hx:fev f (ixX (Af R i))=.slice (some ⟨sB (fev f (ixX (Af R i))),0,none⟩) m (sC (fev f (ixX (Af R i)))):=by kernel_rfl) (hy:fev f (ixY (Af R i))=.int (iK (fev f (ixY (Af R i)))) y:=by kernel_rfl)
  (ho:(QF (Af R i)&&slQ P (ixT (Af R i)))=true:=by kernel_rfl)
  (h0:Mu R (gj R [i]) gb' i=true:=by kernel_rfl) (hj:Ff R (gj R [i])=some (gq R [i]):=by kernel_rfl) (hf:f (gq R [i])=.bool gc:=by kernel_rfl):RWP P ro n R Q (i::rest) f w:=by
 simp only [Bool.and_eq_true] at ho
 refine RWP.valG hg ?_ k h0 hj hf
 have e:=GY ho.1
 have:=TX (P:=P) (w:=w) (ty:=FM R i) hi hx hy ho.2
 rw [<-e] at this;exact this
theorem Al' (t:TypeId) (C:Array Value) (hs:HS w0 F0 w F L) (k:∀ b w',HS w0 F0 w' F ((some b,.cells C t (0,0))::L)->RWP P ro n R Q rest (A0 f (A5 R i) (.pointer (some ⟨b,0,none⟩))) w')
  (hC:(BP P t).map Value.cells=some C:=by kernel_rfl) (ho:(ung R i&&Uu t (Af R i))=true:=by kernel_rfl):RWP P ro n R Q (i::rest) f w:=by
 simp only [Bool.and_eq_true] at ho
 cases hz:BP P t with
 | none=>rw [hz] at hC;cases hC
 | some z=>
  rw [hz] at hC;simp only [Option.map_some,Option.some.injEq] at hC
  have e:=Of ho.2
  have:=A8 ho.1
  rw [e] at this
  exact RWP.alloc this rfl hz hC hs k
theorem Bx' (t:TypeId) (C:Array Value) (hs:HS w0 F0 w F L) (k:∀ b w',HS w0 F0 w' F ((some b,.cells C t (0,0))::L)->RWP P ro n R Q rest (A0 f (A5 R i) (.pointer (some ⟨b,0,none⟩))) w')
  (hC:(fev f (bxX (Af R i))).cells=C:=by kernel_rfl) (ho:(ung R i&&Ut t (Af R i))=true:=by kernel_rfl):RWP P ro n R Q (i::rest) f w:=by
 simp only [Bool.and_eq_true] at ho
 have e:=Oe ho.2
 have:=A8 ho.1
 rw [e] at this
 exact RWP.box this rfl rfl hC hs k
theorem Bs (E:TypeId) (cs:List Value) (hs:HS w0 F0 w F L) (k:∀ b w',HS w0 F0 w' F ((some b,.cells cs.toArray E (0,0))::L)->RWP P ro n R Q rest (A0 f (A5 R i) (.slice (some ⟨b,0,none⟩) (bsL (Af R i)) (bsL (Af R i)))) w')
  (hb:bsV P f (Af R i)=some (E,cs):=by kernel_rfl) (ho:ung R i=true:=by kernel_rfl):RWP P ro n R Q (i::rest) f w:=by
 have:=A8 ho
 cases e:Af R i with
 | buildSlice t len parts=>
  rw [e] at hb this k
  exact RWP.buildSlice this rfl rfl hb hs k
 | _=>rw [e] at hb;simp [bsV] at hb
def Da (P:Program) (t:TypeId) (v:Value) (o:Nat) (C:Array Value):Bool:=match EN P t with | some (_,s)=>Nat.beq v.cells.size s&&(decide (o + s<=C.size)&&v.cells.toList.all (·.oneCell')) | none=>false
theorem Hb {ρ:Operand->Value} {t ty:TypeId} {x y:Operand} {b o:Nat} {C C':Array Value} {E:TypeId} (hx:ρ x=.pointer (some ⟨b,o,none⟩)) (hp:w.heap[b]? =some (.cells C E (0,0))) (hk:Da P t (ρ y) o C=true) (hC:C5 C o (ρ y).cells.toList=C'):
  (Al ρ (.store t x y) ty).run P w=.ok .skip (Ca w b (.cells C' E (0,0))):=by
 unfold Da at hk
 split at hk
 ·rename_i g s ht
  simp only [Bool.and_eq_true] at hk
  exact Qi hx rfl ht hp (Nat.eq_of_beq_eq_true hk.1) hk.2.1 hk.2.2 hC
 ·cases hk
theorem JW {b:Nat} {C C':Array Value} {E:TypeId} (hp:w.heap[b]? =some (.cells C E (0,0))) (k:RWP P ro n R Q rest f (Ca w b (.cells C' E (0,0))))
  (hx:fev f (stX (Af R i))=.pointer (some ⟨b,pO (fev f (stX (Af R i))),none⟩)) (hC:C5 C (pO (fev f (stX (Af R i)))) (fev f (stY (Af R i))).cells.toList=C')
  (ho:(ung R i&&(HT (Af R i)&&(Da P (stT (Af R i)) (fev f (stY (Af R i))) (pO (fev f (stX (Af R i)))) C&&(match A5 R i with | none=>true | some _=>false))))=true):RWP P ro n R Q (i::rest) f w:=by
 simp only [Bool.and_eq_true] at ho
 obtain ⟨h1,h2,h3,h4⟩:=ho
 have e:=DQ h2
 have:=A8 h1
 cases hd:A5 R i with
 | some d=>rw [hd] at h4;cases h4
 | none=>
  rw [hd] at this
  refine RWP.unit this rfl ?_ k
  rw [e];exact Hb hx hp h3 hC
theorem Cl' {fid:FuncId} {args:List Value} {post:Mem->Value->Prop} (hok:Ai P fid) (hs:HS w0 F0 w F L) (hc:Calls P fid args.toArray w (AA w F post))
  (k:∀ v F1 w1,HS w0 F0 w1 F1 L->Wv F F1->post F1 v->RWP P ro n R Q rest (A0 f (A5 R i) v) w1) (ha:clV f (Af R i)=some (fid,args):=by kernel_rfl) (ho:ung R i=true:=by kernel_rfl):RWP P ro n R Q (i::rest) f w:=by
 refine Wt (A8 ho) rfl (Kw ha hok) hc ?_
 rintro e w' ⟨r,F',rfl,h1,h2⟩
 exact k r F' w' (hs.call h1) h1.le h2
theorem Cg {fid:FuncId} {args:List Value} {post:Mem->Value->Prop} {b c:Bool} (hg:c=b) (hok:Ai P fid) (hs:HS w0 F0 w F L) (hc:Calls P fid args.toArray w (AA w F post))
  (k:∀ v F1 w1,HS w0 F0 w1 F1 L->Wv F F1->post F1 v->RWP P ro n R Q rest (A0 f (A5 R i) v) w1) (ha:clV f (Af R i)=some (fid,args):=by kernel_rfl)
  (ho:Mu R (gj R [i]) b i=true:=by kernel_rfl) (hj:Ff R (gj R [i])=some (gq R [i]):=by kernel_rfl) (hf:f (gq R [i])=.bool c:=by kernel_rfl):RWP P ro n R Q (i::rest) f w:=by
 have hE:∀ e w',AA w F post e w'->match e with
   | .returned v=>RWP P ro n R Q rest (A0 f (A5 R i) v) w'
   | .panicked chain=>Q (.panic chain) f w'
   | .outgrown=>False:=by
  rintro e w' ⟨r,F',rfl,h1,h2⟩
  exact k r F' w' (hs.call h1) h1.le h2
 rcases MQ ho with e | e
 ·exact Wt e rfl (Kw ha hok) hc hE
 ·exact Wt e (Im hj hf hg) (Kw ha hok) hc hE
theorem CB {fid:FuncId} {args:List Value} {wb:World} {Fb:Mem} {post:Mem->Value->Own->Prop} (hok:Ai P fid) (hc:Calls P fid args.toArray w (EW wb Fb F post))
  (k:∀ v F1 w1 L',HS wb Fb w1 F1 L'->Wv F F1->post F1 v L'->RWP P ro n R Q rest (A0 f (A5 R i) v) w1) (ha:clV f (Af R i)=some (fid,args):=by kernel_rfl) (ho:ung R i=true:=by kernel_rfl):RWP P ro n R Q (i::rest) f w:=by
 refine Wt (A8 ho) rfl (Kw ha hok) hc ?_
 rintro e w' ⟨F',r,L',rfl,h1,h2,h3⟩
 exact k r F' w' L' h1 h2 h3
def clQ (f:Fr):Op->Option (FuncId×List Value)
 | .call c=>(match c.callee with
  | .value f0=>(match fev f f0 with
   | .func (.func g) fi ca=>some (g,fi.toList++(c.args.toList.map (fev f)++ca.toList))
   | _=>none)
  | _=>none)
 | _=>none
theorem VJ (f:Fr) (op:Op):clQ f op=clV f op:=by
 unfold clQ clV
 split <;> try rfl
 split <;> try rfl
 split <;> try rfl
 simp [List.append_assoc]
theorem Cq {fid:FuncId} {args:List Value} {post:Mem->Value->Prop} (hok:Ai P fid) (hs:HS w0 F0 w F L) (hc:Calls P fid args.toArray w (AA w F post))
  (k:∀ v F1 w1,HS w0 F0 w1 F1 L->Wv F F1->post F1 v->RWP P ro n R Q rest (A0 f (A5 R i) v) w1) (ha:clQ f (Af R i)=some (fid,args):=by kernel_rfl) (ho:ung R i=true:=by kernel_rfl):RWP P ro n R Q (i::rest) f w:=Cl' hok hs hc k (VJ f _ ▸ ha) ho
theorem Go (m:Nat) {fid:FuncId} {fn:Func} {args:List Value} {S:Ending->World->Prop} (hf:P.funcs[fid]? =some fn) (h:CWP P none m (NE fn) (VQ P fn.results S) (f0 args) w)
  (hk:(Nat.beq fn.ntmps m&&(decide (args.length<=m)&&isS fn.body))=true:=by kernel_rfl):Calls P fid args.toArray w S:=by
 simp only [Bool.and_eq_true] at hk
 have h1:=Ii (d:=.skip) hk.2.2
 exact Ny hf h1 (Nat.eq_of_beq_eq_true hk.1) hk.2.1 h
theorem Sd {α:Type} {t:Bool} {x y r:α} (h:(bif t then x else y)=r) {PQ:List PanicEntry->List Deferred->World->Prop} {Post:Fr->World->Prop} {z:Nat} {Sw:Bool->World->Prop} {fuel:Nat} {l:List Bool}
  (ht:t=true->x=r->DWP P n R PQ Post z Sw fuel l f w) (hf:t=false->y=r->DWP P n R PQ Post z Sw fuel l f w):DWP P n R PQ Post z Sw fuel l f w:=
 DWP.split t (fun e=>ht e (O2 h e)) (fun e=>hf e (O3 h e))
variable {c : Code} {Q' : Exit -> Fr -> World -> Prop}
theorem Cd {α:Type} {t:Bool} {x y r:α} (h:(bif t then x else y)=r) (ht:t=true->x=r->CWP P ro n (Tw c) Q f w) (hf:t=false->y=r->CWP P ro n (Tx c) Q f w) (hc:fev f (QL c)=.bool t:=by kernel_rfl) (hk:kin c=4:=by kernel_rfl):CWP P ro n c Q f w:=
 CWP.cond hk hc (fun e=>ht e (O2 h e)) (fun e=>hf e (O3 h e))
theorem Cp (t:Bool) (ht:t=true->CWP P ro n (Tw c) Q f w) (hf:t=false->CWP P ro n (Tx c) Q f w) (hc:fev f (QL c)=.bool t:=by kernel_rfl) (hk:kin c=4:=by kernel_rfl):CWP P ro n c Q f w:=CWP.cond hk hc ht hf
theorem C1 {t:Bool} (e:t=true) (h:CWP P ro n (Tw c) Q f w) (hc:fev f (QL c)=.bool t:=by kernel_rfl) (hk:kin c=4:=by kernel_rfl):CWP P ro n c Q f w:=CWP.cond1 hk hc e h
theorem C0 {t:Bool} (e:t=false) (h:CWP P ro n (Tx c) Q f w) (hc:fev f (QL c)=.bool t:=by kernel_rfl) (hk:kin c=4:=by kernel_rfl):CWP P ro n c Q f w:=CWP.cond0 hk hc e h
theorem Sp {α:Type} {t:Bool} {x y r:α} (h:(bif t then x else y)=r) {l:List Nat} (ht:t=true->x=r->RWP P ro n R Q l f w) (hf:t=false->y=r->RWP P ro n R Q l f w):RWP P ro n R Q l f w:=
 WA t (fun e=>ht e (O2 h e)) (fun e=>hf e (O3 h e))
theorem Rt (h:Q .ret f w) (hk:kin c=8:=by kernel_rfl):CWP P ro n c Q f w:=CWP.ret hk h
theorem Ex (h:Q (.exit (cid c)) f w) (hk:kin c=7:=by kernel_rfl):CWP P ro n c Q f w:=CWP.exit hk h
end
def RK (f:Fr):List ResultVar->Option (List Value)
 | []=>some []
 | .tmp t::rs=>(match RK f rs with | some l=>some (f t::l) | none=>none)
 | _=>none
theorem KM {P:Program} {w:World} {f:Fr}:∀ {rs:List ResultVar} {vs:List Value},RK f rs=some vs->TH P w f rs vs
 | [],_,h=>by cases h;trivial
 | .tmp t::rs,vs,h=>by
  unfold RK at h
  split at h
  ·rename_i l hl;cases h;exact ⟨rfl,KM hl⟩
  ·cases h
 | .cell _ _::rs,vs,h=>by simp [RK] at h
theorem Re {P:Program} {rs:Array ResultVar} {w w0:World} {F0 F:Mem} {f:Fr} {L:List (Option Nat×Obj)} {post:Mem->Value->Prop} (vs:List Value) (hs:HS w0 F0 w F L) (hp:post F (JC vs)) (hr:RK f rs.toList=some vs:=by kernel_rfl) (hd:f.d=[]:=by kernel_rfl):
  f.d=[]/\ ∃ v,(Dr rs f).run P w=.ok v w/\AA w0 F0 post (.returned v) w:=
 ⟨hd,JC vs,AQ rfl (KM hr),JC vs,F,rfl,hs.clear,hp⟩
theorem ReB {P:Program} {rs:Array ResultVar} {w wb:World} {Fb F0 F:Mem} {f:Fr} {L:Own} {post:Mem->Value->Own->Prop} (vs:List Value) (hs:HS wb Fb w F L) (hl:Wv F0 F) (hp:post F (JC vs) L) (hr:RK f rs.toList=some vs:=by kernel_rfl) (hd:f.d=[]:=by kernel_rfl):
  f.d=[]/\ ∃ v,(Dr rs f).run P w=.ok v w/\EW wb Fb F0 post (.returned v) w:=
 ⟨hd,JC vs,AQ rfl (KM hr),F,JC vs,L,rfl,hs,hl,hp⟩
section
variable {w0 w : World} {F0 F : Mem} {L : List (Option Nat × Obj)} {e : Option Nat × Obj}
theorem HS.dr0 (h:HS w0 F0 w F (e::L)):HS w0 F0 w F (L):=h.drop 0
theorem HS.at0 {b:Nat} {o:Obj} (h:HS w0 F0 w F ((some b,o)::L)):w.heap[b]? =some o:=h.ownAt (k:=0) rfl
theorem HS.fc0 {b:Nat} {o:Obj} (h:HS w0 F0 w F ((some b,o)::L)):∃ F1,HS w0 F0 w F1 (L)/\Wv F F1/\F1 b=some o:=h.freezeC (k:=0) rfl
theorem HS.fr0 {α:Type} {T:Ty α} {E:TypeId} {a:WS} {cap:Nat} {l:List α} (h:HS w0 F0 w F (e::L)) (hr:As T E F a cap l e):∃ F1,HS w0 F0 w F1 (L)/\Wv F F1/\SlA T F1 a l:=h.freezeRow (k:=0) rfl hr
theorem HS.rd0 {α:Type} {T:Ty α} {E:TypeId} {a:WS} {cap:Nat} {l:List α} (h:HS w0 F0 w F (e::L)) (hr:As T E F a cap l e):Rd T F w a l:=As.rd h (k:=0) rfl hr
theorem HS.dr1 {e0:Option Nat×Obj} (h:HS w0 F0 w F (e0::e::L)):HS w0 F0 w F (e0::L):=h.drop 1
theorem HS.pk1 {e0:Option Nat×Obj} (h:HS w0 F0 w F (e0::e::L)):HS w0 F0 w F (e::e0::L):=h.pick (k:=1) rfl
theorem HS.at1 {e0:Option Nat×Obj} {b:Nat} {o:Obj} (h:HS w0 F0 w F (e0::(some b,o)::L)):w.heap[b]? =some o:=h.ownAt (k:=1) rfl
theorem HS.fc1 {e0:Option Nat×Obj} {b:Nat} {o:Obj} (h:HS w0 F0 w F (e0::(some b,o)::L)):∃ F1,HS w0 F0 w F1 (e0::L)/\Wv F F1/\F1 b=some o:=h.freezeC (k:=1) rfl
theorem HS.fr1 {e0:Option Nat×Obj} {α:Type} {T:Ty α} {E:TypeId} {a:WS} {cap:Nat} {l:List α} (h:HS w0 F0 w F (e0::e::L)) (hr:As T E F a cap l e):∃ F1,HS w0 F0 w F1 (e0::L)/\Wv F F1/\SlA T F1 a l:=h.freezeRow (k:=1) rfl hr
theorem HS.dr2 {e0 e1:Option Nat×Obj} (h:HS w0 F0 w F (e0::e1::e::L)):HS w0 F0 w F (e0::e1::L):=h.drop 2
theorem HS.pk2 {e0 e1:Option Nat×Obj} (h:HS w0 F0 w F (e0::e1::e::L)):HS w0 F0 w F (e::e0::e1::L):=h.pick (k:=2) rfl
theorem HS.at2 {e0 e1:Option Nat×Obj} {b:Nat} {o:Obj} (h:HS w0 F0 w F (e0::e1::(some b,o)::L)):w.heap[b]? =some o:=h.ownAt (k:=2) rfl
theorem HS.dr3 {e0 e1 e2:Option Nat×Obj} (h:HS w0 F0 w F (e0::e1::e2::e::L)):HS w0 F0 w F (e0::e1::e2::L):=h.drop 3
theorem HS.pk3 {e0 e1 e2:Option Nat×Obj} (h:HS w0 F0 w F (e0::e1::e2::e::L)):HS w0 F0 w F (e::e0::e1::e2::L):=h.pick (k:=3) rfl
theorem HS.at3 {e0 e1 e2:Option Nat×Obj} {b:Nat} {o:Obj} (h:HS w0 F0 w F (e0::e1::e2::(some b,o)::L)):w.heap[b]? =some o:=h.ownAt (k:=3) rfl
theorem HS.dr4 {e0 e1 e2 e3:Option Nat×Obj} (h:HS w0 F0 w F (e0::e1::e2::e3::e::L)):HS w0 F0 w F (e0::e1::e2::e3::L):=h.drop 4
theorem HS.pk4 {e0 e1 e2 e3:Option Nat×Obj} (h:HS w0 F0 w F (e0::e1::e2::e3::e::L)):HS w0 F0 w F (e::e0::e1::e2::e3::L):=h.pick (k:=4) rfl
theorem HS.at4 {e0 e1 e2 e3:Option Nat×Obj} {b:Nat} {o:Obj} (h:HS w0 F0 w F (e0::e1::e2::e3::(some b,o)::L)):w.heap[b]? =some o:=h.ownAt (k:=4) rfl
theorem HS.dr5 {e0 e1 e2 e3 e4:Option Nat×Obj} (h:HS w0 F0 w F (e0::e1::e2::e3::e4::e::L)):HS w0 F0 w F (e0::e1::e2::e3::e4::L):=h.drop 5
theorem HS.pk5 {e0 e1 e2 e3 e4:Option Nat×Obj} (h:HS w0 F0 w F (e0::e1::e2::e3::e4::e::L)):HS w0 F0 w F (e::e0::e1::e2::e3::e4::L):=h.pick (k:=5) rfl
theorem HS.at5 {e0 e1 e2 e3 e4:Option Nat×Obj} {b:Nat} {o:Obj} (h:HS w0 F0 w F (e0::e1::e2::e3::e4::(some b,o)::L)):w.heap[b]? =some o:=h.ownAt (k:=5) rfl
theorem HS.pk6 {e0 e1 e2 e3 e4 e5:Option Nat×Obj} (h:HS w0 F0 w F (e0::e1::e2::e3::e4::e5::e::L)):HS w0 F0 w F (e::e0::e1::e2::e3::e4::e5::L):=h.pick (k:=6) rfl
theorem HS.at6 {e0 e1 e2 e3 e4 e5:Option Nat×Obj} {b:Nat} {o:Obj} (h:HS w0 F0 w F (e0::e1::e2::e3::e4::e5::(some b,o)::L)):w.heap[b]? =some o:=h.ownAt (k:=6) rfl
theorem HS.pk7 {e0 e1 e2 e3 e4 e5 e6:Option Nat×Obj} (h:HS w0 F0 w F (e0::e1::e2::e3::e4::e5::e6::e::L)):HS w0 F0 w F (e::e0::e1::e2::e3::e4::e5::e6::L):=h.pick (k:=7) rfl
variable {P : Program} {ro : Option Nat} {n : Nat} {R : Array Oper} {Q : Exit -> Fr -> World -> Prop} {i : Nat} {rest : List Nat} {f : Fr} {α : Type} {T : Ty α} {E : TypeId} {a : WS} {cap : Nat} {l m : List α}
def apX:Op->Operand | .call c=>c.args[0]?.getD (.tmp 0) | _=>.tmp 0
def apY:Op->Operand | .call c=>c.args[1]?.getD (.tmp 0) | _=>.tmp 0
def apK (P:Program) (E:TypeId) (sz:Nat):Op->Bool
 | .call c=>(match c.callee with
  | .builtin .append=>(match c.args.toList,c.argTypes.toList with
   | [_,_],[t,t2]=>(match Bu P t,BP P E with
    | some (E',s,by_),some z=>Nat.beq E E'&&(Nat.beq s sz&&(decide (by_<=1024)&&(M9 P t2&&Nat.beq z.cells.size sz)))
    | _,_=>false)
   | _,_=>false)
  | _=>false)
 | _=>false
theorem Ge {op:Op} {sz:Nat} (h:apK P E sz op=true):∃ t t2 by_ z,op=.call {callee:=.builtin .append,args:=#[apX op,apY op],argTypes:=#[t,t2]}/\Bu P t=some (E,sz,by_)/\decide (by_<=1024)=true/\M9 P t2=true/\BP P E=some z/\z.cells.size=sz:=by
 unfold apK at h
 split at h
 ·rename_i c
  obtain ⟨callee,aos,ats⟩:=c
  simp only at h
  split at h
  ·split at h
   ·rename_i x y t t2 h1 h2
    split at h
    ·rename_i E' s by_ z he hz
     simp only [Bool.and_eq_true] at h
     obtain ⟨e1,e2,e3,e4,e5⟩:=h
     have e1:=Nat.eq_of_beq_eq_true e1
     have e2:=Nat.eq_of_beq_eq_true e2
     subst e1;subst e2
     have ha:aos=#[x,y]:=by cases aos;simpa using h1
     have hb:ats=#[t,t2]:=by cases ats;simpa using h2
     subst ha;subst hb
     exact ⟨t,t2,by_,z,rfl,he,e3,e4,hz,Nat.eq_of_beq_eq_true e5⟩
    ·cases h
   ·cases h
  ·cases h
 ·cases h
theorem St0 {b:Nat} {C:Array Value} {E:TypeId} (C':Array Value) (hs:HS w0 F0 w F ((some b,.cells C E (0,0))::L)) (k:∀ w',HS w0 F0 w' F ((some b,.cells C' E (0,0))::L)->RWP P ro n R Q rest f w')
  (hx:fev f (stX (Af R i))=.pointer (some ⟨b,pO (fev f (stX (Af R i))),none⟩):=by kernel_rfl) (hC:C5 C (pO (fev f (stX (Af R i)))) (fev f (stY (Af R i))).cells.toList=C':=by kernel_rfl)
  (ho:(ung R i&&(HT (Af R i)&&(Da P (stT (Af R i)) (fev f (stY (Af R i))) (pO (fev f (stX (Af R i)))) C&&(match A5 R i with | none=>true | some _=>false))))=true:=by kernel_rfl):RWP P ro n R Q (i::rest) f w:=
 JW (hs.ownAt (k:=0) rfl) (k _ (hs.put (k:=0) rfl _)) hx hC ho
theorem Ap0 {a2:WS} (h1:T.One) (hs:HS w0 F0 w F (e::L)) (hr:As T E F a cap l e) (hm:Rd T F w a2 m) {r:List α} (hap:DX l m=some r)
  (k:∀ a' cap' e' w',HS w0 F0 w' F (e'::L)->As T E F a' cap' r e'->RWP P ro n R Q rest (A0 f (A5 R i) (.slice a' r.length cap')) w')
  (hx:fev f (apX (Af R i))=.slice a l.length cap:=by kernel_rfl) (hy:fev f (apY (Af R i))=.slice a2 m.length (sC (fev f (apY (Af R i)))):=by kernel_rfl) (ho:(ung R i&&apK P E T.sz (Af R i))=true:=by kernel_rfl):RWP P ro n R Q (i::rest) f w:=by
 simp only [Bool.and_eq_true] at ho
 obtain ⟨t,t2,by_,z,e1,he,hb,hni,hz,hzs⟩:=Ge ho.2
 have:=A8 ho.1
 rw [e1] at this
 exact RWP.append this rfl hx hy he hb hni hz hzs h1 hs (k:=0) rfl hr hm hap k
theorem St1 {e0:Option Nat×Obj} {b:Nat} {C:Array Value} {E:TypeId} (C':Array Value) (hs:HS w0 F0 w F (e0::(some b,.cells C E (0,0))::L)) (k:∀ w',HS w0 F0 w' F (e0::(some b,.cells C' E (0,0))::L)->RWP P ro n R Q rest f w')
  (hx:fev f (stX (Af R i))=.pointer (some ⟨b,pO (fev f (stX (Af R i))),none⟩):=by kernel_rfl) (hC:C5 C (pO (fev f (stX (Af R i)))) (fev f (stY (Af R i))).cells.toList=C':=by kernel_rfl)
  (ho:(ung R i&&(HT (Af R i)&&(Da P (stT (Af R i)) (fev f (stY (Af R i))) (pO (fev f (stX (Af R i)))) C&&(match A5 R i with | none=>true | some _=>false))))=true:=by kernel_rfl):RWP P ro n R Q (i::rest) f w:=
 JW (hs.ownAt (k:=1) rfl) (k _ (hs.put (k:=1) rfl _)) hx hC ho
theorem Ap1 {e0:Option Nat×Obj} {a2:WS} (h1:T.One) (hs:HS w0 F0 w F (e0::e::L)) (hr:As T E F a cap l e) (hm:Rd T F w a2 m) {r:List α} (hap:DX l m=some r)
  (k:∀ a' cap' e' w',HS w0 F0 w' F (e0::e'::L)->As T E F a' cap' r e'->RWP P ro n R Q rest (A0 f (A5 R i) (.slice a' r.length cap')) w')
  (hx:fev f (apX (Af R i))=.slice a l.length cap:=by kernel_rfl) (hy:fev f (apY (Af R i))=.slice a2 m.length (sC (fev f (apY (Af R i)))):=by kernel_rfl) (ho:(ung R i&&apK P E T.sz (Af R i))=true:=by kernel_rfl):RWP P ro n R Q (i::rest) f w:=by
 simp only [Bool.and_eq_true] at ho
 obtain ⟨t,t2,by_,z,e1,he,hb,hni,hz,hzs⟩:=Ge ho.2
 have:=A8 ho.1
 rw [e1] at this
 exact RWP.append this rfl hx hy he hb hni hz hzs h1 hs (k:=1) rfl hr hm hap k
theorem St2 {e0 e1:Option Nat×Obj} {b:Nat} {C:Array Value} {E:TypeId} (C':Array Value) (hs:HS w0 F0 w F (e0::e1::(some b,.cells C E (0,0))::L)) (k:∀ w',HS w0 F0 w' F (e0::e1::(some b,.cells C' E (0,0))::L)->RWP P ro n R Q rest f w')
  (hx:fev f (stX (Af R i))=.pointer (some ⟨b,pO (fev f (stX (Af R i))),none⟩):=by kernel_rfl) (hC:C5 C (pO (fev f (stX (Af R i)))) (fev f (stY (Af R i))).cells.toList=C':=by kernel_rfl)
  (ho:(ung R i&&(HT (Af R i)&&(Da P (stT (Af R i)) (fev f (stY (Af R i))) (pO (fev f (stX (Af R i)))) C&&(match A5 R i with | none=>true | some _=>false))))=true:=by kernel_rfl):RWP P ro n R Q (i::rest) f w:=
 JW (hs.ownAt (k:=2) rfl) (k _ (hs.put (k:=2) rfl _)) hx hC ho
theorem Ap2 {e0 e1:Option Nat×Obj} {a2:WS} (h1:T.One) (hs:HS w0 F0 w F (e0::e1::e::L)) (hr:As T E F a cap l e) (hm:Rd T F w a2 m) {r:List α} (hap:DX l m=some r)
  (k:∀ a' cap' e' w',HS w0 F0 w' F (e0::e1::e'::L)->As T E F a' cap' r e'->RWP P ro n R Q rest (A0 f (A5 R i) (.slice a' r.length cap')) w')
  (hx:fev f (apX (Af R i))=.slice a l.length cap:=by kernel_rfl) (hy:fev f (apY (Af R i))=.slice a2 m.length (sC (fev f (apY (Af R i)))):=by kernel_rfl) (ho:(ung R i&&apK P E T.sz (Af R i))=true:=by kernel_rfl):RWP P ro n R Q (i::rest) f w:=by
 simp only [Bool.and_eq_true] at ho
 obtain ⟨t,t2,by_,z,e1,he,hb,hni,hz,hzs⟩:=Ge ho.2
 have:=A8 ho.1
 rw [e1] at this
 exact RWP.append this rfl hx hy he hb hni hz hzs h1 hs (k:=2) rfl hr hm hap k
theorem St3 {e0 e1 e2:Option Nat×Obj} {b:Nat} {C:Array Value} {E:TypeId} (C':Array Value) (hs:HS w0 F0 w F (e0::e1::e2::(some b,.cells C E (0,0))::L)) (k:∀ w',HS w0 F0 w' F (e0::e1::e2::(some b,.cells C' E (0,0))::L)->RWP P ro n R Q rest f w')
  (hx:fev f (stX (Af R i))=.pointer (some ⟨b,pO (fev f (stX (Af R i))),none⟩):=by kernel_rfl) (hC:C5 C (pO (fev f (stX (Af R i)))) (fev f (stY (Af R i))).cells.toList=C':=by kernel_rfl)
  (ho:(ung R i&&(HT (Af R i)&&(Da P (stT (Af R i)) (fev f (stY (Af R i))) (pO (fev f (stX (Af R i)))) C&&(match A5 R i with | none=>true | some _=>false))))=true:=by kernel_rfl):RWP P ro n R Q (i::rest) f w:=
 JW (hs.ownAt (k:=3) rfl) (k _ (hs.put (k:=3) rfl _)) hx hC ho
theorem St5 {e0 e1 e2 e3 e4:Option Nat×Obj} {b:Nat} {C:Array Value} {E:TypeId} (C':Array Value) (hs:HS w0 F0 w F (e0::e1::e2::e3::e4::(some b,.cells C E (0,0))::L)) (k:∀ w',HS w0 F0 w' F (e0::e1::e2::e3::e4::(some b,.cells C' E (0,0))::L)->RWP P ro n R Q rest f w')
  (hx:fev f (stX (Af R i))=.pointer (some ⟨b,pO (fev f (stX (Af R i))),none⟩):=by kernel_rfl) (hC:C5 C (pO (fev f (stX (Af R i)))) (fev f (stY (Af R i))).cells.toList=C':=by kernel_rfl)
  (ho:(ung R i&&(HT (Af R i)&&(Da P (stT (Af R i)) (fev f (stY (Af R i))) (pO (fev f (stX (Af R i)))) C&&(match A5 R i with | none=>true | some _=>false))))=true:=by kernel_rfl):RWP P ro n R Q (i::rest) f w:=
 JW (hs.ownAt (k:=5) rfl) (k _ (hs.put (k:=5) rfl _)) hx hC ho
theorem Ap5 {e0 e1 e2 e3 e4:Option Nat×Obj} {a2:WS} (h1:T.One) (hs:HS w0 F0 w F (e0::e1::e2::e3::e4::e::L)) (hr:As T E F a cap l e) (hm:Rd T F w a2 m) {r:List α} (hap:DX l m=some r)
  (k:∀ a' cap' e' w',HS w0 F0 w' F (e0::e1::e2::e3::e4::e'::L)->As T E F a' cap' r e'->RWP P ro n R Q rest (A0 f (A5 R i) (.slice a' r.length cap')) w')
  (hx:fev f (apX (Af R i))=.slice a l.length cap:=by kernel_rfl) (hy:fev f (apY (Af R i))=.slice a2 m.length (sC (fev f (apY (Af R i)))):=by kernel_rfl) (ho:(ung R i&&apK P E T.sz (Af R i))=true:=by kernel_rfl):RWP P ro n R Q (i::rest) f w:=by
 simp only [Bool.and_eq_true] at ho
 obtain ⟨t,t2,by_,z,e1,he,hb,hni,hz,hzs⟩:=Ge ho.2
 have:=A8 ho.1
 rw [e1] at this
 exact RWP.append this rfl hx hy he hb hni hz hzs h1 hs (k:=5) rfl hr hm hap k
theorem St6 {e0 e1 e2 e3 e4 e5:Option Nat×Obj} {b:Nat} {C:Array Value} {E:TypeId} (C':Array Value) (hs:HS w0 F0 w F (e0::e1::e2::e3::e4::e5::(some b,.cells C E (0,0))::L)) (k:∀ w',HS w0 F0 w' F (e0::e1::e2::e3::e4::e5::(some b,.cells C' E (0,0))::L)->RWP P ro n R Q rest f w')
  (hx:fev f (stX (Af R i))=.pointer (some ⟨b,pO (fev f (stX (Af R i))),none⟩):=by kernel_rfl) (hC:C5 C (pO (fev f (stX (Af R i)))) (fev f (stY (Af R i))).cells.toList=C':=by kernel_rfl)
  (ho:(ung R i&&(HT (Af R i)&&(Da P (stT (Af R i)) (fev f (stY (Af R i))) (pO (fev f (stX (Af R i)))) C&&(match A5 R i with | none=>true | some _=>false))))=true:=by kernel_rfl):RWP P ro n R Q (i::rest) f w:=
 JW (hs.ownAt (k:=6) rfl) (k _ (hs.put (k:=6) rfl _)) hx hC ho
theorem Ap6 {e0 e1 e2 e3 e4 e5:Option Nat×Obj} {a2:WS} (h1:T.One) (hs:HS w0 F0 w F (e0::e1::e2::e3::e4::e5::e::L)) (hr:As T E F a cap l e) (hm:Rd T F w a2 m) {r:List α} (hap:DX l m=some r)
  (k:∀ a' cap' e' w',HS w0 F0 w' F (e0::e1::e2::e3::e4::e5::e'::L)->As T E F a' cap' r e'->RWP P ro n R Q rest (A0 f (A5 R i) (.slice a' r.length cap')) w')
  (hx:fev f (apX (Af R i))=.slice a l.length cap:=by kernel_rfl) (hy:fev f (apY (Af R i))=.slice a2 m.length (sC (fev f (apY (Af R i)))):=by kernel_rfl) (ho:(ung R i&&apK P E T.sz (Af R i))=true:=by kernel_rfl):RWP P ro n R Q (i::rest) f w:=by
 simp only [Bool.and_eq_true] at ho
 obtain ⟨t,t2,by_,z,e1,he,hb,hni,hz,hzs⟩:=Ge ho.2
 have:=A8 ho.1
 rw [e1] at this
 exact RWP.append this rfl hx hy he hb hni hz hzs h1 hs (k:=6) rfl hr hm hap k
theorem St7 {e0 e1 e2 e3 e4 e5 e6:Option Nat×Obj} {b:Nat} {C:Array Value} {E:TypeId} (C':Array Value) (hs:HS w0 F0 w F (e0::e1::e2::e3::e4::e5::e6::(some b,.cells C E (0,0))::L)) (k:∀ w',HS w0 F0 w' F (e0::e1::e2::e3::e4::e5::e6::(some b,.cells C' E (0,0))::L)->RWP P ro n R Q rest f w')
  (hx:fev f (stX (Af R i))=.pointer (some ⟨b,pO (fev f (stX (Af R i))),none⟩):=by kernel_rfl) (hC:C5 C (pO (fev f (stX (Af R i)))) (fev f (stY (Af R i))).cells.toList=C':=by kernel_rfl)
  (ho:(ung R i&&(HT (Af R i)&&(Da P (stT (Af R i)) (fev f (stY (Af R i))) (pO (fev f (stX (Af R i)))) C&&(match A5 R i with | none=>true | some _=>false))))=true:=by kernel_rfl):RWP P ro n R Q (i::rest) f w:=
 JW (hs.ownAt (k:=7) rfl) (k _ (hs.put (k:=7) rfl _)) hx hC ho
end
section
variable {P : Program} {n : Nat} {R : Array Oper} {Q : Exit -> Fr -> World -> Prop} {PQ : List PanicEntry -> List Deferred -> World -> Prop} {Post : Fr -> World -> Prop} {z fuel : Nat} {Sw : Bool -> World -> Prop} {i : Nat} {f : Fr} {w w' w0 : World} {F0 F Fs : Mem} {l : List Bool} {L Lc Lz : List (Option Nat × Obj)} {e : Option Nat × Obj}
def rdy (R:Array Oper) (z i:Nat) (l:List Bool):Bool:=Region.free .any R l.toArray i&&((Region.ready .any R l.toArray).contains i&&Ji R z i)
def dvf (P:Program) (R:Array Oper):List Nat->Fr->Fr
 | [],f=>f
 | i::is,f=>dvf P R is (A0 f (A5 R i) ((pv P (fev f) (Af R i)).getD undef))
def dvl:List Nat->List Bool->List Bool
 | [],l=>l
 | i::is,l=>dvl is (l.set i true)
def Tv (P:Program) (R:Array Oper) (z:Nat):List Nat->List Bool->Fr->Bool
 | [],_,_=>true
 | i::is,l,f=>ung R i&&(isS (pv P (fev f) (Af R i))&&(rdy R z i l&&Tv P R z is (l.set i true) (A0 f (A5 R i) ((pv P (fev f) (Af R i)).getD undef))))
theorem TL:∀ (is:List Nat) {l:List Bool} {f:Fr} {fuel:Nat},DWP P n R PQ Post z Sw fuel (dvl is l) (dvf P R is f) w->Tv P R z is l f=true->DWP P n R PQ Post z Sw (fuel + is.length) l f w
 | [],_,_,_,k,_=>k
 | i::is,l,f,fuel,k,h=>by
  simp only [Tv,rdy,Bool.and_eq_true] at h
  obtain ⟨h1,h2,⟨h3,h4,h5⟩,h6⟩:=h
  exact DWP.take (A8 h1) h3 h4 h5 rfl rfl (fun _ _=>OH (Ii h2)) rfl (TL is k h6)
theorem Dv (is:List Nat) {fu:Nat} (k:DWP P n R PQ Post z Sw (fu - is.length) (dvl is l) (dvf P R is f) w) (h:Tv P R z is l f=true:=by kernel_rfl) (hfu:Nat.beq fu ((fu - is.length) + is.length)=true:=by kernel_rfl):DWP P n R PQ Post z Sw fu l f w:=by
 have:=Nat.eq_of_beq_eq_true hfu;rw [this]
 exact TL is k h
theorem Dvl (is:List Nat) (l':List Bool) {fu:Nat} (k:DWP P n R PQ Post z Sw (fu - is.length) l' (dvf P R is f) w) (h:Tv P R z is l f=true:=by kernel_rfl) (hl:dvl is l=l':=by kernel_rfl) (hfu:Nat.beq fu ((fu - is.length) + is.length)=true:=by kernel_rfl):DWP P n R PQ Post z Sw fu l f w:=by
 subst hl;exact Dv is k h hfu
theorem DWP.tk {v:Value} (i:Nat) {fu:Nat} (hy:∀ w',Sw (l.toArray.getD z true) w'->(Al (fev f) (Af R i) (FM R i)).run P w'=.ok (.value v) w') (k:DWP P n R PQ Post z Sw (fu - 1) (l.set i true) (A0 f (A5 R i) v) w) (ho:ung R i=true) (hr:rdy R z i l=true)
  (hfu:Nat.beq fu ((fu - 1) + 1)=true):DWP P n R PQ Post z Sw fu l f w:=by
 simp only [rdy,Bool.and_eq_true] at hr
 have:=Nat.eq_of_beq_eq_true hfu;rw [this]
 exact DWP.take (A8 ho) hr.1 hr.2.1 hr.2.2 rfl rfl hy rfl k
theorem Dl (i:Nat) {fu b:Nat} {C:Array Value} {E:TypeId} {fz:Nat×Nat} (hp:∀ w',Sw (l.toArray.getD z true) w'->w'.heap[b]? =some (.cells C E fz)) (k:DWP P n R PQ Post z Sw (fu - 1) (l.set i true) (A0 f (A5 R i) (ldV P (ldT (Af R i)) C (pO (fev f (ldX (Af R i)))))) w)
  (hx:fev f (ldX (Af R i))=.pointer (some ⟨b,pO (fev f (ldX (Af R i))),none⟩):=by kernel_rfl) (ho:(ung R i&&(PP (Af R i)&&ldK P (ldT (Af R i)) C (pO (fev f (ldX (Af R i))))))=true:=by kernel_rfl) (hr:rdy R z i l=true:=by kernel_rfl)
  (hfu:Nat.beq fu ((fu - 1) + 1)=true:=by kernel_rfl):DWP P n R PQ Post z Sw fu l f w:=by
 simp only [Bool.and_eq_true] at ho
 refine DWP.tk i (fun w' hw=>?_) k ho.1 hr hfu
 have:=FJ ho.2.1
 rw [this];exact Qp hx (hp w' hw) ho.2.2
theorem Dx (i j:Nat) {fu b o kk:Nat} {C:Array Value} {E:TypeId} {fz:Nat×Nat} {cs:List Value} (hp:∀ w',Sw (l.toArray.getD z true) w'->w'.heap[b]? =some (.cells C E fz)) (hc:Ap C o kk=cs) (k:DWP P n R PQ Post z Sw (fu - 1) (l.set i true) (A0 f (A5 R i) (lxV P (ldT (Af R i)) cs j)) w)
  (hx:fev f (ldX (Af R i))=.pointer (some ⟨b,o + j,none⟩):=by kernel_rfl) (ho:(ung R i&&(PP (Af R i)&&lxK P (ldT (Af R i)) cs j kk))=true:=by kernel_rfl) (hr:rdy R z i l=true:=by kernel_rfl)
  (hfu:Nat.beq fu ((fu - 1) + 1)=true:=by kernel_rfl):DWP P n R PQ Post z Sw fu l f w:=by
 simp only [Bool.and_eq_true] at ho
 refine DWP.tk i (fun w' hw=>?_) k ho.1 hr hfu
 have:=FJ ho.2.1
 rw [this];exact Qn hx (hp w' hw) hc ho.2.2
theorem Di (i:Nat) {fu m:Nat} {q:Int} (hi:0<=q/\q < (m:Int)) (k:DWP P n R PQ Post z Sw (fu - 1) (l.set i true) (A0 f (A5 R i) (.pointer (some ⟨sB (fev f (ixX (Af R i))),sO (fev f (ixX (Af R i))) + q.toNat * elS P (ixT (Af R i)),none⟩))) w)
  (hx:fev f (ixX (Af R i))=.slice (some ⟨sB (fev f (ixX (Af R i))),sO (fev f (ixX (Af R i))),none⟩) m (sC (fev f (ixX (Af R i)))):=by kernel_rfl) (hy:fev f (ixY (Af R i))=.int (iK (fev f (ixY (Af R i)))) q:=by kernel_rfl)
  (ho:(ung R i&&(QF (Af R i)&&slQ P (ixT (Af R i))))=true:=by kernel_rfl) (hr:rdy R z i l=true:=by kernel_rfl) (hfu:Nat.beq fu ((fu - 1) + 1)=true:=by kernel_rfl):DWP P n R PQ Post z Sw fu l f w:=by
 simp only [Bool.and_eq_true] at ho
 refine DWP.tk i (fun w' hw=>?_) k ho.1 hr hfu
 have e:=GY ho.2.1
 have:=SC (P:=P) (w:=w') (ty:=FM R i) hi hx hy ho.2.2
 rw [<-e] at this;exact this
theorem D1 (i:Nat) {fu:Nat} (h:Aw P n R PQ Post z Sw (fu - 1) l i f w) (hr:Region.ready .any R l.toArray=[i]:=by kernel_rfl) (hfu:Nat.beq fu ((fu - 1) + 1)=true:=by kernel_rfl):DWP P n R PQ Post z Sw fu l f w:=by
 have:=Nat.eq_of_beq_eq_true hfu;rw [this]
 exact DWP.one hr h
theorem zdT {zd:Bool} {A:Prop} (h:zd=true):zd=false->A:=fun e=>by rw [h] at e;cases e
theorem DCl {fid:FuncId} {args:List Value} {post:Mem->Value->Prop} (hok:Ai P fid) (hs:HS w0 F0 w F L) (hc:Calls P fid args.toArray w (AA w F post))
  (k:∀ v F1 w1,HS w0 F0 w1 F1 L->Wv F F1->post F1 v->DWP P n R PQ Post z (DZ Fs Lc Lz) fuel (l.set i true) (A0 f (A5 R i) v) w1) (ha:clV f (Af R i)=some (fid,args):=by kernel_rfl) (ho:ung R i=true:=by kernel_rfl)
  (hz:((l.set i true).toArray.getD z true==l.toArray.getD z true)=true:=by kernel_rfl):Aw P n R PQ Post z (DZ Fs Lc Lz) fuel l i f w:=by
 cases e:Af R i with
 | call c=>
  obtain ⟨callee,aos,ats⟩:=c
  have ho':=A8 ho
  rw [e] at ha ho'
  unfold clV at ha
  simp only at ha
  split at ha
  ·split at ha
   ·rename_i hf
    simp only [Option.some.injEq,Prod.mk.injEq] at ha
    obtain ⟨rfl,rfl⟩:=ha
    exact WH rfl (by simpa using hz) rfl ho' rfl hf hok rfl hs hc k
   ·cases ha
  ·cases ha
 | _=>rw [e] at ha;simp [clV] at ha
theorem DBs (E:TypeId) (cs:List Value) (hs:HS w0 F0 w F L) (hle:Wv Fs F) (k:∀ b w',HS w0 F0 w' F ((some b,.cells cs.toArray E (0,0))::L)->DWP P n R PQ Post z (DZ Fs Lc Lz) fuel (l.set i true) (A0 f (A5 R i) (.slice (some ⟨b,0,none⟩) (bsL (Af R i)) (bsL (Af R i)))) w')
  (hb:bsV P f (Af R i)=some (E,cs):=by kernel_rfl) (ho:ung R i=true:=by kernel_rfl) (hL:∀ p,p∈Lc->p∈L:=by simp) (hLz:(l.set i true).toArray.getD z true=false->∀ p,p∈Lz->p∈L:=by first | (intro _;simp;done) | exact zdT (by kernel_rfl)):Aw P n R PQ Post z (DZ Fs Lc Lz) fuel l i f w:=by
 have:=A8 ho
 cases e:Af R i with
 | buildSlice t len parts=>
  rw [e] at hb this k
  exact Aw.buildSlice rfl rfl this rfl rfl hb hs hle hL hLz k
 | _=>rw [e] at hb;simp [bsV] at hb
theorem DAl (t:TypeId) (C:Array Value) (hs:HS w0 F0 w F L) (hle:Wv Fs F) (k:∀ b w',HS w0 F0 w' F ((some b,.cells C t (0,0))::L)->DWP P n R PQ Post z (DZ Fs Lc Lz) fuel (l.set i true) (A0 f (A5 R i) (.pointer (some ⟨b,0,none⟩))) w')
  (hC:(BP P t).map Value.cells=some C:=by kernel_rfl) (ho:(ung R i&&Uu t (Af R i))=true:=by kernel_rfl) (hL:∀ p,p∈Lc->p∈L:=by simp) (hLz:(l.set i true).toArray.getD z true=false->∀ p,p∈Lz->p∈L:=by first | (intro _;simp;done) | exact zdT (by kernel_rfl)):Aw P n R PQ Post z (DZ Fs Lc Lz) fuel l i f w:=by
 simp only [Bool.and_eq_true] at ho
 cases hz:BP P t with
 | none=>rw [hz] at hC;cases hC
 | some z=>
  rw [hz] at hC;simp only [Option.map_some,Option.some.injEq] at hC
  have e:=Of ho.2
  have:=A8 ho.1
  rw [e] at this
  exact Aw.alloc rfl rfl this rfl hz hC hs hle hL hLz k
theorem DBx (t:TypeId) (C:Array Value) (hs:HS w0 F0 w F L) (hle:Wv Fs F) (k:∀ b w',HS w0 F0 w' F ((some b,.cells C t (0,0))::L)->DWP P n R PQ Post z (DZ Fs Lc Lz) fuel (l.set i true) (A0 f (A5 R i) (.pointer (some ⟨b,0,none⟩))) w')
  (hC:(fev f (bxX (Af R i))).cells=C:=by kernel_rfl) (ho:(ung R i&&Ut t (Af R i))=true:=by kernel_rfl) (hL:∀ p,p∈Lc->p∈L:=by simp) (hLz:(l.set i true).toArray.getD z true=false->∀ p,p∈Lz->p∈L:=by first | (intro _;simp;done) | exact zdT (by kernel_rfl)):Aw P n R PQ Post z (DZ Fs Lc Lz) fuel l i f w:=by
 simp only [Bool.and_eq_true] at ho
 have e:=Oe ho.2
 have:=A8 ho.1
 rw [e] at this
 exact Aw.box rfl rfl this rfl rfl hC hs hle hL hLz k
theorem DCB {fid:FuncId} {args:List Value} {wb:World} {Fb:Mem} {post:Mem->Value->Own->Prop} (hok:Ai P fid) (hc:Calls P fid args.toArray w (EW wb Fb F post))
  (k:∀ v F1 w1 L',HS wb Fb w1 F1 L'->Wv F F1->post F1 v L'->DZ Fs Lc Lz ((l.set i true).toArray.getD z true) w1/\DWP P n R PQ Post z (DZ Fs Lc Lz) fuel (l.set i true) (A0 f (A5 R i) v) w1) (ha:clV f (Af R i)=some (fid,args):=by kernel_rfl) (ho:ung R i=true:=by kernel_rfl):Aw P n R PQ Post z (DZ Fs Lc Lz) fuel l i f w:=by
 cases e:Af R i with
 | call c=>
  obtain ⟨callee,aos,ats⟩:=c
  have ho':=A8 ho
  rw [e] at ha ho'
  unfold clV at ha
  simp only at ha
  split at ha
  ·split at ha
   ·rename_i hf
    simp only [Option.some.injEq,Prod.mk.injEq] at ha
    obtain ⟨rfl,rfl⟩:=ha
    exact Aw.callB rfl rfl ho' rfl hf hok rfl hc k
   ·cases ha
  ·cases ha
 | _=>rw [e] at ha;simp [clV] at ha
def fls:Nat->List Bool
 | 0=>[]
 | n + 1=>false::fls n
variable {c : Code}
def Uc (R:Array Oper):Bool:=R.all fun o=>!Mm o.op
def U5 (P:Program) (n m:Nat) (c:Code):Bool:=Nat.beq (kin c) 2&&(okR n (KW c)&&(Region.noSelect (KW c)&&(Uc (KW c)&&Nat.beq (KW c).size m)))
theorem VA:∀ n,Array.replicate n false=(fls n).toArray:=fun n=>by
 have:List.replicate n false=fls n:=by induction n with
  | zero=>rfl
  | succ n ih=>rw [List.replicate_succ,ih];rfl
 rw [<-this];simp
theorem T9 {R:Array Oper} (hd:Uc R=true) (ro:Option Nat) {Q:Exit->Act->World->Prop} {i:Nat} {K K':Act->World->Prop} (hK:∀ a w,K a w->K' a w) {a:Act} {w:World} (h:wpOpIn (FW none) 0 P R Q i K a w):wpOpIn (FW ro) 0 P R Q i K' a w:=by
 have h:=wpOpIn_mono hK h
 unfold wpOpIn at h ⊢
 cases ho:R[i]? with
 | none=>simp only [ho] at h ⊢;exact h
 | some o=>
  simp only [ho] at h ⊢
  split
  ·rename_i hw
   simp only [hw,if_true] at h
   have hi:i < R.size:=by
    rcases Nat.lt_or_ge i R.size with h' | h'
    ·exact h'
    ·simp [Array.getElem?_eq_none h'] at ho
   have hnd:Mm o.op=false:=by
    unfold Uc at hd
    rw [Array.all_eq_true] at hd
    have:=hd i hi
    have e:R[i]=o:=by simpa [Array.getElem?_eq_getElem hi] using ho
    rw [e] at this;simpa using this
   unfold Oper.wpIn at h ⊢
   refine ⟨fun _ _=>trivial,?_⟩
   have e:∀ r,Oper.semAt r a.eval o=execOp a.eval o:=fun r=>H1 hnd r a.eval o rfl
   have h2:=h.2
   rw [e] at h2 ⊢
   exact h2
  ·rename_i hw
   simp only [hw,if_false] at h
   exact ⟨fun _ _=>trivial,h.2⟩
theorem TB {R:Array Oper} (hd:Uc R=true) (ro:Option Nat) {Q:Exit->Act->World->Prop}:∀ (fuel:Nat) (l:Array Bool) (a:Act) (w:World),wpAnyIn (FW none) 0 P .any R Q fuel l a w->wpAnyIn (FW ro) 0 P .any R Q fuel l a w
 | 0,_,_,_,h=>h
 | fuel + 1,_,_,_,h=>⟨h.1,fun i hi=>T9 hd ro (fun a w=>TB hd ro fuel _ a w) (h.2 i hi)⟩
variable {ro : Option Nat}
theorem RDP (z m:Nat) (Lc Lz:List (Option Nat×Obj)) (hs:HS w0 F0 w F L) (PQ:List PanicEntry->List Deferred->World->Prop) (Post:Fr->World->Prop)
  (h:∀ w',HS w0 F0 w' F L->DWP P n (KW c) PQ Post z (DZ F Lc Lz) m (fls m) f w') (k:∀ f w,Post f w->Q .normal f w) (kp:∀ c f w,PQ c f.d w->Q (.panic c) f w) (hm:P.follows .mixedOrders=true:=by kernel_rfl) (ho:U5 P n m c=true:=by kernel_rfl) (hc:∀ p,p∈Lc->p∈L:=by simp) (hz:∀ p,p∈Lz->p∈L:=by simp):CWP P ro n c Q f w:=by
 simp only [U5,Bool.and_eq_true] at ho
 obtain ⟨hk,hok,hns,hnd,hfu⟩:=ho
 replace hk:=Nat.eq_of_beq_eq_true hk
 replace hfu:=Nat.eq_of_beq_eq_true hfu
 subst hfu
 cases c <;> simp [kin] at hk
 rename_i id ops d
 cases d <;> simp [kin] at hk
 intro a ha
 have hs':HS w0 F0 {w with drawn:=w.drawn + 1} F L:=hs.heap rfl
 refine wpIn_mono (wpIn_region_any hm (TB hnd ro _ _ _ _ (Mq (z:=z) (S:=DZ F Lc Lz) _ _ _ _ ?_))) (Q:=lq n (nq PQ Post)) ?_
 ·simp only [KW] at *
  rw [VA]
  exact h _ hs' hok hns (Bg hs' (Ww F) hc fun _=>hz) a ha
 ·rintro e a w ⟨f,hf,hP⟩
  cases e with
  | normal=>exact ⟨f,hf,k _ _ hP⟩
  | panic c=>exact ⟨f,hf,kp _ _ _ hP⟩
  | _=>exact hP.elim
theorem RD (z m:Nat) (Lc Lz:List (Option Nat×Obj)) (hs:HS w0 F0 w F L) (Post:Fr->World->Prop)
  (h:∀ w',HS w0 F0 w' F L->DWP P n (KW c) (fun _ _ _=>False) Post z (DZ F Lc Lz) m (fls m) f w') (k:∀ f w,Post f w->Q .normal f w) (hm:P.follows .mixedOrders=true:=by kernel_rfl) (ho:U5 P n m c=true:=by kernel_rfl) (hc:∀ p,p∈Lc->p∈L:=by simp) (hz:∀ p,p∈Lz->p∈L:=by simp):CWP P ro n c Q f w:=
 RDP z m Lc Lz hs (fun _ _ _=>False) Post h k (fun _ _ _ h=>h.elim) hm ho hc hz
variable {α : Type} {T : Ty α} {E : TypeId} {a : WS} {cap : Nat} {ls m : List α}
theorem GP {b:Nat} {C:Array Value} {E:TypeId} (C':Array Value) (hs:HS w0 F0 w F ((some b,.cells C E (0,0))::L)) (hle:Wv Fs F) (k:∀ w',HS w0 F0 w' F ((some b,.cells C' E (0,0))::L)->DWP P n R PQ Post z (DZ Fs Lc Lz) fuel (l.set i true) f w')
  (hx:fev f (stX (Af R i))=.pointer (some ⟨b,pO (fev f (stX (Af R i))),none⟩):=by kernel_rfl) (hC:C5 C (pO (fev f (stX (Af R i)))) (fev f (stY (Af R i))).cells.toList=C':=by kernel_rfl)
  (ho:(ung R i&&(HT (Af R i)&&(Da P (stT (Af R i)) (fev f (stY (Af R i))) (pO (fev f (stX (Af R i)))) C&&(match A5 R i with | none=>true | some _=>false))))=true:=by kernel_rfl)
  (hL:∀ p,p∈Lc->p∈(some b,.cells C' E (0,0))::L:=by simp) (hLz:(l.set i true).toArray.getD z true=false->∀ p,p∈Lz->p∈(some b,.cells C' E (0,0))::L:=by first | (intro _;simp;done) | exact zdT (by kernel_rfl)):Aw P n R PQ Post z (DZ Fs Lc Lz) fuel l i f w:=by
 simp only [Bool.and_eq_true] at ho
 obtain ⟨h1,h2,h3,h4⟩:=ho
 have e:=DQ h2
 have:=A8 h1
 cases hd:A5 R i with
 | some d=>rw [hd] at h4;cases h4
 | none=>
  rw [hd] at this
  have hp:=hs.put (k:=0) rfl (.cells C' E (0,0))
  refine WG rfl rfl this rfl ?_ (Bg hp hle hL hLz) (k _ hp)
  have hr:=Hb (P:=P) (ty:=FM R i) (w:=w) hx (hs.ownAt (k:=0) rfl) h3 hC
  rw [<-e] at hr;exact hr
theorem Mb {e0:Option Nat×Obj} {b:Nat} {C:Array Value} {E:TypeId} (C':Array Value) (hs:HS w0 F0 w F (e0::(some b,.cells C E (0,0))::L)) (hle:Wv Fs F) (k:∀ w',HS w0 F0 w' F (e0::(some b,.cells C' E (0,0))::L)->DWP P n R PQ Post z (DZ Fs Lc Lz) fuel (l.set i true) f w')
  (hx:fev f (stX (Af R i))=.pointer (some ⟨b,pO (fev f (stX (Af R i))),none⟩):=by kernel_rfl) (hC:C5 C (pO (fev f (stX (Af R i)))) (fev f (stY (Af R i))).cells.toList=C':=by kernel_rfl)
  (ho:(ung R i&&(HT (Af R i)&&(Da P (stT (Af R i)) (fev f (stY (Af R i))) (pO (fev f (stX (Af R i)))) C&&(match A5 R i with | none=>true | some _=>false))))=true:=by kernel_rfl)
  (hL:∀ p,p∈Lc->p∈e0::(some b,.cells C' E (0,0))::L:=by simp) (hLz:(l.set i true).toArray.getD z true=false->∀ p,p∈Lz->p∈e0::(some b,.cells C' E (0,0))::L:=by first | (intro _;simp;done) | exact zdT (by kernel_rfl)):Aw P n R PQ Post z (DZ Fs Lc Lz) fuel l i f w:=by
 simp only [Bool.and_eq_true] at ho
 obtain ⟨h1,h2,h3,h4⟩:=ho
 have e:=DQ h2
 have:=A8 h1
 cases hd:A5 R i with
 | some d=>rw [hd] at h4;cases h4
 | none=>
  rw [hd] at this
  have hp:=hs.put (k:=1) rfl (.cells C' E (0,0))
  refine WG rfl rfl this rfl ?_ (Bg hp hle hL hLz) (k _ hp)
  have hr:=Hb (P:=P) (ty:=FM R i) (w:=w) hx (hs.ownAt (k:=1) rfl) h3 hC
  rw [<-e] at hr;exact hr
theorem Wq {e0:Option Nat×Obj} {a2:WS} (h1:T.One) (hs:HS w0 F0 w F (e0::e::L)) (hr:As T E F a cap ls e) (hm:Rd T F w a2 m) {r:List α} (hap:DX ls m=some r) (hle:Wv Fs F)
  (k:∀ a' cap' e' w',HS w0 F0 w' F (e0::e'::L)->As T E F a' cap' r e'->DWP P n R PQ Post z (DZ Fs Lc Lz) fuel (l.set i true) (A0 f (A5 R i) (.slice a' r.length cap')) w')
  (hx:fev f (apX (Af R i))=.slice a ls.length cap:=by kernel_rfl) (hy:fev f (apY (Af R i))=.slice a2 m.length (sC (fev f (apY (Af R i)))):=by kernel_rfl) (ho:(ung R i&&apK P E T.sz (Af R i))=true:=by kernel_rfl)
  (hL:∀ e' p,p∈Lc->p∈e0::e'::L:=by (intro _;simp)) (hLz:(l.set i true).toArray.getD z true=false->∀ e' p,p∈Lz->p∈e0::e'::L:=by first | (intro _ _;simp;done) | exact zdT (by kernel_rfl)):Aw P n R PQ Post z (DZ Fs Lc Lz) fuel l i f w:=by
 simp only [Bool.and_eq_true] at ho
 obtain ⟨t,t2,by_,zz,e1,he,hb,hni,hz,hzs⟩:=Ge ho.2
 have:=A8 ho.1
 rw [e1] at this
 exact Aw.append rfl rfl this rfl hx hy he hb hni hz hzs h1 hs (k:=1) rfl hr hm hap hle hL hLz k
theorem N0 {e0 e1:Option Nat×Obj} {b:Nat} {C:Array Value} {E:TypeId} (C':Array Value) (hs:HS w0 F0 w F (e0::e1::(some b,.cells C E (0,0))::L)) (hle:Wv Fs F) (k:∀ w',HS w0 F0 w' F (e0::e1::(some b,.cells C' E (0,0))::L)->DWP P n R PQ Post z (DZ Fs Lc Lz) fuel (l.set i true) f w')
  (hx:fev f (stX (Af R i))=.pointer (some ⟨b,pO (fev f (stX (Af R i))),none⟩):=by kernel_rfl) (hC:C5 C (pO (fev f (stX (Af R i)))) (fev f (stY (Af R i))).cells.toList=C':=by kernel_rfl)
  (ho:(ung R i&&(HT (Af R i)&&(Da P (stT (Af R i)) (fev f (stY (Af R i))) (pO (fev f (stX (Af R i)))) C&&(match A5 R i with | none=>true | some _=>false))))=true:=by kernel_rfl)
  (hL:∀ p,p∈Lc->p∈e0::e1::(some b,.cells C' E (0,0))::L:=by simp) (hLz:(l.set i true).toArray.getD z true=false->∀ p,p∈Lz->p∈e0::e1::(some b,.cells C' E (0,0))::L:=by first | (intro _;simp;done) | exact zdT (by kernel_rfl)):Aw P n R PQ Post z (DZ Fs Lc Lz) fuel l i f w:=by
 simp only [Bool.and_eq_true] at ho
 obtain ⟨h1,h2,h3,h4⟩:=ho
 have e:=DQ h2
 have:=A8 h1
 cases hd:A5 R i with
 | some d=>rw [hd] at h4;cases h4
 | none=>
  rw [hd] at this
  have hp:=hs.put (k:=2) rfl (.cells C' E (0,0))
  refine WG rfl rfl this rfl ?_ (Bg hp hle hL hLz) (k _ hp)
  have hr:=Hb (P:=P) (ty:=FM R i) (w:=w) hx (hs.ownAt (k:=2) rfl) h3 hC
  rw [<-e] at hr;exact hr
theorem UI {e0 e1 e2:Option Nat×Obj} {b:Nat} {C:Array Value} {E:TypeId} (C':Array Value) (hs:HS w0 F0 w F (e0::e1::e2::(some b,.cells C E (0,0))::L)) (hle:Wv Fs F) (k:∀ w',HS w0 F0 w' F (e0::e1::e2::(some b,.cells C' E (0,0))::L)->DWP P n R PQ Post z (DZ Fs Lc Lz) fuel (l.set i true) f w')
  (hx:fev f (stX (Af R i))=.pointer (some ⟨b,pO (fev f (stX (Af R i))),none⟩):=by kernel_rfl) (hC:C5 C (pO (fev f (stX (Af R i)))) (fev f (stY (Af R i))).cells.toList=C':=by kernel_rfl)
  (ho:(ung R i&&(HT (Af R i)&&(Da P (stT (Af R i)) (fev f (stY (Af R i))) (pO (fev f (stX (Af R i)))) C&&(match A5 R i with | none=>true | some _=>false))))=true:=by kernel_rfl)
  (hL:∀ p,p∈Lc->p∈e0::e1::e2::(some b,.cells C' E (0,0))::L:=by simp) (hLz:(l.set i true).toArray.getD z true=false->∀ p,p∈Lz->p∈e0::e1::e2::(some b,.cells C' E (0,0))::L:=by first | (intro _;simp;done) | exact zdT (by kernel_rfl)):Aw P n R PQ Post z (DZ Fs Lc Lz) fuel l i f w:=by
 simp only [Bool.and_eq_true] at ho
 obtain ⟨h1,h2,h3,h4⟩:=ho
 have e:=DQ h2
 have:=A8 h1
 cases hd:A5 R i with
 | some d=>rw [hd] at h4;cases h4
 | none=>
  rw [hd] at this
  have hp:=hs.put (k:=3) rfl (.cells C' E (0,0))
  refine WG rfl rfl this rfl ?_ (Bg hp hle hL hLz) (k _ hp)
  have hr:=Hb (P:=P) (ty:=FM R i) (w:=w) hx (hs.ownAt (k:=3) rfl) h3 hC
  rw [<-e] at hr;exact hr
theorem Wp {e0 e1 e2:Option Nat×Obj} {a2:WS} (h1:T.One) (hs:HS w0 F0 w F (e0::e1::e2::e::L)) (hr:As T E F a cap ls e) (hm:Rd T F w a2 m) {r:List α} (hap:DX ls m=some r) (hle:Wv Fs F)
  (k:∀ a' cap' e' w',HS w0 F0 w' F (e0::e1::e2::e'::L)->As T E F a' cap' r e'->DWP P n R PQ Post z (DZ Fs Lc Lz) fuel (l.set i true) (A0 f (A5 R i) (.slice a' r.length cap')) w')
  (hx:fev f (apX (Af R i))=.slice a ls.length cap:=by kernel_rfl) (hy:fev f (apY (Af R i))=.slice a2 m.length (sC (fev f (apY (Af R i)))):=by kernel_rfl) (ho:(ung R i&&apK P E T.sz (Af R i))=true:=by kernel_rfl)
  (hL:∀ e' p,p∈Lc->p∈e0::e1::e2::e'::L:=by (intro _;simp)) (hLz:(l.set i true).toArray.getD z true=false->∀ e' p,p∈Lz->p∈e0::e1::e2::e'::L:=by first | (intro _ _;simp;done) | exact zdT (by kernel_rfl)):Aw P n R PQ Post z (DZ Fs Lc Lz) fuel l i f w:=by
 simp only [Bool.and_eq_true] at ho
 obtain ⟨t,t2,by_,zz,e1,he,hb,hni,hz,hzs⟩:=Ge ho.2
 have:=A8 ho.1
 rw [e1] at this
 exact Aw.append rfl rfl this rfl hx hy he hb hni hz hzs h1 hs (k:=3) rfl hr hm hap hle hL hLz k
theorem V9 {e0 e1 e2 e3:Option Nat×Obj} {b:Nat} {C:Array Value} {E:TypeId} (C':Array Value) (hs:HS w0 F0 w F (e0::e1::e2::e3::(some b,.cells C E (0,0))::L)) (hle:Wv Fs F) (k:∀ w',HS w0 F0 w' F (e0::e1::e2::e3::(some b,.cells C' E (0,0))::L)->DWP P n R PQ Post z (DZ Fs Lc Lz) fuel (l.set i true) f w')
  (hx:fev f (stX (Af R i))=.pointer (some ⟨b,pO (fev f (stX (Af R i))),none⟩):=by kernel_rfl) (hC:C5 C (pO (fev f (stX (Af R i)))) (fev f (stY (Af R i))).cells.toList=C':=by kernel_rfl)
  (ho:(ung R i&&(HT (Af R i)&&(Da P (stT (Af R i)) (fev f (stY (Af R i))) (pO (fev f (stX (Af R i)))) C&&(match A5 R i with | none=>true | some _=>false))))=true:=by kernel_rfl)
  (hL:∀ p,p∈Lc->p∈e0::e1::e2::e3::(some b,.cells C' E (0,0))::L:=by simp) (hLz:(l.set i true).toArray.getD z true=false->∀ p,p∈Lz->p∈e0::e1::e2::e3::(some b,.cells C' E (0,0))::L:=by first | (intro _;simp;done) | exact zdT (by kernel_rfl)):Aw P n R PQ Post z (DZ Fs Lc Lz) fuel l i f w:=by
 simp only [Bool.and_eq_true] at ho
 obtain ⟨h1,h2,h3,h4⟩:=ho
 have e:=DQ h2
 have:=A8 h1
 cases hd:A5 R i with
 | some d=>rw [hd] at h4;cases h4
 | none=>
  rw [hd] at this
  have hp:=hs.put (k:=4) rfl (.cells C' E (0,0))
  refine WG rfl rfl this rfl ?_ (Bg hp hle hL hLz) (k _ hp)
  have hr:=Hb (P:=P) (ty:=FM R i) (w:=w) hx (hs.ownAt (k:=4) rfl) h3 hC
  rw [<-e] at hr;exact hr
theorem QS {e0 e1 e2 e3 e4:Option Nat×Obj} {b:Nat} {C:Array Value} {E:TypeId} (C':Array Value) (hs:HS w0 F0 w F (e0::e1::e2::e3::e4::(some b,.cells C E (0,0))::L)) (hle:Wv Fs F) (k:∀ w',HS w0 F0 w' F (e0::e1::e2::e3::e4::(some b,.cells C' E (0,0))::L)->DWP P n R PQ Post z (DZ Fs Lc Lz) fuel (l.set i true) f w')
  (hx:fev f (stX (Af R i))=.pointer (some ⟨b,pO (fev f (stX (Af R i))),none⟩):=by kernel_rfl) (hC:C5 C (pO (fev f (stX (Af R i)))) (fev f (stY (Af R i))).cells.toList=C':=by kernel_rfl)
  (ho:(ung R i&&(HT (Af R i)&&(Da P (stT (Af R i)) (fev f (stY (Af R i))) (pO (fev f (stX (Af R i)))) C&&(match A5 R i with | none=>true | some _=>false))))=true:=by kernel_rfl)
  (hL:∀ p,p∈Lc->p∈e0::e1::e2::e3::e4::(some b,.cells C' E (0,0))::L:=by simp) (hLz:(l.set i true).toArray.getD z true=false->∀ p,p∈Lz->p∈e0::e1::e2::e3::e4::(some b,.cells C' E (0,0))::L:=by first | (intro _;simp;done) | exact zdT (by kernel_rfl)):Aw P n R PQ Post z (DZ Fs Lc Lz) fuel l i f w:=by
 simp only [Bool.and_eq_true] at ho
 obtain ⟨h1,h2,h3,h4⟩:=ho
 have e:=DQ h2
 have:=A8 h1
 cases hd:A5 R i with
 | some d=>rw [hd] at h4;cases h4
 | none=>
  rw [hd] at this
  have hp:=hs.put (k:=5) rfl (.cells C' E (0,0))
  refine WG rfl rfl this rfl ?_ (Bg hp hle hL hLz) (k _ hp)
  have hr:=Hb (P:=P) (ty:=FM R i) (w:=w) hx (hs.ownAt (k:=5) rfl) h3 hC
  rw [<-e] at hr;exact hr
theorem UH {e0 e1 e2 e3 e4 e5:Option Nat×Obj} {b:Nat} {C:Array Value} {E:TypeId} (C':Array Value) (hs:HS w0 F0 w F (e0::e1::e2::e3::e4::e5::(some b,.cells C E (0,0))::L)) (hle:Wv Fs F) (k:∀ w',HS w0 F0 w' F (e0::e1::e2::e3::e4::e5::(some b,.cells C' E (0,0))::L)->DWP P n R PQ Post z (DZ Fs Lc Lz) fuel (l.set i true) f w')
  (hx:fev f (stX (Af R i))=.pointer (some ⟨b,pO (fev f (stX (Af R i))),none⟩):=by kernel_rfl) (hC:C5 C (pO (fev f (stX (Af R i)))) (fev f (stY (Af R i))).cells.toList=C':=by kernel_rfl)
  (ho:(ung R i&&(HT (Af R i)&&(Da P (stT (Af R i)) (fev f (stY (Af R i))) (pO (fev f (stX (Af R i)))) C&&(match A5 R i with | none=>true | some _=>false))))=true:=by kernel_rfl)
  (hL:∀ p,p∈Lc->p∈e0::e1::e2::e3::e4::e5::(some b,.cells C' E (0,0))::L:=by simp) (hLz:(l.set i true).toArray.getD z true=false->∀ p,p∈Lz->p∈e0::e1::e2::e3::e4::e5::(some b,.cells C' E (0,0))::L:=by first | (intro _;simp;done) | exact zdT (by kernel_rfl)):Aw P n R PQ Post z (DZ Fs Lc Lz) fuel l i f w:=by
 simp only [Bool.and_eq_true] at ho
 obtain ⟨h1,h2,h3,h4⟩:=ho
 have e:=DQ h2
 have:=A8 h1
 cases hd:A5 R i with
 | some d=>rw [hd] at h4;cases h4
 | none=>
  rw [hd] at this
  have hp:=hs.put (k:=6) rfl (.cells C' E (0,0))
  refine WG rfl rfl this rfl ?_ (Bg hp hle hL hLz) (k _ hp)
  have hr:=Hb (P:=P) (ty:=FM R i) (w:=w) hx (hs.ownAt (k:=6) rfl) h3 hC
  rw [<-e] at hr;exact hr
theorem Wo {e0 e1 e2 e3 e4 e5 e6:Option Nat×Obj} {b:Nat} {C:Array Value} {E:TypeId} (C':Array Value) (hs:HS w0 F0 w F (e0::e1::e2::e3::e4::e5::e6::(some b,.cells C E (0,0))::L)) (hle:Wv Fs F) (k:∀ w',HS w0 F0 w' F (e0::e1::e2::e3::e4::e5::e6::(some b,.cells C' E (0,0))::L)->DWP P n R PQ Post z (DZ Fs Lc Lz) fuel (l.set i true) f w')
  (hx:fev f (stX (Af R i))=.pointer (some ⟨b,pO (fev f (stX (Af R i))),none⟩):=by kernel_rfl) (hC:C5 C (pO (fev f (stX (Af R i)))) (fev f (stY (Af R i))).cells.toList=C':=by kernel_rfl)
  (ho:(ung R i&&(HT (Af R i)&&(Da P (stT (Af R i)) (fev f (stY (Af R i))) (pO (fev f (stX (Af R i)))) C&&(match A5 R i with | none=>true | some _=>false))))=true:=by kernel_rfl)
  (hL:∀ p,p∈Lc->p∈e0::e1::e2::e3::e4::e5::e6::(some b,.cells C' E (0,0))::L:=by simp) (hLz:(l.set i true).toArray.getD z true=false->∀ p,p∈Lz->p∈e0::e1::e2::e3::e4::e5::e6::(some b,.cells C' E (0,0))::L:=by first | (intro _;simp;done) | exact zdT (by kernel_rfl)):Aw P n R PQ Post z (DZ Fs Lc Lz) fuel l i f w:=by
 simp only [Bool.and_eq_true] at ho
 obtain ⟨h1,h2,h3,h4⟩:=ho
 have e:=DQ h2
 have:=A8 h1
 cases hd:A5 R i with
 | some d=>rw [hd] at h4;cases h4
 | none=>
  rw [hd] at this
  have hp:=hs.put (k:=7) rfl (.cells C' E (0,0))
  refine WG rfl rfl this rfl ?_ (Bg hp hle hL hLz) (k _ hp)
  have hr:=Hb (P:=P) (ty:=FM R i) (w:=w) hx (hs.ownAt (k:=7) rfl) h3 hC
  rw [<-e] at hr;exact hr
end
theorem YP.mono {P:Program} {l:Nat} {args:List Value} {w:World} {S S':Ending->World->Prop} (h:YP P l args w S) (hi:∀ e w',S e w'->S' e w'):YP P l args w S':=
 let ⟨fn,t,a,b,h1,h2⟩:=h;⟨fn,t,a,b,h1,h2.mono hi⟩
section
variable {P : Program} {w : World} {ρ : Operand -> Value} {ty : TypeId}
def Tz (P:Program) (t:TypeId) (parts:List (Nat×Value)):Option (List Value):=
 match P.underlying t,BP P t with
 | some (.array _ e),some z=>match P.info? e with
  | some i=>match Instr.fill (fun k=>some (k * i.size,i.size)) z.cells parts with
   | some cs=>some cs.toList
   | none=>none
  | none=>none
 | _,_=>none
theorem JE {t:TypeId} {parts:Array (Nat×Operand)} {vs:List (Nat×Value)} {cs:List Value} (hv:parts.toList.map (fun p=>(p.1,ρ p.2))=vs) (hb:Tz P t vs=some cs):
  (Al ρ (.build t parts) ty).run P w=.ok (.value (.agg cs.toArray)) w:=by
 subst hv
 unfold Tz at hb
 split at hb
 ·rename_i n e z hu hz
  split at hb
  ·rename_i i hi
   split at hb
   ·rename_i cs' hfill
    simp only [Option.some.injEq] at hb
    subst hb
    have e1:Al ρ (.build t parts) ty=(do pure (Next.value (<-Instr.build t (parts.map fun (i,x)=>(i,ρ x))))):=rfl
    have hzv:(zeroValue t).run P w=.ok z w:=by
     unfold BP at hz
     split at hz
     ·rename_i i hi;simp [zeroValue,typeInfo,hi,hz]
     ·cases hz
    rw [e1]
    simp only [Instr.build,Sem.run_bind,hzv,Result.andThen_ok,run_underlying hu,D3 hi]
    have hl:(parts.map fun (i,x)=>(i,ρ x)).toList=parts.toList.map (fun p=>(p.1,ρ p.2)):=by simp
    rw [hl,hfill]
    simp
   ·cases hb
  ·cases hb
 ·cases hb
theorem Q3 {t E:TypeId} {len:Nat} {x y:Operand} {k:IntKind} {i:Int} {cs:List Value} {v:Value} (hx:ρ x=.agg cs.toArray) (hy:ρ y=.int k i) (hu:P.underlying t=some (.array len E)) (ht:EN P E=some (false,1)) (hlen:cs.length=len) (hv:idx cs i=some v):
  (Al ρ (.index t x y) ty).run P w=.ok (.value v) w:=by
 obtain ⟨⟨h0,h1⟩,h2⟩:=Aq hv
 have hc:Ap cs.toArray (i.toNat * 1) 1=[v]:=by
  rw [Nat.mul_one]
  exact ID.2 (by simpa using h2)
 have hp:=GQ (P:=P) (t:=E) (C:=cs.toArray) (o:=i.toNat * 1) ht (by rw [hc];rfl) (.inr rfl) w
 rw [hc] at hp
 simp only [Al,execOp,hx,hy,Instr.index,asIntOf,Sem.run_bind,Sem.run_pure,Result.andThen_ok,run_underlying hu,CS ht]
 rw [if_pos (show 0<=i/\i < (len:Int) by omega)]
 simp only [Sem.run_bind,CS ht,Result.andThen_ok]
 rw [hp]
 rfl
theorem PR {α:Type} {f:α->Value} {l:List α} {i:Int} {x:α} (h:idx l i=some x):idx (l.map f) i=some (f x):=by
 obtain ⟨⟨h0,h1⟩,h2⟩:=Aq h
 unfold idx
 rw [if_pos h0,List.getElem?_map,h2];rfl
def toB (l:List Int):WR:=l.map fun n=>UInt8.ofNat n.toNat
theorem Ng:∀ (ns:List Int) (A:Array UInt8),ns.foldl (fun r n=>ByteArray.push r (UInt8.ofNat n.toNat)) ⟨A⟩=⟨A++(toB ns).toArray⟩
 | [],A=>by simp [toB]
 | n::ns,A=>by
  rw [List.foldl_cons]
  have:ByteArray.push ⟨A⟩ (UInt8.ofNat n.toNat)=⟨A.push (UInt8.ofNat n.toNat)⟩:=rfl
  rw [this,Ng ns]
  simp [toB]
theorem T0 {w0:World} {F0 F:Mem} {L:Own} {s d E:TypeId} {x:Operand} {a:WS} {cap q:Nat} {l:List Int} {e:Option Nat×Obj} (hx:ρ x=.slice a l.length cap) (hs:P.underlying s=some (.slice E)) (hE:P.underlying E=some (.int .u8)) (hd:P.underlying d=some .string)
  (hh:HS w0 F0 w F L) (hq:L[q]? =some e) (hr:As tU8 E F a cap l e):(Al ρ (.convert s d x) ty).run P w=.ok (.value (.string ⟨(toB l).toArray⟩)) w:=by
 have e1:Al ρ (.convert s d x) ty=(do pure (Next.value (<-convert s d (ρ x)))):=rfl
 rw [e1,hx,Sem.run_bind,run_convert_bytes_string w s d E a l.length cap hs hE hd]
 rcases hr.2 with ⟨rfl,rfl,rfl,_⟩ | ⟨b,C,rfl,rfl,hc,hsz,hR⟩
 ·rfl
 ·have hb:=hh.ownAt hq
  have hl:=run_loadCells_list (P:=P) (w:=w) ⟨b,0,none⟩ (l.map (Value.int .u8)) (fun j v hj=>by
   rw [List.getElem?_map] at hj
   cases hlj:l[j]? with
   | none=>rw [hlj] at hj;cases hj
   | some n=>
    rw [hlj] at hj
    cases hj
    have h1:Ap C (j * 1) 1=[.int .u8 n]:=hR j n hlj
    rw [Nat.mul_one] at h1
    have h2:=ID.1 h1
    rw [Addr.add_lit]
    simp [World.cell?,hb,h2])
  rw [List.length_map] at hl
  have h2:=run_bytesToString (P:=P) w ⟨b,0,none⟩ l.length cap l (by rw [hl])
  rw [h2,show ByteArray.empty=⟨#[]⟩ from rfl,Ng]
  simp [Result.andThen]
end
section
variable {P : Program} {n : Nat} {R : Array Oper} {f : Fr} {w : World} {PQ : List PanicEntry -> List Deferred -> World -> Prop} {Post : Fr -> World -> Prop} {z : Nat} {fuel : Nat} {l l' : List Bool} {zd : Bool} {i : Nat} {dst : Option Nat} {ty : TypeId} {g : Option (Nat × Bool)}
theorem Aw.callO {w0:World} {F0 F Fs:Mem} {L Lc Lz:List (Option Nat×Obj)} {f0:Operand} {aos:Array Operand} {ats:Array TypeId} {fid:FuncId} {first cap:Array Value} {args:List Value} {post:Mem->Value->Own->Prop}
  (hl:l.set i true=l') (hzd:l'.toArray.getD z true=zd) (h0:l.toArray.getD z true=zd)
  (ho:opq R i=some (dst,.call {callee:=.value f0,args:=aos,argTypes:=ats},ty,g)) (hg:gd R f g=true) (hf:fev f f0=.func (.func fid) first cap) (hok:Ai P fid)
  (ha:first.toList++aos.toList.map (fev f)++cap.toList=args) (hs:HS w0 F0 w F L) (hc:Calls P fid args.toArray w (NK w F post))
  (k:∀ v F1 w1 L',HS w0 F0 w1 F1 (L'++L)->Wv F F1->post F1 v L'->DWP P n R PQ Post z (DZ Fs Lc Lz) fuel l' (A0 f dst v) w1):Aw P n R PQ Post z (DZ Fs Lc Lz) fuel l i f w:=by
 intro hokR hns hS a haf
 obtain ⟨o,hR,hd,hop,hty,hgd⟩:=Co ho
 unfold Gl wpOpIn
 simp only [hR]
 rw [haf.wanted R o,hgd,hg]
 simp only [if_true]
 refine ⟨Br,?_⟩
 show o.uponIn (FW none) 0 P a _ _ ((execOp a.eval o).run P w)
 rw [Cj,haf.evalF,hop,hty,D4 hf hok ha]
 simp only [Oper.uponIn]
 refine ⟨(fun h=>by cases h),(Ej hc).mono ?_⟩
 rintro e w' ⟨r,F',L',rfl,h1,h2⟩
 simp only
 rw [h0] at hS
 have hS':DZ Fs Lc Lz zd w':=hS.keep h1.keep
 rw [hl,hd,hzd]
 exact ⟨hS',k r F' w' L' (hs.callO h1) h1.le h2 hokR hns (by rw [hzd];exact hS') _ (haf.put (by rw [<-hd];exact Ea hokR hR) r)⟩
theorem Aw.callS {Fs:Mem} {Lc Lz:Own} {f0:Operand} {aos:Array Operand} {ats:Array TypeId} {fid:FuncId} {first cap:Array Value} {args:List Value} {S:Ending->World->Prop}
  (hl:l.set i true=l') (hzd:l'.toArray.getD z true=zd)
  (ho:opq R i=some (dst,.call {callee:=.value f0,args:=aos,argTypes:=ats},ty,g)) (hg:gd R f g=true) (hf:fev f f0=.func (.func fid) first cap) (hok:Ai P fid)
  (ha:first.toList++aos.toList.map (fev f)++cap.toList=args) (hc:Calls P fid args.toArray w S)
  (k:∀ e w',S e w'->∃ v,e=.returned v/\DZ Fs Lc Lz zd w'/\DWP P n R PQ Post z (DZ Fs Lc Lz) fuel l' (A0 f dst v) w'):Aw P n R PQ Post z (DZ Fs Lc Lz) fuel l i f w:=by
 intro hokR hns hS a haf
 obtain ⟨o,hR,hd,hop,hty,hgd⟩:=Co ho
 unfold Gl wpOpIn
 simp only [hR]
 rw [haf.wanted R o,hgd,hg]
 simp only [if_true]
 refine ⟨Br,?_⟩
 show o.uponIn (FW none) 0 P a _ _ ((execOp a.eval o).run P w)
 rw [Cj,haf.evalF,hop,hty,D4 hf hok ha]
 simp only [Oper.uponIn]
 refine ⟨(fun h=>by cases h),(Ej hc).mono ?_⟩
 intro e w' he
 obtain ⟨v,rfl,hS',hk⟩:=k e w' he
 simp only
 rw [hl,hd,hzd]
 exact ⟨hS',hk hokR hns (by rw [hzd];exact hS') _ (haf.put (by rw [<-hd];exact Ea hokR hR) v)⟩
theorem Aw.callLentP {w0:World} {F0 F Fs:Mem} {L Lc Lz:List (Option Nat×Obj)} {f0:Operand} {aos:Array Operand} {ats:Array TypeId} {fid:FuncId} {first cap:Array Value} {args:List Value} {q:Nat} {e:Option Nat×Obj} {v0:Value}
  (hl:l.set i true=l') (hzd:l'.toArray.getD z true=zd) (h0:l.toArray.getD z true=zd)
  (ho:opq R i=some (dst,.call {callee:=.value f0,args:=aos,argTypes:=ats},ty,g)) (hg:gd R f g=true) (hf:fev f f0=.func (.func fid) first cap) (hok:Ai P fid)
  (ha:first.toList++aos.toList.map (fev f)++cap.toList=args) (hs:HS w0 F0 w F L) (hk:L[q]? =some e) (hc:Calls P fid args.toArray w (AA w (HD F e) fun _ v=>v=v0))
  (k:∀ F1 w1,HS w0 F0 w1 F1 L->Wv F F1->DWP P n R PQ Post z (DZ Fs Lc Lz) fuel l' (A0 f dst v0) w1):Aw P n R PQ Post z (DZ Fs Lc Lz) fuel l i f w:=by
 intro hokR hns hS a haf
 obtain ⟨o,hR,hd,hop,hty,hgd⟩:=Co ho
 unfold Gl wpOpIn
 simp only [hR]
 rw [haf.wanted R o,hgd,hg]
 simp only [if_true]
 refine ⟨Br,?_⟩
 show o.uponIn (FW none) 0 P a _ _ ((execOp a.eval o).run P w)
 rw [Cj,haf.evalF,hop,hty,D4 hf hok ha]
 simp only [Oper.uponIn]
 refine ⟨(fun h=>by cases h),(Ej hc).mono ?_⟩
 rintro e' w' ⟨_,F',rfl,h1,rfl⟩
 simp only
 rw [h0] at hS
 have hS':DZ Fs Lc Lz zd w':=hS.keep h1.keep
 obtain ⟨h6,h7⟩:=hs.lentCall hk h1
 rw [hl,hd,hzd]
 exact ⟨hS',k _ w' h6 h7 hokR hns (by rw [hzd];exact hS') _ (haf.put (by rw [<-hd];exact Ea hokR hR) _)⟩
end
section
variable {P : Program} {n : Nat} {R : Array Oper} {Q : Exit -> Fr -> World -> Prop} {w w0 : World} {F0 F : Mem} {L : Own} {f : Fr} {i : Nat} {rest : List Nat} {dst : Option Nat} {ty : TypeId} {g : Option (Nat × Bool)} {ro : Option Nat}
theorem RWP.callLentP {f0:Operand} {aos:Array Operand} {ats:Array TypeId} {fid:FuncId} {first cap:Array Value} {args:List Value} {q:Nat} {e:Option Nat×Obj} {v0:Value}
  (ho:opq R i=some (dst,.call {callee:=.value f0,args:=aos,argTypes:=ats},ty,g)) (hg:gd R f g=true) (hf:fev f f0=.func (.func fid) first cap) (hok:Ai P fid)
  (ha:first.toList++aos.toList.map (fev f)++cap.toList=args) (hs:HS w0 F0 w F L) (hk:L[q]? =some e)
  (hc:Calls P fid args.toArray w (AA w (HD F e) fun _ v=>v=v0))
  (k:∀ F1 w1,HS w0 F0 w1 F1 L->Wv F F1->RWP P ro n R Q rest (A0 f dst v0) w1):RWP P ro n R Q (i::rest) f w:=by
 refine Wt ho hg (D4 hf hok ha) hc ?_
 rintro e w' ⟨_,F',rfl,h1,rfl⟩
 obtain ⟨h6,h7⟩:=hs.lentCall hk h1
 exact k _ w' h6 h7
end
section
variable {P : Program} {w : World} {ρ : Operand -> Value} {ty : TypeId}
theorem OC {mt k vt:TypeId} {d:TypeDesc} {m x:Operand} {b clk:Nat} {es:Array MapEntry} {kv v:Value} {j:Nat} (hm:ρ m=.map (some b)) (hx:ρ x=kv) (hu:P.underlying mt=some (.map k vt)) (hk:P.underlying k=some d) (hkey:MapKept.IsKey d kv)
  (hb:w.heap[b]? =some (.map es clk)) (hf:Instr.findNow d kv es.toList 0=some (some (j,v))):(Al ρ (.lookup mt m x true) ty).run P w=.ok (.value (.tuple #[v,.bool true])) w:=by
 have e:Al ρ (.lookup mt m x true) ty=(do pure (Next.value (<-Instr.lookup mt (ρ m) (ρ x) true))):=rfl
 rw [e,hm,hx]
 simp [Instr.lookup,run_underlying hu,MapKept.run_getObj_map hb,MapKept.run_checkKey hk hkey,MapKept.run_findKey hk hf,Result.andThen]
theorem Vz {x c:Int} {v:Value} {clk i:Nat} {es:List MapEntry} (h:(x==c)=true):Instr.findNow (.int .i64) (.int .i64 x) (⟨.int .i64 c,v,clk⟩::es) i=some (some (i,v)):=by
 simp [Instr.findNow,Instr.sameNow,h]
end
section
variable {P : Program} {w0 w : World} {F0 F : Mem} {L : List (Option Nat × Obj)} {α : Type} {T : Ty α} {E : TypeId} {l m : List α} {b cap : Nat} {C : Array Value}
theorem QR {t t2 ty:TypeId} {by_ c2:Nat} {a2:WS} (he:Bu P t=some (E,T.sz,by_)) (hni:M9 P t2=true)
  (h1:T.One) (hs:HS w0 F0 w F L) {k:Nat} (hk:L[k]? =some (some b,.cells C E (0,0))) (hr:As T E F (some ⟨b,0,none⟩) cap l (some b,.cells C E (0,0))) (hm:Rd T F w a2 m) (hfit:l.length + m.length<=cap) (hlen:l.length + m.length < 4398046511104):
  ∃ C',C'.size=C.size/\(Builtin.append_ #[t,t2] ty #[.slice (some ⟨b,0,none⟩) l.length cap,.slice a2 m.length c2]).run P w=.ok (.slice (some ⟨b,0,none⟩) (l++m).length cap) (Ca w b (.cells C' E (0,0)))/\As T E F (some ⟨b,0,none⟩) cap (l++m) (some b,.cells C' E (0,0)):=by
 obtain ⟨i,hu,hi,his,hib⟩:=Gu he
 obtain ⟨new,hnew,hload⟩:=hm.load (P:=P) c2
 have hnl:=hnew.len
 obtain ⟨E2,hd⟩:∃ E2,P.underlying t2=some (.slice E2):=by
  unfold M9 at hni
  split at hni
  ·rename_i E2 h;exact ⟨E2,h⟩
  ·cases hni
 unfold Builtin.append_
 simp only [List.getElem?_toArray,List.getElem?_cons_zero,List.getElem?_cons_succ,Sem.run_bind,run_underlying hu,Result.andThen_ok,D3 hi,his]
 simp only [run_underlying hd,Result.andThen_ok,Sem.run_pure,Bool.false_eq_true,if_false,Builtin.lenOf]
 simp only [pure_bind]
 rw [if_pos hfit]
 simp only [Bool.not_false,if_true,Sem.run_bind,hload,Result.andThen_ok]
 rcases hr.2 with ⟨h,_⟩ | ⟨b',C0,hb',hc',hlc,hC,hx⟩
 ·cases h
 ·cases hb'
  cases hc'
  have hC1:l.length * T.sz + new.length<=C.size:=by rw [hC,hnl,<-Nat.add_mul];exact Nat.mul_le_mul_right _ hfit
  have hst:=Dp (P:=P) E new w b (l.length * T.sz) 0 C (hs.ownAt hk) (by simpa using hC1) (hnew.one h1)
  refine ⟨C5 C (l.length * T.sz) new,FK _ _ _,?_,?_⟩
  ·simp only [Addr.add_lit,Nat.zero_add]
   simp only [Nat.add_zero] at hst
   rw [hst]
   simp
  ·have hrow:D0 T F l (Ap C 0 (l.length * T.sz)):=by
    by_cases hl:l=[]
    ·subst hl;simp [D0,Ap]
    ·exact Hv hl (fun i x hi=>by rw [Nat.zero_add];exact hx i x hi)
   have hlr:=hrow.len
   refine ⟨by simpa using hlen,.inr ⟨b,_,rfl,rfl,by simpa using hfit,by rw [FK,hC],fun i x hix=>?_⟩⟩
   have:=(D0.append hrow hnew).get i x hix
   have hii:i < (l++m).length:=by
    rcases Nat.lt_or_ge i (l++m).length with h' | h'
    ·exact h'
    ·rw [List.getElem?_eq_none h'] at hix;cases hix
   have hle:i * T.sz + T.sz<=(Ap C 0 (l.length * T.sz)++new).length:=by
    rw [List.length_append,hlr,hnl,<-Nat.add_mul,<-Nat.succ_mul]
    exact Nat.mul_le_mul_right _ (Nat.succ_le_of_lt (by simpa using hii))
   have e1:Ap C 0 (l.length * T.sz)=C.toList.take (l.length * T.sz):=by simp [Ap]
   unfold Ap
   rw [I3 hC1]
   rw [e1] at this hle
   rw [List.drop_append_of_le_length (by omega),List.take_append_of_le_length (by simp only [List.length_drop];omega)]
   exact this
theorem MK {t t2:TypeId} {by_ c2:Nat} {a2:WS} (he:Bu P t=some (E,T.sz,by_)) (hni:M9 P t2=true)
  (h1:T.One) (hs:HS w0 F0 w F L) {k:Nat} (hk:L[k]? =some (some b,.cells C E (0,0))) (hr:As T E F (some ⟨b,0,none⟩) cap l (some b,.cells C E (0,0))) (hm:Rd T F w a2 m) (hfit:l.length + m.length<=cap) (hlen:l.length + m.length < 4398046511104):
  ∃ C',C'.size=C.size/\As T E F (some ⟨b,0,none⟩) cap (l++m) (some b,.cells C' E (0,0))/\ ∀ {ρ:Operand->Value} {x y:Operand} {ty:TypeId},ρ x=.slice (some ⟨b,0,none⟩) l.length cap->ρ y=.slice a2 m.length c2->
   (Al ρ (.call {callee:=.builtin .append,args:=#[x,y],argTypes:=#[t,t2]}) ty).run P w=.ok (.value (.slice (some ⟨b,0,none⟩) (l++m).length cap)) (Ca w b (.cells C' E (0,0))):=by
 have key:=fun ty=>QR (ty:=ty) (c2:=c2) he hni h1 hs hk hr hm hfit hlen
 obtain ⟨C',h2,h3,h4⟩:=key 0
 refine ⟨C',h2,h4,fun {ρ x y ty} hx hy=>?_⟩
 have h5:(Builtin.append_ #[t,t2] ty #[.slice (some ⟨b,0,none⟩) l.length cap,.slice a2 m.length c2]).run P w=.ok (.slice (some ⟨b,0,none⟩) (l++m).length cap) (Ca w b (.cells C' E (0,0))):=h3
 have e1:Al ρ (.call {callee:=.builtin .append,args:=#[x,y],argTypes:=#[t,t2]}) ty=(do pure (Next.value (<-Builtin.append_ #[t,t2] ty (Array.map ρ #[x,y])))):=rfl
 rw [e1,map_toArray]
 simp only [List.map_cons,List.map_nil,hx,hy]
 rw [Sem.run_bind,h5]
 rfl
theorem O7 {o i:Nat} {vs:List Value} (ho:o + vs.length<=C.size) (hi:i * T.sz + T.sz<=o):Ap (C5 C o vs) (i * T.sz) T.sz=Ap C (i * T.sz) T.sz:=by
 unfold Ap
 rw [I3 ho,List.append_assoc,List.drop_append_of_le_length (by simp;omega),List.take_append_of_le_length (by simp;omega),List.drop_take,List.take_take,Nat.min_eq_left (by omega)]
theorem OG {t:TypeId} {by_ j k c:Nat} {z:Value} (he:Bu P t=some (E,T.sz,by_)) (hz:BP P E=some z) (hzs:z.cells.size=T.sz) (h0:z.cells.toList.all (·.oneCell')=true)
  (hb:w.heap[b]? =some (.cells C E (0,0))) (hk:0 < k) (hfit:j * T.sz + k * T.sz<=C.size):
  ∃ vs,vs.length=k * T.sz/\ ∀ {ρ:Operand->Value} {x:Operand} {ty:TypeId},ρ x=.slice (some ⟨b,j * T.sz,none⟩) k c->(Al ρ (.call {callee:=.builtin .clear,args:=#[x],argTypes:=#[t]}) ty).run P w=.ok (.value (.tuple #[])) (Ca w b (.cells (C5 C (j * T.sz) vs) E (0,0))):=by
 obtain ⟨i,hu,hi,his,hib⟩:=Gu he
 have hzv:(zeroValue E).run P w=.ok z w:=by
  unfold BP at hz;rw [hi] at hz
  simp [zeroValue,typeInfo,hi,hz]
 have hsz:(Builtin.zeroCells z.cells k).toList.length=k * T.sz:=by simp [Builtin.zeroCells,hzs]
 have hone:(Builtin.zeroCells z.cells k).toList.all (·.oneCell')=true:=by
  rw [List.all_eq_true] at h0 ⊢
  intro v hv
  simp only [Builtin.zeroCells,Array.toList_map,List.mem_map] at hv
  obtain ⟨q,hq,rfl⟩:=hv
  have hq':q < k * z.cells.size:=by simpa using hq
  have hpos:0 < z.cells.size:=by
   rcases Nat.eq_zero_or_pos z.cells.size with h | h
   ·rw [h] at hq';simp at hq'
   ·exact h
  have hlt:=Nat.mod_lt q hpos
  rw [getElem!_pos z.cells _ hlt]
  exact h0 _ (by simp)
 have hst:=Dp (P:=P) E (Builtin.zeroCells z.cells k).toList w b (j * T.sz) 0 C hb (by rw [hsz];simpa using hfit) hone
 refine ⟨(Builtin.zeroCells z.cells k).toList,hsz,fun {ρ x ty} hx=>?_⟩
 have e:Al ρ (.call {callee:=.builtin .clear,args:=#[x],argTypes:=#[t]}) ty=(do pure (Next.value (<-Builtin.clear_ #[t] ty (Array.map ρ #[x])))):=rfl
 rw [e,map_toArray]
 simp only [List.map_cons,List.map_nil,hx]
 obtain ⟨k',rfl⟩:∃ k',k=k' + 1:=⟨k - 1,by omega⟩
 simp only [Nat.add_zero] at hst
 simp [Builtin.clear_,run_underlying hu,hzv,hst,Result.andThen]
end
abbrev QJ (x:(WR×Bool)):List Value:=[(.string ⟨(x.1).toArray⟩),(.bool x.2)]
abbrev SN (_:Mem) (_:(WR×Bool)):Prop:=True
abbrev SD (x:(WR×Bool)):(WR×Bool):=x
theorem kl9:KL Tryz.prog 9 AK:=KL.ofString (by kernel_rfl)
def UM (x:Ad):Value:=.agg #[(.int .i64 x.at_),(.int .i64 x.stage_),(.int .i64 x.num_),(.int .i64 x.minute_)]
def Tu (x y:Ad):Bool:=((x.at_==y.at_)&&((x.stage_==y.stage_)&&((x.num_==y.num_)&&((x.minute_==y.minute_)&&true))))
theorem VG (x y:Ad):Tu x y=decide (x=y):=by
 rw [Bool.eq_iff_iff];unfold Tu
 simp only [Bool.and_eq_true,beq_iff_eq,decide_eq_true_eq,and_true]
 constructor
 ·intro h
  obtain ⟨_,_,_,_⟩:=x;obtain ⟨_,_,_,_⟩:=y
  simp_all [Ad.mk.injEq]
 ·rintro rfl
  simp
set_option maxRecDepth 100000 in
theorem UP:KL Tryz.prog 143 Ax:=KL.ofStruct (d:=8) (by decide) UM (fun h=>by obtain ⟨_,rfl,rfl⟩:=h;rfl) (by kernel_rfl) (fun x=>by kernel_rfl) Tu (fun x y=>by kernel_rfl) VG (fun x=>by simp [UM,Instr.sameBits,beq_toListBytes])
def AF (N:Nat) (x0:(List AG)) (x1:(AG->Option Bool)):Int->Option (BF Int Int):=fun h0=>
 (bif (decide (h0 < (x0.length:Int))) then ((idx x0 h0).bind fun h1=>((x1 h1).bind fun h2=>(bif h2 then some (.ret h0) else some (.next (W64 (h0 + 1)))))) else some (.done h0))
def BB (N:Nat) (x0:(List AG)) (x1:(AG->Option Bool)):Option Int:=
 ((AX (AF N x0 x1) N 0).bind fun o=>o.k (fun r=>some r) (fun h0=>some (-1)))
theorem DR:Ai Tryz.prog 183:=fun _ _=>by kernel_rfl
theorem DU (N:Nat) (w0:World) (F0:Mem) (hF:WT w0 F0) (x0:(List AG)) (h4:WS) (h5:Nat) (b8:LC x0.length h5) (hd:SlA IU F0 h4 x0) (h1:FuncId) (h6 h7:List Value) (x1:AG->Option Bool) (he:Ai Tryz.prog h1) (hf:P8 F0 h1 h6 h7 x1) (r:Int) (h:BB N x0 x1=some r):
  Calls Tryz.prog 183 ([(sL h4 x0 h5),(.func (.func h1) h6.toArray h7.toArray)]:List Value).toArray w0 (AA w0 F0 fun F' v=>v=(vi r)):=by
 have hg:=Wx hF
 refine Go 19 Tryz.func183<|Sq (Rg [0] ?_)
 refine Vs 1<|Nss<|Sq (Rg [0,1,2] ?_)
 refine Vs 3<|Nt ?_
 obtain ⟨h9,hh,ha⟩:=bS h
 refine WC (fun f w=>∃ (hb:Int) (F2:Mem),h9=.done hb/\HS w0 F0 w F2 []/\Wv F0 F2/\FI f [] []) ?_ ?_
 ·refine Bk ?_
  refine Wu (by kernel_rfl) (fun m f w=>∃ (h0:Int) (F1:Mem),AX (AF N x0 x1) m h0=some h9/\HS w0 F0 w F1 []/\Wv F0 F1/\FI f [] [(0,(sL h4 x0 h5)),(1,(.func (.func h1) h6.toArray h7.toArray)),(7,(vi (x0.length:Int))),(8,(vi h0))]) N ⟨0,F0,hh,hg,(Ww _),fI⟩ ?_
  rintro b9 f hl ⟨h0,F1,hm,h2,h3,⟨_,rfl⟩⟩
  obtain ⟨hn,ba,rfl,ho,h8⟩:=AU hm
  refine Sq (Rg [0] ?_)
  refine Vs 1<|Nss<|Cd ho (fun hp hq=>?_) (fun hp hr=>?_)
  ·refine Sc ?_
   refine Ab<|Sq<|Bk<|Sq (Rg [0,1] ?_)
   refine Vs 2<|Nss (Rg (rG 6) ?_)
   refine Vs 3 ?_
   obtain ⟨ht,hu,hv⟩:=bS hq
   obtain ⟨hw,hx48'⟩:=Aq hu
   obtain ⟨bb,bc,bd,be,bf,rfl,hF57,hE58⟩:=WD (Wy hd h3) hx48'
   have hx:=hE58 _ _ hx48'
   refine Ix hw<|Lx 0 (h2.pers _ _ hF57) hx ?_
   obtain ⟨bg,hy,hz⟩:=bS hv
   refine Cq he h2 (hf hl F1 ht _ h3 h2.pers hy) ?_
   rintro _ F3 bh hc b0 rfl
   refine Nt<|Cd hz (fun b1 b2=>?_) (fun b1 b3=>?_)
   ·refine Sq (Rg [0,1] ?_)
    refine Vs 2<|Nt<|Rt<|Ay<|Aj<|Aj<|Ay ?_
    have hret:=D6 b2 h8
    subst hret
    refine .inr<|Aj ?_
    obtain rfl:=Aa ha
    exact Re [(vi h0)] hc rfl
   ·refine Sc ?_
    refine Av<|Ab<|Rg [0,1]<|Vs 2<|Wr ?_
    have b4:=AV b3 h8
    exact ⟨hn,Nat.lt_succ_self _,(W64 (h0 + 1)),F3,b4,hc,(h3.t b0),fI⟩
  ·refine Ex ?_
   refine Au<|Au<|AB rfl ?_
   have b5:=AW hr h8
   exact .inl ⟨rfl,h0,F1,b5,h2,h3,fI⟩
 ·rintro f bi ⟨hb,F2,rfl,b6,bj,⟨_,rfl⟩⟩
  have b7:=B2 ha
  refine Ab<|Sq (Rg [0] ?_)
  refine Vs 1<|Nt<|Rt ?_
  obtain rfl:=Aa b7
  exact Re [(vi (-1))] b6 rfl
def AZ (N:Nat) (x0:(List AG)) (x1:(AG->Option Bool)):Option Bool:=
 ((BB N x0 x1).bind fun h0=>some (decide (h0>=0)))
theorem Dc:Ai Tryz.prog 137:=fun _ _=>by kernel_rfl
theorem Dn (N:Nat) (w0:World) (F0:Mem) (hF:WT w0 F0) (x0:(List AG)) (h1:WS) (h2:Nat) (h6:LC x0.length h2) (h7:SlA IU F0 h1 x0) (h0:FuncId) (h3 h4:List Value) (x1:AG->Option Bool) (h8:Ai Tryz.prog h0) (h9:P8 F0 h0 h3 h4 x1) (r:Bool) (h:AZ N x0 x1=some r):
  Calls Tryz.prog 137 ([(sL h1 x0 h2),(.func (.func h0) h3.toArray h4.toArray)]:List Value).toArray w0 (AA w0 F0 fun F' v=>v=(.bool r)):=by
 have h5:=Wx hF
 refine Go 9 Tryz.func137<|Sq (Rg [0] ?_)
 refine Vs 1<|Nss (Rg (rG 5) ?_)
 refine Vs 2 ?_
 obtain ⟨ha,hb,hc⟩:=bS h
 refine Cl' DR h5 (DU N w0 F0 h5.pers x0 h1 h2 h6 h7 h0 h3 h4 x1 h8 (fun w1 F1 y0 r hd he hf=>h9 w1 F1 y0 r hd he hf) _ hb) ?_
 rintro _ F1 hh hg hl rfl
 refine Vs 2<|Nt<|Rt ?_
 obtain rfl:=Aa hc
 exact Re [(.bool (decide (ha>=0)))] hg rfl
def CQ (N:Nat) (x0:Ac) (x1:Ae):Option (List AG):=
 some [({has_:=x0.Report,n_:=x1.Report,most_:=599,digits_:=1}:AG),({has_:=x0.Serial,n_:=x1.Serial,most_:=99999,digits_:=3}:AG),({has_:=x0.Zone,n_:=x1.Zone,most_:=99,digits_:=2}:AG)]
theorem EH:Ai Tryz.prog 138:=fun _ _=>by kernel_rfl
theorem Fi (N:Nat) (w0:World) (F0:Mem) (hF:WT w0 F0) (x0:Ac) (x1:Ae) (r:(List AG)) (h:CQ N x0 x1=some r):
  Calls Tryz.prog 138 ([(.agg (Am x0)),(.agg (B8 x1))]:List Value).toArray w0 (AA w0 F0 fun F' v=>∃ (h2:WS) (h3:Nat),v=(sL h2 r h3)/\LC r.length h3/\SlA IU F' h2 r):=by
 have h5:=Wx hF
 refine Go 21 Tryz.func138<|Sq (Rg [0,1,2] ?_)
 refine Bx' 23 (Am x0) h5 (fun hb hc h6=>?_)
 refine Bx' 32 (B8 x1) h6 (fun hd he h0=>?_)
 refine Vs 1<|Nss (Rg (rG 17) ?_)
 refine Vs 1<|Ld h0.at1<|Vs 1<|Ld h0.at0<|Vs 2<|Ld h0.at1<|Vs 1<|Ld h0.at0<|Vs 2<|Ld h0.at1<|Vs 1<|Ld h0.at0<|Vs 1<|Bs 180 [(.bool x0.Report),(vi x1.Report),(vi 599),(vi 1),(.bool x0.Serial),(vi x1.Serial),(vi 99999),(vi 3),(.bool x0.Zone),(vi x1.Zone),(vi 99),(vi 2)] h0 (fun h1 hf h7=>?_)
 have h4:As IU 180 F0 (some ⟨h1,0,none⟩) 3 [({has_:=x0.Report,n_:=x1.Report,most_:=599,digits_:=1}:AG),({has_:=x0.Serial,n_:=x1.Serial,most_:=99999,digits_:=3}:AG),({has_:=x0.Zone,n_:=x1.Zone,most_:=99,digits_:=2}:AG)] (some h1,.cells ([(.bool x0.Report),(vi x1.Report),(vi 599),(vi 1),(.bool x0.Serial),(vi x1.Serial),(vi 99999),(vi 3),(.bool x0.Zone),(vi x1.Zone),(vi 99),(vi 2)]:List Value).toArray 180 (0,0)):=WL ⟨rfl,⟨rfl,⟨rfl,rfl⟩⟩⟩ (by simp)
 refine Vs 1<|Nt<|Rt ?_
 have h8:=WJ h4
 obtain ⟨F1,h9,hg,ha⟩:=h7.fr0 h4
 obtain rfl:=Aa h
 exact Re [(.slice (some ⟨h1,0,none⟩) [({has_:=x0.Report,n_:=x1.Report,most_:=599,digits_:=1}:AG),({has_:=x0.Serial,n_:=x1.Serial,most_:=99999,digits_:=3}:AG),({has_:=x0.Zone,n_:=x1.Zone,most_:=99,digits_:=2}:AG)].length 3)] h9 ⟨(some ⟨h1,0,none⟩),3,rfl,h8,ha⟩
def Gf (N:Nat) (x0 x1 x2:Int):Option Bool:=
 some ((decide (x0>=x1))&&(decide (x0<=x2)))
theorem GK:Ai Tryz.prog 140:=fun _ _=>by kernel_rfl
theorem Hz (N:Nat) (w0:World) (F0:Mem) (hF:WT w0 F0) (x0 x1 x2:Int) (r:Bool) (h:Gf N x0 x1 x2=some r):
  Calls Tryz.prog 140 ([(vi x0),(vi x1),(vi x2)]:List Value).toArray w0 (AA w0 F0 fun F' v=>v=(.bool r)):=by
 have h1:=Wx hF
 refine Go 15 Tryz.func140<|Sq (Rg [0] ?_)
 refine Vs 1<|Nss (Rg (rG 9) ?_)
 refine WB (fun f w=>∃ (F1:Mem),HS w0 F0 w F1 []/\Wv F0 F1/\FI f [] [(6,(.bool ((decide (x0>=x1))&&(decide (x0<=x2)))))]) ?_ ?_
 ·refine Vs 4 ?_
  refine WA (decide (x0>=x1)) (fun h0=>?_) (fun h0=>?_)
  ·refine Vgs h0 3 ?_
   refine Pk1 h0<|Vs 1 ?_
   exact Wr ⟨rfl,F0,h1,(Ww _),(fJ ⟨(congrArg Value.bool (Es h0 rfl)),trivial⟩)⟩
  ·refine Ss h0 3 ?_
   refine Pk0 h0<|Vs 1 ?_
   exact Wr ⟨rfl,F0,h1,(Ww _),(fJ ⟨(congrArg Value.bool (IM h0 rfl)),trivial⟩)⟩
 ·rintro f h3 ⟨F1,h2,h4,⟨_,rfl⟩⟩
  refine Ab<|Rt ?_
  obtain rfl:=Aa h
  exact Re [(.bool ((decide (x0>=x1))&&(decide (x0<=x2))))] h2 rfl
def B4 (N:Nat) (x0:AG):Option Bool:=
 (((Gf N x0.n_ 1 x0.most_).bind fun h0=>(bif (!(x0.has_==h0)) then some true else (bif (!x0.has_) then some (x0.n_ !=0) else some false))).bind fun h1=>some h1)
theorem Hu:Ai Tryz.prog 139:=fun _ _=>by kernel_rfl
theorem HZ (N:Nat) (w0:World) (F0:Mem) (hF:WT w0 F0) (x0:AG) (r:Bool) (h:B4 N x0=some r):
  Calls Tryz.prog 139 ([(.agg (IX x0))]:List Value).toArray w0 (AA w0 F0 fun F' v=>v=(.bool r)):=by
 have h7:=Wx hF
 refine Go 21 Tryz.func139<|Sq (Rg [0,1] ?_)
 refine Bx' 180 (IX x0) h7 (fun h1 hm h8=>?_)
 refine Vs 1<|Nss ?_
 obtain ⟨h5,h9,ha⟩:=bS h
 refine RD 19 19 [(sb h1 (IX x0) 180)] [] h8 (fun f w=>∃ (F1:Mem),HS w0 F0 w F1 []/\Wv F0 F1/\FI f [] [(2,(.bool h5))]) (fun hb h6=>?_) ?_
 ·refine Dvl [0] (tf 1 18) ?_
  refine Dl 1 (fun _ hq=>(hq.1.2 0 _ _ rfl))<|Dvl [2] (tf 3 16)<|Dl 3 (fun _ hq=>(hq.1.2 0 _ _ rfl))<|Dvl [4] (tf 5 14)<|Dl 5 (fun _ hq=>(hq.1.2 0 _ _ rfl))<|D1 6 ?_
  obtain ⟨hn,hc,hd⟩:=bS h9
  refine DCl GK h6 (Hz N hb F0 h6.pers x0.n_ 1 x0.most_ _ hc) ?_
  rintro _ F2 ho h3 h4 rfl
  refine Dvl [7,8] (tf 9 10)<|Sd hd (fun h0 he=>?_) (fun h0 hf=>?_)
  ·refine Dkl [(9,12),(10,13),(11,14),(12,15)] 8 false 11 h0 (tf 13 6) ?_
   refine Dul [(13,16),(14,17),(15,18)] 12 true 15 (tf 16 3)<|Dkl [(16,19)] 8 false 11 h0 (tf 17 2)<|Dtl 17 20 4 _ (tf 18 1) (fun _ hq=>p1 11 (.const (.bool true)) (.tmp 19) (.bool true) h0)<|Dvl [18] (tf 19 0) ?_
   obtain rfl:=Aa he
   exact WI (by kernel_rfl) ⟨F2,h3.dr0,h4,fI⟩
  ·refine Dgl 9 12 0 (pt h1 0) (tf 10 9) 8 false 11 h0 (fun _ hq=>fa 180 1 0 0 1 h1 0 0) ?_
   refine Dgl 10 13 4 _ (tf 11 8) 8 false 11 h0 (fun _ hq=>ld 4 12 h1 0 false 1 (.bool x0.has_) (hq.1.2 0 _ _ rfl))<|Dgl 11 14 4 (.bool (!x0.has_)) (tf 12 7) 8 false 11 h0 (fun _ hq=>Oz (t:=4) (x:=(.tmp 13)) (a:=x0.has_) rfl)<|Dgl 12 15 4 _ (tf 13 6) 8 false 11 h0 (fun _ hq=>mv 14 (.bool (!x0.has_)))<|Sd hf (fun h2 hg=>?_) (fun h2 hh=>?_)
   ·refine Dgl 13 16 0 (pt h1 1) (tf 14 5) 12 true 15 h2 (fun _ hq=>fa 180 1 1 1 1 h1 0 1) ?_
    refine Dgl 14 17 3 _ (tf 15 4) 12 true 15 h2 (fun _ hq=>ld 3 16 h1 1 false 1 (vi x0.n_) (hq.1.2 0 _ _ rfl))<|Dgl 15 18 4 (.bool (x0.n_ !=0)) (tf 16 3) 12 true 15 h2 (fun _ hq=>Mc (t:=3) (t':=3) (x:=(.tmp 17)) (y:=(.const (vi 0))) (k:=.i64) (a:=x0.n_) (b:=0) rfl rfl)<|Dgl 16 19 4 _ (tf 17 2) 8 false 11 h0 (fun _ hq=>p1 15 (.tmp 18) (.const (.bool false)) (.bool (x0.n_ !=0)) h2)<|Dtl 17 20 4 _ (tf 18 1) (fun _ hq=>p0 11 (.const (.bool true)) (.tmp 19) (.bool (x0.n_ !=0)) h0)<|Dvl [18] (tf 19 0) ?_
    obtain rfl:=Aa hg
    exact WI (by kernel_rfl) ⟨F2,h3.dr0,h4,fI⟩
   ·refine Dkl [(13,16),(14,17),(15,18)] 12 true 15 h2 (tf 16 3) ?_
    refine Dgl 16 19 4 _ (tf 17 2) 8 false 11 h0 (fun _ hq=>p0 15 (.tmp 18) (.const (.bool false)) (.bool false) h2)<|Dtl 17 20 4 _ (tf 18 1) (fun _ hq=>p0 11 (.const (.bool true)) (.tmp 19) (.bool false) h0)<|Dvl [18] (tf 19 0) ?_
    obtain rfl:=Aa hh
    exact WI (by kernel_rfl) ⟨F2,h3.dr0,h4,fI⟩
 ·rintro f hp ⟨F1,hl,hr,⟨_,rfl⟩⟩
  refine Ab<|Rt ?_
  obtain rfl:=Aa ha
  exact Re [(.bool h5)] hl rfl
def B0 (N:Nat) (x0:Ac) (x1:Ae):Option Bool:=
 ((CQ N ({Report:=x0.Report,Serial:=x0.Serial,Zone:=x0.Zone}:Ac) ({Report:=x1.Report,Serial:=x1.Serial,Zone:=x1.Zone}:Ae)).bind fun h0=>((AZ N h0 (fun y0=>B4 N y0)).bind fun h1=>some (!h1)))
theorem DC:Ai Tryz.prog 75:=fun _ _=>by kernel_rfl
theorem DV (N:Nat) (w0:World) (F0:Mem) (hF:WT w0 F0) (x0:Ac) (x1:Ae) (r:Bool) (h:B0 N x0 x1=some r):
  Calls Tryz.prog 75 ([(.agg (Am x0)),(.agg (B8 x1))]:List Value).toArray w0 (AA w0 F0 fun F' v=>v=(.bool r)):=by
 have h2:=Wx hF
 refine Go 10 Tryz.func75<|Sq (Rg [0,1,2] ?_)
 refine Bx' 23 (Am x0) h2 (fun hm hn h3=>?_)
 refine Bx' 32 (B8 x1) h3 (fun ho h4 h0=>?_)
 refine Vs 1<|Nss (Rg (rG 6) ?_)
 refine Ld h0.at1<|Ld h0.at0 ?_
 obtain ⟨h5,h6,h7⟩:=bS h
 refine Cl' EH h0 (Fi N h4 F0 h0.pers (({Report:=x0.Report,Serial:=x0.Serial,Zone:=x0.Zone}:Ac)) (({Report:=x1.Report,Serial:=x1.Serial,Zone:=x1.Zone}:Ae)) _ h6) ?_
 rintro _ F1 h8 h1 hp ⟨h9,ha,rfl,hb,hc⟩
 obtain ⟨hd,he,hf⟩:=bS h7
 refine Cl' Dc h1 (Dn N h8 F1 h1.pers h5 h9 ha hb hc 139 [] [] (fun y0=>B4 N y0) Hu (fun w1 F1 y0 r hq hg hh=>HZ N w1 F1 hg y0 r hh) _ he) ?_
 rintro _ F2 hr hl ht rfl
 refine Vs 2<|Nt<|Rt ?_
 obtain rfl:=Aa hf
 exact Re [(.bool (!hd))] hl rfl



def Fj (N:Nat) (x0:WR) (x1:Int) (x2:(Int->Option Bool)):Nat->Option (BF Bool Nat):=fun h0=>
 (bif (decide (h0 < (x0).length)) then ((x2 ((JD x0 h0).1:Int)).bind fun h1=>(bif (!h1) then some (.ret false) else some (.next (h0 + (JD x0 h0).2)))) else some (.done h0))
def Fk (N:Nat) (x0:WR) (x1:Int) (x2:(Int->Option Bool)):Option Bool:=
 ((AX (Fj N x0 x1 x2) N 0).bind fun o=>o.k (fun r=>some r) (fun h1=>((Gf N (x0.length:Int) 1 x1).bind fun h0=>some h0)))
theorem Fh:Ai Tryz.prog 198:=fun _ _=>by kernel_rfl
theorem Gd (N:Nat) (w0:World) (F0:Mem) (hF:WT w0 F0) (x0:WR) (x1:Int) (h2:FuncId) (h3 h4:List Value) (x2:Int->Option Bool) (hg:Ai Tryz.prog h2) (hh:LH F0 h2 h3 h4 x2) (r:Bool) (h:Fk N x0 x1 x2=some r):
  Calls Tryz.prog 198 ([(sv x0),(vi x1),(.func (.func h2) h3.toArray h4.toArray)]:List Value).toArray w0 (AA w0 F0 fun F' v=>v=(.bool r)):=by
 have hl:=Wx hF
 refine Go 22 Tryz.func198<|Sq (Rg [0] ?_)
 refine Vs 1<|Nss<|Sq (Rg [0,1] ?_)
 refine Vs 1<|RWP.srange (dst:=(some 10)) (ty:=0) (g:=none) (by kernel_rfl) rfl (t:=9) (x:=(.tmp 9)) (a:=x0) rfl (by kernel_rfl) hl (fun h1 hm (hn:HS w0 F0 hm F0 [(some h1,(.stringIter ⟨(x0).toArray⟩ 0))])=>?_)
 refine Nt ?_
 obtain ⟨h9,ho,ha⟩:=bS h
 refine WC (fun f w=>∃ (hb:Nat) (F2:Mem),h9=.done hb/\HS w0 F0 w F2 []/\Wv F0 F2/\FI f [] [(0,(sv x0)),(1,(vi x1))]) ?_ ?_
 ·refine Bk ?_
  refine Wu (by kernel_rfl) (fun m f w=>∃ (h0:Nat) (F1:Mem),AX (Fj N x0 x1 x2) m h0=some h9/\HS w0 F0 w F1 [(some h1,(.stringIter ⟨(x0).toArray⟩ h0))]/\Wv F0 F1/\FI f [] [(0,(sv x0)),(1,(vi x1)),(2,(.func (.func h2) h3.toArray h4.toArray)),(10,(pt h1 0))]) N ⟨0,F0,ho,hn,(Ww _),fI⟩ ?_
  rintro b9 f ba ⟨h0,F1,hp,h5,h6,⟨_,rfl⟩⟩
  obtain ⟨hq,bb,rfl,hr,h7⟩:=AU hp
  refine Sq (Rg [0,1] ?_)
  refine Sp hr (fun h8 ht=>?_) (fun h8 hu=>?_)
  ·refine RWP.snext1 (dst:=(some 11)) (ty:=0) (g:=none) (by kernel_rfl) rfl (x:=(.tmp 10)) (b:=h1) (a:=x0) (pos:=h0) (k:=0) rfl h5 rfl h8 (fun hc (hd:HS w0 F0 hc F1 [(some h1,(.stringIter ⟨(x0).toArray⟩ (h0 + (JD x0 h0).2)))])=>?_)
   refine Vs 1<|Nss<|C1 (rfl:true=true)<|Sc<|Ab<|Bk<|Sq (Rg [0,1] ?_)
   refine Vs 2<|Nss (Rg (rG 4) ?_)
   refine Vs 2 ?_
   obtain ⟨bc,hv,hw⟩:=bS ht
   refine Cq hg hd (hh hc F1 (((JD x0 h0).1:Int)) _ h6 hd.pers hv) ?_
   rintro _ F3 bd he hx rfl
   refine Vs 1<|Nt<|Cd hw (fun hy hz=>?_) (fun hy b0=>?_)
   ·refine Sq (Rg [0] ?_)
    refine Vs 1<|Nt<|Rt<|Ay<|Aj<|Ay ?_
    have hret:=D6 hz h7
    subst hret
    refine .inr<|Aj ?_
    obtain rfl:=Aa ha
    exact Re [(.bool false)] he rfl
   ·refine Sc ?_
    refine Av ?_
    have b1:=AV b0 h7
    exact ⟨hq,Nat.lt_succ_self _,(h0 + (JD x0 h0).2),F3,b1,he,(h6.t hx),fI⟩
  ·refine RWP.snext0 (dst:=(some 11)) (ty:=0) (g:=none) (by kernel_rfl) rfl (x:=(.tmp 10)) (b:=h1) (a:=x0) (pos:=h0) (k:=0) rfl h5 rfl h8 ?_
   refine Vs 1<|Nss<|C0 (rfl:false=false)<|Ex<|Au<|Au<|AB rfl ?_
   have b2:=AW hu h7
   exact .inl ⟨rfl,h0,F1,b2,h5.dr0,h6,fI⟩
 ·rintro f b3 ⟨hb,F2,rfl,hf,be,⟨_,rfl⟩⟩
  have b4:=B2 ha
  refine Ab<|Sq (Rg (rG 5) ?_)
  refine Vs 3 ?_
  obtain ⟨b5,b6,b7⟩:=bS b4
  refine Cl' GK hf (Hz N b3 F2 hf.pers ((x0.length:Int)) 1 x1 _ b6) ?_
  rintro _ F4 bf b8 bg rfl
  refine Vs 1<|Nt<|Rt ?_
  obtain rfl:=Aa b7
  exact Re [(.bool b5)] b8 rfl
def Bn (N:Nat) (x0:Int):Option Bool:=
 some ((decide (x0>=48))&&(decide (x0<=57)))
theorem FC:Ai Tryz.prog 199:=fun _ _=>by kernel_rfl
theorem Gz (N:Nat) (w0:World) (F0:Mem) (hF:WT w0 F0) (x0:Int) (r:Bool) (h:Bn N x0=some r):
  Calls Tryz.prog 199 ([(.int .i32 x0)]:List Value).toArray w0 (AA w0 F0 fun F' v=>v=(.bool r)):=by
 have h1:=Wx hF
 refine Go 9 Tryz.func199<|Sq (Rg [0] ?_)
 refine Vs 1<|Nss (Rg (rG 7) ?_)
 refine WB (fun f w=>∃ (F1:Mem),HS w0 F0 w F1 []/\Wv F0 F1/\FI f [] [(2,(.bool ((decide (x0>=48))&&(decide (x0<=57)))))]) ?_ ?_
 ·refine Vs 3 ?_
  refine WA (decide (x0>=48)) (fun h0=>?_) (fun h0=>?_)
  ·refine Vgs h0 2 ?_
   refine Pk1 h0<|Vs 1 ?_
   exact Wr ⟨rfl,F0,h1,(Ww _),(fJ ⟨(congrArg Value.bool (Es h0 rfl)),trivial⟩)⟩
  ·refine Ss h0 2 ?_
   refine Pk0 h0<|Vs 1 ?_
   exact Wr ⟨rfl,F0,h1,(Ww _),(fJ ⟨(congrArg Value.bool (IM h0 rfl)),trivial⟩)⟩
 ·rintro f h3 ⟨F1,h2,h4,⟨_,rfl⟩⟩
  refine Ab<|Rt ?_
  obtain rfl:=Aa h
  exact Re [(.bool ((decide (x0>=48))&&(decide (x0<=57))))] h2 rfl
def BT (N:Nat) (x0:Int):Option Bool:=
 some ((decide (x0>=65))&&(decide (x0<=90)))
theorem E4:Ai Tryz.prog 264:=fun _ _=>by kernel_rfl
theorem FE (N:Nat) (w0:World) (F0:Mem) (hF:WT w0 F0) (x0:Int) (r:Bool) (h:BT N x0=some r):
  Calls Tryz.prog 264 ([(.int .i32 x0)]:List Value).toArray w0 (AA w0 F0 fun F' v=>v=(.bool r)):=by
 have h1:=Wx hF
 refine Go 9 Tryz.func264<|Sq (Rg [0] ?_)
 refine Vs 1<|Nss (Rg (rG 7) ?_)
 refine WB (fun f w=>∃ (F1:Mem),HS w0 F0 w F1 []/\Wv F0 F1/\FI f [] [(2,(.bool ((decide (x0>=65))&&(decide (x0<=90)))))]) ?_ ?_
 ·refine Vs 3 ?_
  refine WA (decide (x0>=65)) (fun h0=>?_) (fun h0=>?_)
  ·refine Vgs h0 2 ?_
   refine Pk1 h0<|Vs 1 ?_
   exact Wr ⟨rfl,F0,h1,(Ww _),(fJ ⟨(congrArg Value.bool (Es h0 rfl)),trivial⟩)⟩
  ·refine Ss h0 2 ?_
   refine Pk0 h0<|Vs 1 ?_
   exact Wr ⟨rfl,F0,h1,(Ww _),(fJ ⟨(congrArg Value.bool (IM h0 rfl)),trivial⟩)⟩
 ·rintro f h3 ⟨F1,h2,h4,⟨_,rfl⟩⟩
  refine Ab<|Rt ?_
  obtain rfl:=Aa h
  exact Re [(.bool ((decide (x0>=65))&&(decide (x0<=90))))] h2 rfl
def DJ (N:Nat) (x0:Int):Option Bool:=
 (((BT N x0).bind fun h0=>(bif h0 then some true else ((Bn N x0).bind fun h1=>some h1))).bind fun h2=>some h2)
theorem NR:Ai Tryz.prog 265:=fun _ _=>by kernel_rfl
theorem Pb (N:Nat) (w0:World) (F0:Mem) (hF:WT w0 F0) (x0:Int) (r:Bool) (h:DJ N x0=some r):
  Calls Tryz.prog 265 ([(.int .i32 x0)]:List Value).toArray w0 (AA w0 F0 fun F' v=>v=(.bool r)):=by
 have h2:=Wx hF
 refine Go 9 Tryz.func265<|Sq (Rg [0] ?_)
 refine Vs 1<|Nss (Rg (rG 7) ?_)
 obtain ⟨h3,h5,h6⟩:=bS h
 refine WB (fun f w=>∃ (F1:Mem),HS w0 F0 w F1 []/\Wv F0 F1/\FI f [] [(2,(.bool h3))]) ?_ ?_
 ·refine Vs 1 ?_
  obtain ⟨hh,h7,h8⟩:=bS h5
  refine Cl' E4 h2 (FE N w0 F0 h2.pers x0 _ h7) ?_
  rintro _ F2 h9 h1 h4 rfl
  refine Vs 1<|Sp h8 (fun h0 ha=>?_) (fun h0 hb=>?_)
  ·refine Ss h0 2 ?_
   refine Pk1 h0<|Vs 1 ?_
   obtain rfl:=Aa ha
   exact Wr ⟨rfl,F2,h1,h4,fI⟩
  ·refine Vgs h0 1 ?_
   obtain ⟨hl,hc,hd⟩:=bS hb
   refine Cg h0 FC h1 (Gz N h9 F2 h1.pers x0 _ hc) ?_
   rintro _ F3 hm he hf rfl
   refine Pk0 h0<|Vs 1 ?_
   obtain rfl:=Aa hd
   exact Wr ⟨rfl,F3,he,(h4.t hf),fI⟩
 ·rintro f hn ⟨F1,hg,ho,⟨_,rfl⟩⟩
  refine Ab<|Rt ?_
  obtain rfl:=Aa h6
  exact Re [(.bool h3)] hg rfl
section
open Go.Proofs Go.RowKit Go.Sort Go.Lib
def Fo (p:Int->Option Bool) (x:Nat):Bool:=(p (x:Int)).getD false
def Pg (p:Int->Option Bool):Prop:=∀ x:Nat,x<=1114111->(p (x:Int)).isSome=true
def J5 (p:Int->Option Bool):Bool:=(List.range 1114112).all fun x=>(p (x:Int)).isSome
theorem Ia {p:Int->Option Bool}:J5 p=true ↔ Pg p:=by
 unfold J5 Pg
 rw [List.all_eq_true]
 exact ⟨fun h x hx=>h x (by rw [List.mem_range];omega),fun h x hx=>h x (by rw [List.mem_range] at hx;omega)⟩
theorem Oa {w:World} {F:Mem} (hF:∀ b o,F b=some o->w.heap[b]? =some o) {gq:FuncId} {k:List Value} {p:Int->Option Bool} (h:LH F gq [] k p) (ha:Pg p):PredGrows Tryz.prog gq k.toArray (Fo p) w:=by
 intro W x hx hb
 have hr:=ha x hx
 obtain ⟨r,hr'⟩:=Option.isSome_iff_exists.1 hr
 have:=h W F (x:Int) r (Ww F) (Below.pers hF hb) hr'
 have e:Fo p x=r:=by unfold Fo;rw [hr'];rfl
 rw [e]
 have he:(#[encR x]++k.toArray:Array Value)=(([]:List Value)++(([.int .i32 (x:Int)]:List Value)++k)).toArray:=by
  apply Array.ext';simp [encR]
 rw [he]
 refine this.mono ?_
 rintro e w' ⟨v,F',rfl,hs,rfl⟩
 exact ⟨rfl,hs.fix.1,hs.fix.2.2,hs.fix.2.1,hs.size,hs.keep⟩
def Cn (_N:Nat) (x0:WR) (x1:Int->Option Bool):Option Int:=
 if J5 x1=true then some (Go.Lib.idxFunc (Fo x1) true ⟨x0.toArray⟩) else none
theorem Iu:Ai Tryz.prog 266:=fun _ _=>by kernel_rfl
theorem Jc (N:Nat) (w0:World) (F0:Mem) (hF:WT w0 F0) (x0:WR) (h0:FuncId) (h1:List Value) (x1:Int->Option Bool) (h2:Ai Tryz.prog h0) (h3:LH F0 h0 [] h1 x1) (r:Int) (h:Cn N x0 x1=some r):
  Calls Tryz.prog 266 ([(.string ⟨(x0).toArray⟩),(.func (.func h0) ([]:List Value).toArray h1.toArray)]:List Value).toArray w0 (AA w0 F0 fun _ v=>v=(.int .i64 r)):=by
 unfold Cn at h
 split at h
 ·rename_i ha
  cases h
  exact WN hF (Tryz.strings_IndexFunc_grows h0 h1.toArray h2 _ _ w0 (Oa hF h3 (Ia.1 ha))) rfl
 ·cases h
def Ce (_N:Nat) (x0:WR) (x1:Int->Option Bool) (x2:Bool):Option Int:=
 if J5 x1=true/\x0.length<=9223372036854775807 then some (Go.Lib.lastIdxFunc (Fo x1) x2 ⟨x0.toArray⟩) else none
theorem GE:Ai Tryz.prog 284:=fun _ _=>by kernel_rfl
theorem G3 (N:Nat) (w0:World) (F0:Mem) (hF:WT w0 F0) (hG:Bz F0) (x0:WR) (h0:FuncId) (h1:List Value) (x1:Int->Option Bool) (h2:Ai Tryz.prog h0) (h3:LH F0 h0 [] h1 x1) (x2:Bool) (r:Int) (h:Ce N x0 x1 x2=some r):
  Calls Tryz.prog 284 ([(.string ⟨(x0).toArray⟩),(.func (.func h0) ([]:List Value).toArray h1.toArray),(.bool x2)]:List Value).toArray w0 (AA w0 F0 fun _ v=>v=(.int .i64 r)):=by
 unfold Ce at h
 split at h
 ·rename_i ha
  cases h
  exact WN hF (Tryz.strings_lastIndexFunc_grows h0 h1.toArray h2 _ _ _ w0 (by simpa [ByteArray.size] using ha.2) (hG w0 hF).2.1 (Oa hF h3 (Ia.1 ha.1))) rfl
 ·cases h
def Ov (s sep:WR):List WR:=(Go.Lib.splitB ⟨sep.toArray⟩ 0 (Go.Lib.countB ⟨s.toArray⟩ ⟨sep.toArray⟩) ⟨s.toArray⟩).map (·.data.toList)
def strings_Split (_N:Nat) (s sep:WR):Option (List WR):=if s.length < 4294967281/\1<=sep.length then some (Ov s sep) else none
theorem CL:Ai Tryz.prog 93:=fun _ _=>by kernel_rfl
theorem C3 (N:Nat) (w0:World) (F0:Mem) (hF:WT w0 F0) (hG:Bz F0) (x0 x1:WR) (r:List WR) (h:strings_Split N x0 x1=some r):
  Calls Tryz.prog 93 ([(.string ⟨(x0).toArray⟩),(.string ⟨(x1).toArray⟩)]:List Value).toArray w0 (AA w0 F0 fun F' v=>∃ (h0:WS) (h2:Nat),v=(.slice h0 r.length h2)/\LC r.length h2/\SlA AK F' h0 r):=by
 unfold strings_Split at h
 split at h
 ·rename_i ha
  cases h
  obtain ⟨m,hm⟩:=(hG w0 hF).2.2.1
  have hs:(⟨x0.toArray⟩:ByteArray).size < 4294967281:=by simpa [ByteArray.size] using ha.1
  have h1:1<=(⟨x1.toArray⟩:ByteArray).size:=by simpa [ByteArray.size] using ha.2
  have hle:=Go.Lib.countB_le ⟨x1.toArray⟩ h1 _ ⟨x0.toArray⟩ (Nat.le_refl _)
  exact AA.strs hF (Tryz.strings_Split _ _ m w0 hs hm h1) (Go.Lib.splitB_all ⟨x1.toArray⟩ h1 0 _ _ rfl) (by omega)
 ·cases h
def strings_Cut (_N:Nat) (s sep:WR):Option (WR×WR×Bool):=if s.length < 4294967281 then some (Go.Lib.cut s sep) else none
theorem Iv:Ai Tryz.prog 164:=fun _ _=>by kernel_rfl
theorem Jw (N:Nat) (w0:World) (F0:Mem) (hF:WT w0 F0) (hG:Bz F0) (x0 x1:WR) (r:WR×WR×Bool) (h:strings_Cut N x0 x1=some r):
  Calls Tryz.prog 164 ([(.string ⟨(x0).toArray⟩),(.string ⟨(x1).toArray⟩)]:List Value).toArray w0 (AA w0 F0 fun _ v=>v=(.tuple #[(.string ⟨(r.1).toArray⟩),(.string ⟨(r.2.1).toArray⟩),(.bool r.2.2)])):=by
 unfold strings_Cut at h
 split at h
 ·rename_i ha
  cases h
  obtain ⟨m,hm⟩:=(hG w0 hF).2.2.1
  refine WN hF ((Tryz.strings_Cut ⟨x0.toArray⟩ ⟨x1.toArray⟩ m w0 (by simpa [ByteArray.size] using ha) hm).mono ?_) rfl
  rintro e w' ⟨rfl,n,rfl⟩
  exact ⟨rfl,P3 _ _⟩
 ·cases h
def strings_Repeat (_N:Nat) (s:WR) (n:Int):Option WR:=if 0<=n/\n<=9223372036854775807/\s.length * n.toNat<=140737488355328 then some (Go.Lib.repeatL s n.toNat) else none
theorem Ko:Ai Tryz.prog 186:=fun _ _=>by kernel_rfl
theorem K4 (N:Nat) (w0:World) (F0:Mem) (hF:WT w0 F0) (x0:WR) (x1:Int) (r:WR) (h:strings_Repeat N x0 x1=some r):
  Calls Tryz.prog 186 ([(.string ⟨(x0).toArray⟩),(.int .i64 x1)]:List Value).toArray w0 (AA w0 F0 fun _ v=>v=(.string ⟨(r).toArray⟩)):=by
 unfold strings_Repeat at h
 split at h
 ·rename_i ha
  cases h
  have e:(x1.toNat:Int)=x1:=by omega
  have:=Tryz.strings_Repeat ⟨x0.toArray⟩ x1.toNat w0 (by omega) (by simpa [ByteArray.size] using ha.2.2)
  rw [e] at this
  exact WN hF this rfl
 ·cases h
def strings_Join (_N:Nat) (l:List WR) (sep:WR):Option WR:=if l.length<=140737488355328/\(Go.Lib.join l sep).length<=140737488355328 then some (Go.Lib.join l sep) else none
theorem Ck:Ai Tryz.prog 84:=fun _ _=>by kernel_rfl
theorem CO (N:Nat) (w0:World) (F0:Mem) (hF:WT w0 F0) (x0:(List WR)) (h1:WS) (h0:Nat) (h2:LC x0.length h0) (h3:SlA AK F0 h1 x0) (x1 r:WR) (h:strings_Join N x0 x1=some r):
  Calls Tryz.prog 84 ([(.slice h1 x0.length h0),(.string ⟨(x1).toArray⟩)]:List Value).toArray w0 (AA w0 F0 fun _ v=>v=(.string ⟨(r).toArray⟩)):=by
 unfold strings_Join at h
 split at h
 ·rename_i ha
  cases h
  rcases h3 with rfl | ⟨b,o,C,E,fz,rfl,hC,hx⟩
  ·refine WN hF ((Tryz.strings_Join_none h1 h0 ⟨x1.toArray⟩ w0).mono ?_) rfl
   rintro e w' ⟨rfl,rfl⟩
   exact ⟨rfl,Below.refl _ _⟩
  ·have hb:=hF _ _ hC
   have hmap:(x0.map fun l=>(⟨l.toArray⟩:ByteArray)).map (·.data.toList)=x0:=by
    rw [List.map_map];conv=>rhs;rw [<-List.map_id x0]
    exact List.map_congr_left fun l _=>by simp
   have:=Tryz.strings_Join b o h0 (x0.map fun l=>⟨l.toArray⟩) ⟨x1.toArray⟩ w0 (fun j x hj=>by
    rw [List.getElem?_map] at hj
    cases hl:x0[j]? with
    | none=>rw [hl] at hj;cases hj
    | some l=>
     rw [hl] at hj
     cases hj
     have hc:Ap C (o + j * 1) 1=[.string ⟨l.toArray⟩]:=hx j l hl
     rw [Nat.mul_one] at hc
     have:=ID.1 hc
     simp [World.cell?,hb,this]) (Bb hb) (by simpa using ha.1) (by simpa using h2.1) (by rw [hmap];exact ha.2)
   rw [hmap,List.length_map] at this
   exact WN hF this rfl
 ·cases h
def strconv_Itoa (_N:Nat) (n:Int):Option WR:=if -9223372036854775808<=n/\n<=9223372036854775807 then some (Go.Lib.itoa n) else none
theorem Bx:Ai Tryz.prog 85:=fun _ _=>by kernel_rfl
theorem BH (N:Nat) (w0:World) (F0:Mem) (hF:WT w0 F0) (hG:Bz F0) (x0:Int) (r:WR) (h:strconv_Itoa N x0=some r):
  Calls Tryz.prog 85 ([(.int .i64 x0)]:List Value).toArray w0 (AA w0 F0 fun _ v=>v=(.string ⟨(r).toArray⟩)):=by
 unfold strconv_Itoa at h
 split at h
 ·rename_i ha
  cases h
  refine WN hF ((Tryz.strconv_Itoa x0 ha.1 ha.2 w0 (hG w0 hF).1).mono ?_) rfl
  rintro e w' ⟨rfl,k,os,rfl⟩
  exact ⟨rfl,rfl,rfl,rfl,by simp [grow,World.drewN],fun j hj=>by
   show ((w0.drewN k).heap++os)[j]? =_
   rw [Array.getElem?_append_left (show j < (w0.drewN k).heap.size from hj)];rfl⟩
 ·cases h
def B5 (_N:Nat) (s:WR):Option (Int×Bool):=if s.length<=281474976710656 then (match Go.Lib.atoiAll s with
 | .ok v=>some (v,false)
 | .range=>some (Go.Lib.atoiSat s,true)
 | _=>some (0,true)) else none
theorem HI:Ai Tryz.prog 163:=fun _ _=>by kernel_rfl
theorem IG (N:Nat) (w0:World) (F0:Mem) (hF:WT w0 F0) (hG:Bz F0) (x0:WR) (r:Int×Bool) (h:B5 N x0=some r):
  Calls Tryz.prog 163 ([(.string ⟨(x0).toArray⟩)]:List Value).toArray w0 (AA w0 F0 fun _ v=>∃ (h0:Value),v=(.tuple #[(.int .i64 r.1),h0])/\V8 r.2 h0):=by
 unfold B5 at h
 split at h
 ·rename_i ha
  have hsz:(⟨x0.toArray⟩:ByteArray).size<=281474976710656:=by simpa [ByteArray.size] using ha
  cases hv:Go.Lib.atoiAll x0 with
  | ok v=>
   rw [hv] at h
   cases h
   refine WN hF ((Tryz.strconv_Atoi_ok ⟨x0.toArray⟩ (by omega) v (by simpa using hv) w0).mono ?_) ⟨.nilIface,rfl,rfl⟩
   rintro e w' ⟨rfl,(rfl | ⟨t,rfl⟩)⟩
   ·exact ⟨rfl,Below.refl _ _⟩
   ·exact ⟨rfl,rfl,rfl,rfl,by rw [Go.Lib.bytesWorld_size];omega,fun j hj=>Go.Lib.bytesWorld_at_old w0 _ _ j hj⟩
  | range=>
   rw [hv] at h
   cases h
   obtain ⟨tp,p,hvar⟩:=(hG w0 hF).2.2.2.1
   refine (Tryz.strconv_Atoi_range_var ⟨x0.toArray⟩ hsz (by simpa using hv) tp p w0 hvar).mono ?_
   rintro e w' ⟨n,rfl,_,_,hb⟩
   exact ⟨_,F0,rfl,HS.below hF hb,_,rfl,_,_,rfl⟩
  | _=>
   rw [hv] at h
   cases h
   obtain ⟨tp,p,hvar⟩:=(hG w0 hF).2.2.2.2
   refine (Tryz.strconv_Atoi_syntax_var ⟨x0.toArray⟩ hsz (by simpa using hv) tp p w0 hvar).mono ?_
   rintro e w' ⟨n,rfl,_,_,hb⟩
   exact ⟨_,F0,rfl,HS.below hF hb,_,rfl,_,_,rfl⟩
 ·cases h
def strings_Index (_N:Nat) (s sub:WR):Option Int:=if s.length < 4294967281 then some (Go.Lib.index s sub) else none
theorem G0:Ai Tryz.prog 98:=fun _ _=>by kernel_rfl
theorem HL (N:Nat) (w0:World) (F0:Mem) (hF:WT w0 F0) (hG:Bz F0) (x0 x1:WR) (r:Int) (h:strings_Index N x0 x1=some r):
  Calls Tryz.prog 98 ([(.string ⟨(x0).toArray⟩),(.string ⟨(x1).toArray⟩)]:List Value).toArray w0 (AA w0 F0 fun _ v=>v=(.int .i64 r)):=by
 unfold strings_Index at h
 split at h
 ·rename_i ha
  cases h
  obtain ⟨m,hm⟩:=(hG w0 hF).2.2.1
  exact WN hF ((Tryz.strings_Index ⟨x0.toArray⟩ ⟨x1.toArray⟩ m w0 (by simpa [ByteArray.size] using ha) hm).mono fun e w' ⟨he,hw⟩=>⟨he,hw ▸ Below.refl _ _⟩) rfl
 ·cases h
def strings_CutPrefix (_N:Nat) (s p:WR):Option (WR×Bool):=some (Go.Lib.trimPrefix s p,Go.Lib.hasPrefix s p)
theorem A4:Ai Tryz.prog 189:=fun _ _=>by kernel_rfl
theorem Ba (N:Nat) (w0:World) (F0:Mem) (hF:WT w0 F0) (x0 x1:WR) (r:WR×Bool) (h:strings_CutPrefix N x0 x1=some r):
  Calls Tryz.prog 189 ([(.string ⟨(x0).toArray⟩),(.string ⟨(x1).toArray⟩)]:List Value).toArray w0 (AA w0 F0 fun _ v=>v=(.tuple #[(.string ⟨(r.1).toArray⟩),(.bool r.2)])):=by
 cases h
 exact WN hF ((Tryz.strings_CutPrefix ⟨x0.toArray⟩ ⟨x1.toArray⟩ w0).mono fun e w' ⟨he,hw⟩=>⟨he,hw ▸ Below.refl _ _⟩) rfl
def strings_TrimSuffix (_N:Nat) (s p:WR):Option WR:=if s.length<=9223372036854775807 then some (Go.Lib.trimSuffix s p) else none
theorem HU:Ai Tryz.prog 117:=fun _ _=>by kernel_rfl
theorem IF (N:Nat) (w0:World) (F0:Mem) (hF:WT w0 F0) (x0 x1 r:WR) (h:strings_TrimSuffix N x0 x1=some r):
  Calls Tryz.prog 117 ([(.string ⟨(x0).toArray⟩),(.string ⟨(x1).toArray⟩)]:List Value).toArray w0 (AA w0 F0 fun _ v=>v=(.string ⟨(r).toArray⟩)):=by
 unfold strings_TrimSuffix at h
 split at h
 ·rename_i ha
  cases h
  exact WN hF ((Tryz.strings_TrimSuffix ⟨x0.toArray⟩ ⟨x1.toArray⟩ w0 (by simpa [ByteArray.size] using ha)).mono fun e w' ⟨he,hw⟩=>⟨he,hw ▸ Below.refl _ _⟩) rfl
 ·cases h
end
def Fl (N:Nat) (x0:WR):Option Bool:=
 (((Fk N x0 4 (fun y0=>DJ N y0)).bind fun h0=>(bif h0 then ((Cn N x0 (fun y0=>BT N y0)).bind fun h1=>some (decide (h1>=0))) else some false)).bind fun h2=>some h2)
theorem IC:Ai Tryz.prog 225:=fun _ _=>by kernel_rfl
theorem JV (N:Nat) (w0:World) (F0:Mem) (hF:WT w0 F0) (x0:WR) (r:Bool) (h:Fl N x0=some r):
  Calls Tryz.prog 225 ([(sv x0)]:List Value).toArray w0 (AA w0 F0 fun F' v=>v=(.bool r)):=by
 have h4:=Wx hF
 refine Go 10 Tryz.func225<|Sq (Rg [0] ?_)
 refine Vs 1<|Nss (Rg (rG 8) ?_)
 obtain ⟨h5,h7,h8⟩:=bS h
 refine WB (fun f w=>∃ (F1:Mem),HS w0 F0 w F1 []/\Wv F0 F1/\FI f [] [(2,(.bool h5))]) ?_ ?_
 ·refine Vs 1 ?_
  obtain ⟨hn,h9,ha⟩:=bS h7
  refine Cl' Fh h4 (Gd N w0 F0 h4.pers x0 4 265 [] [] (fun y0=>DJ N y0) NR (fun w1 F1 y0 r hb h1 h2=>Pb N w1 F1 h1 y0 r h2) _ h9) ?_
  rintro _ F2 hc h3 h6 rfl
  refine Vs 1<|Sp ha (fun h0 hd=>?_) (fun h0 he=>?_)
  ·refine Vgs h0 1 ?_
   obtain ⟨ho,hf,hg⟩:=bS hd
   refine Cg h0 Iu h3 (Jc N hc F2 h3.pers x0 264 [] (fun y0=>BT N y0) E4 (fun w1 F1 y0 r hb h1 h2=>FE N w1 F1 h1 y0 r h2) _ hf) ?_
   rintro _ F3 hp hh hl rfl
   refine Vgs h0 1<|Pk1 h0<|Vs 1 ?_
   obtain rfl:=Aa hg
   exact Wr ⟨rfl,F3,hh,(h6.t hl),fI⟩
  ·refine Ss h0 3 ?_
   refine Pk0 h0<|Vs 1 ?_
   obtain rfl:=Aa he
   exact Wr ⟨rfl,F2,h3,h6,fI⟩
 ·rintro f hq ⟨F1,hm,hr,⟨_,rfl⟩⟩
  refine Ab<|Rt ?_
  obtain rfl:=Aa h8
  exact Re [(.bool h5)] hm rfl
def BO (N:Nat) (x0:WR) (x1:(Int->Option Bool)):Option Int:=
 ((Ce N x0 x1 true).bind fun h0=>some h0)
theorem GF:Ai Tryz.prog 263:=fun _ _=>by kernel_rfl
theorem G4 (N:Nat) (w0:World) (F0:Mem) (hF:WT w0 F0) (hG:Bz F0) (x0:WR) (h0:FuncId) (h1:List Value) (x1:Int->Option Bool) (h3:Ai Tryz.prog h0) (h4:LH F0 h0 [] h1 x1) (r:Int) (h:BO N x0 x1=some r):
  Calls Tryz.prog 263 ([(sv x0),(.func (.func h0) ([]:List Value).toArray h1.toArray)]:List Value).toArray w0 (AA w0 F0 fun F' v=>v=(vi r)):=by
 have h2:=Wx hF
 refine Go 8 Tryz.func263<|Sq (Rg [0] ?_)
 refine Vs 1<|Nss (Rg (rG 4) ?_)
 refine Vs 2 ?_
 obtain ⟨h5,h6,h7⟩:=bS h
 refine Cl' GE h2 (G3 N w0 F0 h2.pers hG x0 h0 h1 x1 h3 (fun w1 F1 y0 r h8 h9 ha=>h4 w1 F1 y0 r h8 h9 ha) true _ h6) ?_
 rintro _ F1 hc hb hd rfl
 refine Vs 1<|Nt<|Rt ?_
 obtain rfl:=Aa h7
 exact Re [(vi h5)] hb rfl
def KH (N:Nat) (x0:WR):Option (WR×WR×Bool):=
 ((BO N x0 (fun y0=>Bn N y0)).bind fun h1=>(((Mz x0 0 (W64 (h1 + 1))).bind fun h2=>((Mz x0 (W64 (h1 + 1)) (x0.length:Int)).bind fun h3=>some (h2,h3))).bind fun h0=>((bif (decide ((W64 (h1 + 1)) > 0)) then ((Fl N h0.1).bind fun h4=>(bif h4 then ((Fk N h0.2 4 (fun y0=>BT N y0)).bind fun h5=>some h5) else some false)) else some false).bind fun h6=>some (h0.1,h0.2,h6))))
theorem PY:Ai Tryz.prog 222:=fun _ _=>by kernel_rfl
theorem QN (N:Nat) (w0:World) (F0:Mem) (hF:WT w0 F0) (hG:Bz F0) (x0:WR) (r:(WR×WR×Bool)) (h:KH N x0=some r):
  Calls Tryz.prog 222 ([(sv x0)]:List Value).toArray w0 (AA w0 F0 fun F' v=>v=(.tuple #[(sv r.1),(sv r.2.1),(.bool r.2.2)])):=by
 have h8:=Wx hF
 refine Go 27 Tryz.func222<|Sq (Rg [0,1,2] ?_)
 refine Vs 3<|Nss (Rg (rG 4) ?_)
 refine Vs 1 ?_
 obtain ⟨h3,hd,he⟩:=bS h
 refine Cl' GF h8 (G4 N w0 F0 h8.pers hG x0 199 [] (fun y0=>Bn N y0) FC (fun w1 F1 y0 r hf h4 h5=>Gz N w1 F1 h4 y0 r h5) _ hd) ?_
 rintro _ F1 b8 hg b9 rfl
 refine Vs 2<|Nss ?_
 obtain ⟨h0,hh,hl⟩:=bS he
 refine RD 8 8 [] [] hg (fun f w=>∃ (F2:Mem),HS w0 F0 w F2 []/\Wv F1 F2/\FI f [] [(2,(sv h0.1)),(3,(sv h0.2)),(5,(vi (W64 (h3 + 1))))]) (fun ba hm=>?_) ?_
 ·refine Dv [0,1] ?_
  obtain ⟨h9,hn,ho⟩:=bS hh
  refine Dt 2 11 9 (sv h9) (fun _ hq=>J2 (t:=9) (x:=(.tmp 9)) (lo:=none) (hi:=(some (.tmp 10))) (a:=x0) (il:=0) (ih:=(W64 (h3 + 1))) (v:=h9) rfl (by kernel_rfl) rfl rfl hn)<|Dv [3,4] ?_
  obtain ⟨ha,hp,hr⟩:=bS ho
  refine Dt 5 14 9 (sv ha) (fun _ hq=>J2 (t:=9) (x:=(.tmp 12)) (lo:=(some (.tmp 13))) (hi:=none) (a:=x0) (il:=(W64 (h3 + 1))) (ih:=(x0.length:Int)) (v:=ha) rfl (by kernel_rfl) rfl rfl hp)<|Dv [6,7] ?_
  obtain rfl:=Aa hr
  exact WI (by kernel_rfl) ⟨F1,hm,(Ww _),fI⟩
 ·rintro f ht ⟨F2,h6,bb,⟨_,rfl⟩⟩
  refine Ab<|Sq (Rg (rG 15) ?_)
  obtain ⟨hb,hu,hv⟩:=bS hl
  refine WB (fun f w=>∃ (F3:Mem),HS w0 F0 w F3 []/\Wv F2 F3/\FI f [] [(2,(sv h0.1)),(3,(sv h0.2)),(4,(.bool hb))]) ?_ ?_
  ·refine Vs 5 ?_
   refine Sp hu (fun h1 hw=>?_) (fun h1 hx=>?_)
   ·refine Vgs h1 1 ?_
    obtain ⟨bc,hy,hz⟩:=bS hw
    refine Cg h1 IC h6 (JV N ht F2 h6.pers h0.1 _ hy) ?_
    rintro _ F4 b0 h7 hc rfl
    refine Pk1 h1<|Vs 1<|Sp hz (fun h2 b1=>?_) (fun h2 b2=>?_)
    ·refine Vgs h2 1 ?_
     obtain ⟨bd,b3,b4⟩:=bS b1
     refine Cg h2 Fh h7 (Gd N b0 F4 h7.pers h0.2 4 264 [] [] (fun y0=>BT N y0) E4 (fun w1 F1 y0 r hf h4 h5=>FE N w1 F1 h4 y0 r h5) _ b3) ?_
     rintro _ F5 be b5 b6 rfl
     refine Pk1 h2<|Vs 3 ?_
     obtain rfl:=Aa b4
     exact Wr ⟨rfl,F5,b5,(hc.t b6),fI⟩
    ·refine Ss h2 2 ?_
     refine Pk0 h2<|Vs 3 ?_
     obtain rfl:=Aa b2
     exact Wr ⟨rfl,F4,h7,hc,fI⟩
   ·refine Ss h1 2 ?_
    refine Pk0 h1<|Vs 1<|Ss (rfl:false=false) 2<|Pk0 (rfl:false=false)<|Vs 3 ?_
    obtain rfl:=Aa hx
    exact Wr ⟨rfl,F2,h6,(Ww _),fI⟩
  ·rintro f bf ⟨F3,b7,bg,⟨_,rfl⟩⟩
   refine Ab<|Rt ?_
   obtain rfl:=Aa hv
   exact Re [(sv h0.1),(sv h0.2),(.bool hb)] b7 rfl
def Az (N:Nat) (x0:WR):Option (Bl×Bool):=
 ((KH N x0).bind fun h0=>some (({Area:=([]:WR),Prefix:=h0.1,Suffix:=h0.2.1,Stroke:=([]:WR)}:Bl),h0.2.2))
theorem EI:Ai Tryz.prog 221:=fun _ _=>by kernel_rfl
theorem E6 (N:Nat) (w0:World) (F0:Mem) (hF:WT w0 F0) (hG:Bz F0) (x0:WR) (r:(Bl×Bool)) (h:Az N x0=some r):
  Calls Tryz.prog 221 ([(sv x0)]:List Value).toArray w0 (AA w0 F0 fun F' v=>v=(.tuple #[(.agg (CX r.1)),(.bool r.2)])):=by
 have h3:=Wx hF
 refine Go 17 Tryz.func221<|Sq (Rg [0,1] ?_)
 refine Al' 186 #[(sv (([]:WR))),(sv (([]:WR))),(sv (([]:WR))),(sv (([]:WR)))] h3 (fun h4 h5 h1=>?_)
 refine Vs 1<|Nss (Rg (rG 9) ?_)
 refine Vs 1 ?_
 obtain ⟨h0,h6,h7⟩:=bS h
 refine Cl' PY h1 (QN N h5 F0 h1.pers hG x0 _ h6) ?_
 rintro _ F1 h9 h8 ha rfl
 refine Vs 7<|Nss (Rg (rG 6) ?_)
 refine Vs 4<|St0 #[(sv (([]:WR))),(sv h0.1),(sv h0.2.1),(sv (([]:WR)))] h8 (fun hb h2=>?_)
 refine Vs 1<|Nt<|Rt ?_
 obtain rfl:=Aa h7
 exact ⟨rfl,(.tuple #[(.agg #[(sv (([]:WR))),(sv h0.1),(sv h0.2.1),(sv (([]:WR)))]),(.bool h0.2.2)]),AQ (l:=[.cell 2 186,.tmp 3]) (by kernel_rfl) (vs:=[(.agg #[(sv (([]:WR))),(sv h0.1),(sv h0.2.1),(sv (([]:WR)))]),(.bool h0.2.2)]) ⟨h4,0,rfl,An (t:=186) (g:=true) (s:=4) (by kernel_rfl) h2.at0 rfl (by decide),⟨rfl,trivial⟩⟩,(.tuple #[(.agg #[(sv (([]:WR))),(sv h0.1),(sv h0.2.1),(sv (([]:WR)))]),(.bool h0.2.2)]),F1,rfl,h2.clear,rfl⟩
def DI (N:Nat) (x0:(List WR)) (z0:(WR->Option (Bl×Bool))):Option (Bl×Bool):=
 (((idx x0 0).bind fun h2=>((z0 h2).bind fun h0=>some (h0.2,h0.1.Area,h0.1.Prefix,h0.1.Suffix,h0.1.Stroke))).bind fun h1=>some (({Area:=h1.2.1,Prefix:=h1.2.2.1,Suffix:=h1.2.2.2.1,Stroke:=h1.2.2.2.2}:Bl),h1.1))
theorem Nw:Ai Tryz.prog 223:=fun _ _=>by kernel_rfl
theorem NY (N:Nat) (w0:World) (F0:Mem) (hF:WT w0 F0) (x0:(List WR)) (h6:WS) (h7:Nat) (hz:LC x0.length h7) (hc:SlA AK F0 h6 x0) (h8:Nat) (z0:(WR->Option (Bl×Bool))) (h3:FuncId) (h1 h2:List Value) (hd:Ai Tryz.prog h3) (he:IR F0 h3 h1 h2 z0) (hf:F0 h8=some (oc #[(.func (.func h3) h1.toArray h2.toArray)] 188)) (r:(Bl×Bool)) (h:DI N x0 z0=some r):
  Calls Tryz.prog 223 ([(sL h6 x0 h7),(pt h8 0)]:List Value).toArray w0 (AA w0 F0 fun F' v=>v=(.tuple #[(.agg (CX r.1)),(.bool r.2)])):=by
 have hg:=Wx hF
 refine Go 12 Tryz.func223<|Sq (Rg [0,1] ?_)
 refine Al' 186 #[(sv (([]:WR))),(sv (([]:WR))),(sv (([]:WR))),(sv (([]:WR)))] hg (fun h4 b0 hh=>?_)
 refine Vs 1<|Nss ?_
 obtain ⟨h0,hl,hm⟩:=bS h
 refine RD 9 9 [] [] hh (fun f w=>∃ (F1:Mem),HS w0 F0 w F1 [(sb h4 #[(sv h0.2.1),(sv h0.2.2.1),(sv h0.2.2.2.1),(sv h0.2.2.2.2)] 186)]/\Wv F0 F1/\FI f [] [(3,(pt h4 0)),(4,(.bool h0.1))]) (fun hn h9=>?_) ?_
 ·refine Dl 0 (fun _ hq=>(hq.1.1 _ _ hf)) ?_
  refine Dv [1] ?_
  obtain ⟨h5,ho,hp⟩:=bS hl
  obtain ⟨hr,hx36'⟩:=Aq ho
  obtain ⟨b1,b2,b3,b4,b5,rfl,hF45,hE46⟩:=WD hc hx36'
  have ht:=hE46 _ _ hx36'
  refine Di 2 hr<|Dx 3 0 (fun _ hq=>hq.1.1 _ _ hF45) ht<|D1 4 ?_
  obtain ⟨hu,hv,hw⟩:=bS hp
  refine WH (l':=[true,true,true,true,true,false,false,false,false]) (zd:=true) (by kernel_rfl) (by kernel_rfl) (by kernel_rfl) (dst:=(some 9)) (ty:=187) (g:=none) (by kernel_rfl) rfl (f0:=(.tmp 5)) (aos:=#[(.tmp 8)]) (ats:=#[9]) (fid:=h3) (first:=h1.toArray) (cap:=h2.toArray) (args:=(h1++(([(sv h5)]:List Value)++h2))) rfl hd (Er (l:=[(sv h5)]) (fi:=h1) (k:=h2) rfl) h9 (he hn F0 h5 _ (Ww _) h9.pers hv) ?_
  rintro _ F2 b6 hx ha rfl
  refine Dv [5,6]<|D1 7<|GP (CX hu.1) hx ha (fun b7 hy=>?_)
  refine Dv [8] ?_
  obtain rfl:=Aa hw
  exact WI (by kernel_rfl) ⟨F2,hy,ha,fI⟩
 ·rintro f b8 ⟨F1,hb,b9,⟨_,rfl⟩⟩
  refine Ab<|Rt ?_
  obtain rfl:=Aa hm
  exact ⟨rfl,(.tuple #[(.agg #[(sv h0.2.1),(sv h0.2.2.1),(sv h0.2.2.2.1),(sv h0.2.2.2.2)]),(.bool h0.1)]),AQ (l:=[.cell 3 186,.tmp 4]) (by kernel_rfl) (vs:=[(.agg #[(sv h0.2.1),(sv h0.2.2.1),(sv h0.2.2.2.1),(sv h0.2.2.2.2)]),(.bool h0.1)]) ⟨h4,0,rfl,An (t:=186) (g:=true) (s:=4) (by kernel_rfl) hb.at0 rfl (by decide),⟨rfl,trivial⟩⟩,(.tuple #[(.agg #[(sv h0.2.1),(sv h0.2.2.1),(sv h0.2.2.2.1),(sv h0.2.2.2.2)]),(.bool h0.1)]),F1,rfl,hb.clear,rfl⟩
def DH (N:Nat) (x0:(List WR)) (z0:(WR->Option (Bl×Bool))):Option (Bl×Bool):=
 (((idx x0 1).bind fun h4=>((z0 h4).bind fun h1=>some (h1.2,h1.1.Area,h1.1.Prefix,h1.1.Suffix,h1.1.Stroke))).bind fun h0=>((idx x0 0).bind fun h3=>((bif h0.1 then ((idx x0 0).bind fun h5=>((Fl N h5).bind fun h6=>(bif h6 then ((idx x0 0).bind fun h7=>((idx x0 1).bind fun h8=>some ((decide ((h7.length:Int) < (h8.length:Int))),h3,h0.2.2.1,h0.2.2.2.1,h0.2.2.2.2))) else some (false,h3,h0.2.2.1,h0.2.2.2.1,h0.2.2.2.2)))) else some (false,h3,h0.2.2.1,h0.2.2.2.1,h0.2.2.2.2)).bind fun h2=>some (({Area:=h2.2.1,Prefix:=h2.2.2.1,Suffix:=h2.2.2.2.1,Stroke:=h2.2.2.2.2}:Bl),h2.1))))
theorem Nv:Ai Tryz.prog 224:=fun _ _=>by kernel_rfl
theorem NW (N:Nat) (w0:World) (F0:Mem) (hF:WT w0 F0) (x0:(List WR)) (hh:WS) (h8:Nat) (cm:LC x0.length h8) (hp:SlA AK F0 hh x0) (hr:Nat) (z0:(WR->Option (Bl×Bool))) (hd:FuncId) (h5 h6:List Value) (ht:Ai Tryz.prog hd) (hu:IR F0 hd h5 h6 z0) (b1:F0 hr=some (oc #[(.func (.func hd) h5.toArray h6.toArray)] 188)) (r:(Bl×Bool)) (h:DH N x0 z0=some r):
  Calls Tryz.prog 224 ([(sL hh x0 h8),(pt hr 0)]:List Value).toArray w0 (AA w0 F0 fun F' v=>v=(.tuple #[(.agg (CX r.1)),(.bool r.2)])):=by
 have b2:=Wx hF
 refine Go 38 Tryz.func224<|Sq (Rg [0,1] ?_)
 refine Al' 186 #[(sv (([]:WR))),(sv (([]:WR))),(sv (([]:WR))),(sv (([]:WR)))] b2 (fun h9 cn b3=>?_)
 refine Vs 1<|Nss ?_
 obtain ⟨h0,b4,b5⟩:=bS h
 refine RD 11 11 [(sb h9 #[(sv (([]:WR))),(sv (([]:WR))),(sv (([]:WR))),(sv (([]:WR)))] 186)] [] b3 (fun f w=>∃ (F1:Mem) (hf:Nat),HS w0 F0 w F1 [(sb hf #[(sv h0.2.1),(sv h0.2.2.1),(sv h0.2.2.2.1),(sv h0.2.2.2.2)] 186),(sb h9 #[(sv (([]:WR))),(sv (([]:WR))),(sv (([]:WR))),(sv (([]:WR)))] 186)]/\Wv F0 F1/\FI f [] [(0,(sL hh x0 h8)),(3,(pt h9 0)),(5,(pt hf 0)),(6,(.bool h0.1))]) (fun b6 hl=>?_) ?_
 ·refine Dl 0 (fun _ hq=>(hq.1.1 _ _ b1)) ?_
  refine Dv [1] ?_
  obtain ⟨ha,b7,hv⟩:=bS b4
  obtain ⟨b8,hx39'⟩:=Aq b7
  obtain ⟨co,cp,cq,cr,ct,rfl,hF48,hE49⟩:=WD hp hx39'
  have b9:=hE49 _ _ hx39'
  refine Di 2 b8<|Dx 3 0 (fun _ hq=>hq.1.1 _ _ hF48) b9<|WE (i:=4) (j:=8) (by kernel_rfl) ?_ ?_
  ·obtain ⟨ba,bb,bc⟩:=bS hv
   refine WH (l':=[true,true,true,true,true,false,false,false,false,false,false]) (zd:=true) (by kernel_rfl) (by kernel_rfl) (by kernel_rfl) (dst:=(some 12)) (ty:=187) (g:=none) (by kernel_rfl) rfl (f0:=(.tmp 8)) (aos:=#[(.tmp 11)]) (ats:=#[9]) (fid:=hd) (first:=h5.toArray) (cap:=h6.toArray) (args:=(h5++(([(sv ha)]:List Value)++h6))) rfl ht (Er (l:=[(sv ha)]) (fi:=h5) (k:=h6) rfl) hl (hu b6 F0 ha _ (Ww _) hl.pers bb) ?_
   rintro _ F2 cu bd hm rfl
   refine Dv [5,6,7]<|D1 8<|DAl 186 #[(sv (([]:WR))),(sv (([]:WR))),(sv (([]:WR))),(sv (([]:WR)))] bd hm (fun be cv bf=>?_)
   refine D1 9<|GP (CX ba.1) bf hm (fun cw bg=>?_)
   refine Dv [10] ?_
   obtain rfl:=Aa bc
   exact WI (by kernel_rfl) ⟨F2,be,bg,hm,fI⟩
  ·refine DAl 186 #[(sv (([]:WR))),(sv (([]:WR))),(sv (([]:WR))),(sv (([]:WR)))] hl (Ww _) (fun bh bi hw=>?_)
   refine D1 4 ?_
   obtain ⟨bj,bk,bl⟩:=bS hv
   refine WH (l':=[true,true,true,true,true,false,false,false,true,false,false]) (zd:=true) (by kernel_rfl) (by kernel_rfl) (by kernel_rfl) (dst:=(some 12)) (ty:=187) (g:=none) (by kernel_rfl) rfl (f0:=(.tmp 8)) (aos:=#[(.tmp 11)]) (ats:=#[9]) (fid:=hd) (first:=h5.toArray) (cap:=h6.toArray) (args:=(h5++(([(sv ha)]:List Value)++h6))) rfl ht (Er (l:=[(sv ha)]) (fi:=h5) (k:=h6) rfl) hw (hu bi F0 ha _ (Ww _) hw.pers bk) ?_
   rintro _ F3 cx bm hx rfl
   refine Dv [5,6,7]<|D1 9<|GP (CX bj.1) bm hx (fun cy bn=>?_)
   refine Dv [10] ?_
   obtain rfl:=Aa bl
   exact WI (by kernel_rfl) ⟨F3,bh,bn,hx,fI⟩
 ·rintro f cz ⟨F1,hf,hy,bo,⟨_,rfl⟩⟩
  refine Ab<|Sq (Rg (rG 5) ?_)
  refine Vs 1 ?_
  obtain ⟨he,bp,bq⟩:=bS b5
  obtain ⟨br,hx79'⟩:=Aq bp
  obtain ⟨h3,h4,d0,d1,d2,rfl,hF88,hE89⟩:=WD (Wy hp bo) hx79'
  have bs:=hE89 _ _ hx79'
  refine Ix br<|Lx 0 (hy.pers _ _ hF88) bs<|Vs 1<|St0 #[(sv he),(sv h0.2.2.1),(sv h0.2.2.2.1),(sv h0.2.2.2.2)] hy (fun d3 bt=>?_)
  refine Nss ?_
  obtain ⟨h1,bu,bv⟩:=bS bq
  refine RD 21 21 [(sb hf #[(sv he),(sv h0.2.2.1),(sv h0.2.2.2.1),(sv h0.2.2.2.2)] 186)] [] bt (fun f w=>∃ (F4:Mem),HS w0 F0 w F4 [(sb h9 #[(sv h1.2.1),(sv h1.2.2.1),(sv h1.2.2.2.1),(sv h1.2.2.2.2)] 186)]/\Wv F1 F4/\FI f [] [(3,(pt h9 0)),(4,(.bool h1.1))]) (fun bw hn=>?_) ?_
  ·refine Dl 0 (fun _ hq=>(hq.1.2 0 _ _ rfl)) ?_
   refine Dvl [1,2] (tf 3 18)<|Sd bu (fun h7 bx=>?_) (fun h7 bz=>?_)
   ·refine Dgl 3 22 55 _ (tf 4 17) 2 true 21 h7 (fun _ hq=>mv 0 (.slice (some ⟨h3,h4,none⟩) x0.length h8)) ?_
    obtain ⟨ho,c0,c1⟩:=bS bx
    obtain ⟨c3,hx109'⟩:=Aq c0
    have c4:=hE89 _ _ hx109'
    refine Dgl 4 23 0 (.pointer (some ⟨h3,(h4 + (0:Int).toNat * 1),none⟩)) (tf 5 16) 2 true 21 h7 (fun _ hq=>CG (t:=55) (x:=(.tmp 22)) (y:=(.const (vi 0))) (b:=h3) (o:=h4) (E:=9) (s:=1) (by_:=16) rfl rfl (by kernel_rfl) c3)<|Dgl 5 24 9 _ (tf 6 15) 2 true 21 h7 (fun _ hq=>lx 9 23 0 1 false 1 (sv ho) (hq.1.1 _ _ hF88) c4)<|D1 6 ?_
    obtain ⟨c5,c6,c7⟩:=bS c1
    refine WH (l':=[true,true,true,true,true,true,true,false,false,false,false,false,false,false,false,false,false,false,false,false,false]) (zd:=true) (by kernel_rfl) (by kernel_rfl) (by kernel_rfl) (dst:=(some 25)) (ty:=4) (g:=(some (2,true))) (by kernel_rfl) (Im (d:=21) (by kernel_rfl) rfl h7) (f0:=(.func 225)) (aos:=#[(.tmp 24)]) (ats:=#[9]) (fid:=225) (first:=#[]) (cap:=#[]) (args:=[(sv ho)]) rfl IC rfl hn (JV N bw F1 hn.pers ho _ c6) ?_
    rintro _ F5 d4 hz hg rfl
    refine Dtl 7 26 4 _ (tf 8 13) (fun _ hq=>p1 21 (.tmp 25) (.const (.bool false)) (.bool c5) h7)<|Dvl [8] (tf 9 12)<|Sd c7 (fun h2 c8=>?_) (fun h2 c9=>?_)
    ·refine Dgl 9 28 55 _ (tf 10 11) 8 true 27 h2 (fun _ hq=>mv 0 (.slice (some ⟨h3,h4,none⟩) x0.length h8)) ?_
     obtain ⟨hb,ca,cb⟩:=bS c8
     obtain ⟨cc,hx126'⟩:=Aq ca
     have cd:=hE89 _ _ hx126'
     refine Dgl 10 29 0 (.pointer (some ⟨h3,(h4 + (0:Int).toNat * 1),none⟩)) (tf 11 10) 8 true 27 h2 (fun _ hq=>CG (t:=55) (x:=(.tmp 28)) (y:=(.const (vi 0))) (b:=h3) (o:=h4) (E:=9) (s:=1) (by_:=16) rfl rfl (by kernel_rfl) cc)<|Dgl 11 30 9 _ (tf 12 9) 8 true 27 h2 (fun _ hq=>lx 9 29 0 1 false 1 (sv hb) (hq.1.1 _ _ hF88) cd)<|Dgl 12 31 3 (vi (hb.length:Int)) (tf 13 8) 8 true 27 h2 (fun _ hq=>MG (x:=(.tmp 30)) (ats:=#[9]) (t:=9) (a:=hb) rfl rfl (by kernel_rfl))<|Dgl 13 32 55 _ (tf 14 7) 8 true 27 h2 (fun _ hq=>mv 0 (.slice (some ⟨h3,h4,none⟩) x0.length h8)) ?_
     obtain ⟨hc,ce,cf⟩:=bS cb
     obtain ⟨cg,hx132'⟩:=Aq ce
     have ch:=hE89 _ _ hx132'
     refine Dgl 14 33 0 (.pointer (some ⟨h3,(h4 + (1:Int).toNat * 1),none⟩)) (tf 15 6) 8 true 27 h2 (fun _ hq=>CG (t:=55) (x:=(.tmp 32)) (y:=(.const (vi 1))) (b:=h3) (o:=h4) (E:=9) (s:=1) (by_:=16) rfl rfl (by kernel_rfl) cg)<|Dgl 15 34 9 _ (tf 16 5) 8 true 27 h2 (fun _ hq=>lx 9 33 0 1 false 1 (sv hc) (hq.1.1 _ _ hF88) ch)<|Dgl 16 35 3 (vi (hc.length:Int)) (tf 17 4) 8 true 27 h2 (fun _ hq=>MG (x:=(.tmp 34)) (ats:=#[9]) (t:=9) (a:=hc) rfl rfl (by kernel_rfl))<|Dgl 17 36 4 (.bool (decide ((hb.length:Int) < (hc.length:Int)))) (tf 18 3) 8 true 27 h2 (fun _ hq=>Md (t:=3) (t':=3) (x:=(.tmp 31)) (y:=(.tmp 35)) (k:=.i64) (a:=(hb.length:Int)) (b:=(hc.length:Int)) rfl rfl)<|Dtl 18 37 4 _ (tf 19 2) (fun _ hq=>p1 27 (.tmp 36) (.const (.bool false)) (.bool (decide ((hb.length:Int) < (hc.length:Int)))) h2)<|D1 19<|Mb #[(sv he),(sv h0.2.2.1),(sv h0.2.2.2.1),(sv h0.2.2.2.2)] hz hg (fun d6 ci=>?_)
     refine Dvl [20] (tf 21 0) ?_
     obtain rfl:=Aa cf
     exact WI (by kernel_rfl) ⟨F5,ci.dr0,hg,fI⟩
    ·refine Dkl [(9,28),(10,29),(11,30),(12,31),(13,32),(14,33)] 8 true 27 h2 (tf 15 6) ?_
     refine Dkl [(15,34),(16,35),(17,36)] 8 true 27 h2 (tf 18 3)<|Dtl 18 37 4 _ (tf 19 2) (fun _ hq=>p0 27 (.tmp 36) (.const (.bool false)) (.bool false) h2)<|D1 19<|Mb #[(sv he),(sv h0.2.2.1),(sv h0.2.2.2.1),(sv h0.2.2.2.2)] hz hg (fun d7 cj=>?_)
     refine Dvl [20] (tf 21 0) ?_
     obtain rfl:=Aa c9
     exact WI (by kernel_rfl) ⟨F5,cj.dr0,hg,fI⟩
   ·refine Dkl [(3,22),(4,23),(5,24),(6,25)] 2 true 21 h7 (tf 7 14) ?_
    refine Dtl 7 26 4 _ (tf 8 13) (fun _ hq=>p0 21 (.tmp 25) (.const (.bool false)) (.bool false) h7)<|Dvl [8] (tf 9 12)<|Dkl [(9,28),(10,29),(11,30),(12,31),(13,32),(14,33)] 8 true 27 rfl (tf 15 6)<|Dkl [(15,34),(16,35),(17,36)] 8 true 27 rfl (tf 18 3)<|Dtl 18 37 4 _ (tf 19 2) (fun _ hq=>p0 27 (.tmp 36) (.const (.bool false)) (.bool false) rfl)<|D1 19<|Mb #[(sv he),(sv h0.2.2.1),(sv h0.2.2.2.1),(sv h0.2.2.2.2)] hn (Ww _) (fun d8 cl=>?_)
    refine Dvl [20] (tf 21 0) ?_
    obtain rfl:=Aa bz
    exact WI (by kernel_rfl) ⟨F1,cl.dr0,(Ww _),fI⟩
  ·rintro f d9 ⟨F4,b0,da,⟨_,rfl⟩⟩
   refine Ab<|Rt ?_
   obtain rfl:=Aa bv
   exact ⟨rfl,(.tuple #[(.agg #[(sv h1.2.1),(sv h1.2.2.1),(sv h1.2.2.2.1),(sv h1.2.2.2.2)]),(.bool h1.1)]),AQ (l:=[.cell 3 186,.tmp 4]) (by kernel_rfl) (vs:=[(.agg #[(sv h1.2.1),(sv h1.2.2.1),(sv h1.2.2.2.1),(sv h1.2.2.2.2)]),(.bool h1.1)]) ⟨h9,0,rfl,An (t:=186) (g:=true) (s:=4) (by kernel_rfl) b0.at0 rfl (by decide),⟨rfl,trivial⟩⟩,(.tuple #[(.agg #[(sv h1.2.1),(sv h1.2.2.1),(sv h1.2.2.2.1),(sv h1.2.2.2.2)]),(.bool h1.1)]),F4,rfl,b0.clear,rfl⟩
def Ek (N:Nat) (x0:WR):Option Bool:=
 (((Fk N x0 4 (fun y0=>BT N y0)).bind fun h0=>(bif h0 then some true else ((Fk N x0 1 (fun y0=>Bn N y0)).bind fun h1=>some h1))).bind fun h2=>some h2)
theorem Jv:Ai Tryz.prog 227:=fun _ _=>by kernel_rfl
theorem KE (N:Nat) (w0:World) (F0:Mem) (hF:WT w0 F0) (x0:WR) (r:Bool) (h:Ek N x0=some r):
  Calls Tryz.prog 227 ([(sv x0)]:List Value).toArray w0 (AA w0 F0 fun F' v=>v=(.bool r)):=by
 have h4:=Wx hF
 refine Go 9 Tryz.func227<|Sq (Rg [0] ?_)
 refine Vs 1<|Nss (Rg (rG 7) ?_)
 obtain ⟨h5,h7,h8⟩:=bS h
 refine WB (fun f w=>∃ (F1:Mem),HS w0 F0 w F1 []/\Wv F0 F1/\FI f [] [(2,(.bool h5))]) ?_ ?_
 ·refine Vs 1 ?_
  obtain ⟨hn,h9,ha⟩:=bS h7
  refine Cl' Fh h4 (Gd N w0 F0 h4.pers x0 4 264 [] [] (fun y0=>BT N y0) E4 (fun w1 F1 y0 r hb h1 h2=>FE N w1 F1 h1 y0 r h2) _ h9) ?_
  rintro _ F2 hc h3 h6 rfl
  refine Vs 1<|Sp ha (fun h0 hd=>?_) (fun h0 he=>?_)
  ·refine Ss h0 2 ?_
   refine Pk1 h0<|Vs 1 ?_
   obtain rfl:=Aa hd
   exact Wr ⟨rfl,F2,h3,h6,fI⟩
  ·refine Vgs h0 1 ?_
   obtain ⟨ho,hf,hg⟩:=bS he
   refine Cg h0 Fh h3 (Gd N hc F2 h3.pers x0 1 199 [] [] (fun y0=>Bn N y0) FC (fun w1 F1 y0 r hb h1 h2=>Gz N w1 F1 h1 y0 r h2) _ hf) ?_
   rintro _ F3 hp hh hl rfl
   refine Pk0 h0<|Vs 1 ?_
   obtain rfl:=Aa hg
   exact Wr ⟨rfl,F3,hh,(h6.t hl),fI⟩
 ·rintro f hq ⟨F1,hm,hr,⟨_,rfl⟩⟩
  refine Ab<|Rt ?_
  obtain rfl:=Aa h8
  exact Re [(.bool h5)] hm rfl
def DG (N:Nat) (x0:(List WR)) (z0:(WR->Option (Bl×Bool))):Option (Bl×Bool):=
 (((idx x0 0).bind fun h4=>((z0 h4).bind fun h1=>some (h1.2,h1.1.Area,h1.1.Prefix,h1.1.Suffix,h1.1.Stroke))).bind fun h0=>((idx x0 1).bind fun h3=>((bif h0.1 then ((idx x0 1).bind fun h5=>((Ek N h5).bind fun h6=>some (h6,h0.2.1,h0.2.2.1,h0.2.2.2.1,h3))) else some (false,h0.2.1,h0.2.2.1,h0.2.2.2.1,h3)).bind fun h2=>some (({Area:=h2.2.1,Prefix:=h2.2.2.1,Suffix:=h2.2.2.2.1,Stroke:=h2.2.2.2.2}:Bl),h2.1))))
theorem Nu:Ai Tryz.prog 226:=fun _ _=>by kernel_rfl
theorem NV (N:Nat) (w0:World) (F0:Mem) (hF:WT w0 F0) (x0:(List WR)) (hb:WS) (h8:Nat) (c7:LC x0.length h8) (hl:SlA AK F0 hb x0) (hm:Nat) (z0:(WR->Option (Bl×Bool))) (h7:FuncId) (h2 h3:List Value) (hn:Ai Tryz.prog h7) (ho:IR F0 h7 h2 h3 z0) (hx:F0 hm=some (oc #[(.func (.func h7) h2.toArray h3.toArray)] 188)) (r:(Bl×Bool)) (h:DG N x0 z0=some r):
  Calls Tryz.prog 226 ([(sL hb x0 h8),(pt hm 0)]:List Value).toArray w0 (AA w0 F0 fun F' v=>v=(.tuple #[(.agg (CX r.1)),(.bool r.2)])):=by
 have hy:=Wx hF
 refine Go 27 Tryz.func226<|Sq (Rg [0,1] ?_)
 refine Al' 186 #[(sv (([]:WR))),(sv (([]:WR))),(sv (([]:WR))),(sv (([]:WR)))] hy (fun h5 c8 hz=>?_)
 refine Vs 1<|Nss ?_
 obtain ⟨h1,b0,b1⟩:=bS h
 refine RD 11 11 [(sb h5 #[(sv (([]:WR))),(sv (([]:WR))),(sv (([]:WR))),(sv (([]:WR)))] 186)] [] hz (fun f w=>∃ (F1:Mem) (h9:Nat),HS w0 F0 w F1 [(sb h9 #[(sv h1.2.1),(sv h1.2.2.1),(sv h1.2.2.2.1),(sv h1.2.2.2.2)] 186),(sb h5 #[(sv (([]:WR))),(sv (([]:WR))),(sv (([]:WR))),(sv (([]:WR)))] 186)]/\Wv F0 F1/\FI f [] [(0,(sL hb x0 h8)),(3,(pt h5 0)),(5,(pt h9 0)),(6,(.bool h1.1))]) (fun b2 hc=>?_) ?_
 ·refine Dl 0 (fun _ hq=>(hq.1.1 _ _ hx)) ?_
  refine Dv [1] ?_
  obtain ⟨h6,b3,hp⟩:=bS b0
  obtain ⟨b4,hx39'⟩:=Aq b3
  obtain ⟨c9,ca,cb,cc,cd,rfl,hF48,hE49⟩:=WD hl hx39'
  have b5:=hE49 _ _ hx39'
  refine Di 2 b4<|Dx 3 0 (fun _ hq=>hq.1.1 _ _ hF48) b5<|WE (i:=4) (j:=8) (by kernel_rfl) ?_ ?_
  ·obtain ⟨b6,b7,b8⟩:=bS hp
   refine WH (l':=[true,true,true,true,true,false,false,false,false,false,false]) (zd:=true) (by kernel_rfl) (by kernel_rfl) (by kernel_rfl) (dst:=(some 12)) (ty:=187) (g:=none) (by kernel_rfl) rfl (f0:=(.tmp 8)) (aos:=#[(.tmp 11)]) (ats:=#[9]) (fid:=h7) (first:=h2.toArray) (cap:=h3.toArray) (args:=(h2++(([(sv h6)]:List Value)++h3))) rfl hn (Er (l:=[(sv h6)]) (fi:=h2) (k:=h3) rfl) hc (ho b2 F0 h6 _ (Ww _) hc.pers b7) ?_
   rintro _ F2 ce b9 hd rfl
   refine Dv [5,6,7]<|D1 8<|DAl 186 #[(sv (([]:WR))),(sv (([]:WR))),(sv (([]:WR))),(sv (([]:WR)))] b9 hd (fun ba cf bb=>?_)
   refine D1 9<|GP (CX b6.1) bb hd (fun cg bc=>?_)
   refine Dv [10] ?_
   obtain rfl:=Aa b8
   exact WI (by kernel_rfl) ⟨F2,ba,bc,hd,fI⟩
  ·refine DAl 186 #[(sv (([]:WR))),(sv (([]:WR))),(sv (([]:WR))),(sv (([]:WR)))] hc (Ww _) (fun bd be hr=>?_)
   refine D1 4 ?_
   obtain ⟨bf,bg,bh⟩:=bS hp
   refine WH (l':=[true,true,true,true,true,false,false,false,true,false,false]) (zd:=true) (by kernel_rfl) (by kernel_rfl) (by kernel_rfl) (dst:=(some 12)) (ty:=187) (g:=none) (by kernel_rfl) rfl (f0:=(.tmp 8)) (aos:=#[(.tmp 11)]) (ats:=#[9]) (fid:=h7) (first:=h2.toArray) (cap:=h3.toArray) (args:=(h2++(([(sv h6)]:List Value)++h3))) rfl hn (Er (l:=[(sv h6)]) (fi:=h2) (k:=h3) rfl) hr (ho be F0 h6 _ (Ww _) hr.pers bg) ?_
   rintro _ F3 ch bi ht rfl
   refine Dv [5,6,7]<|D1 9<|GP (CX bf.1) bi ht (fun ci bj=>?_)
   refine Dv [10] ?_
   obtain rfl:=Aa bh
   exact WI (by kernel_rfl) ⟨F3,bd,bj,ht,fI⟩
 ·rintro f cj ⟨F1,h9,hu,bk,⟨_,rfl⟩⟩
  refine Ab<|Sq (Rg (rG 5) ?_)
  refine Vs 1 ?_
  obtain ⟨ha,bl,bm⟩:=bS b1
  obtain ⟨bn,hx79'⟩:=Aq bl
  obtain ⟨he,hf,cl,cm,cn,rfl,hF88,hE89⟩:=WD (Wy hl bk) hx79'
  have bo:=hE89 _ _ hx79'
  refine Ix bn<|Lx 0 (hu.pers _ _ hF88) bo<|Vs 1<|St0 #[(sv h1.2.1),(sv h1.2.2.1),(sv h1.2.2.2.1),(sv ha)] hu (fun co bp=>?_)
  refine Nss ?_
  obtain ⟨h0,bq,br⟩:=bS bm
  refine RD 10 10 [(sb h9 #[(sv h1.2.1),(sv h1.2.2.1),(sv h1.2.2.2.1),(sv ha)] 186)] [] bp (fun f w=>∃ (F4:Mem),HS w0 F0 w F4 [(sb h5 #[(sv h0.2.1),(sv h0.2.2.1),(sv h0.2.2.2.1),(sv h0.2.2.2.2)] 186)]/\Wv F1 F4/\FI f [] [(3,(pt h5 0)),(4,(.bool h0.1))]) (fun bs hg=>?_) ?_
  ·refine Dl 0 (fun _ hq=>(hq.1.2 0 _ _ rfl)) ?_
   refine Dv [1,2]<|Sd bq (fun h4 bt=>?_) (fun h4 bu=>?_)
   ·refine Dg 3 22 55 _ 2 true 21 h4 (fun _ hq=>mv 0 (.slice (some ⟨he,hf,none⟩) x0.length h8)) ?_
    obtain ⟨hh,bv,bw⟩:=bS bt
    obtain ⟨bx,hx109'⟩:=Aq bv
    have bz:=hE89 _ _ hx109'
    refine Dg 4 23 0 (.pointer (some ⟨he,(hf + (1:Int).toNat * 1),none⟩)) 2 true 21 h4 (fun _ hq=>CG (t:=55) (x:=(.tmp 22)) (y:=(.const (vi 1))) (b:=he) (o:=hf) (E:=9) (s:=1) (by_:=16) rfl rfl (by kernel_rfl) bx)<|Dg 5 24 9 _ 2 true 21 h4 (fun _ hq=>lx 9 23 0 1 false 1 (sv hh) (hq.1.1 _ _ hF88) bz)<|D1 6 ?_
    obtain ⟨c0,c1,c3⟩:=bS bw
    refine WH (l':=[true,true,true,true,true,true,true,false,false,false]) (zd:=true) (by kernel_rfl) (by kernel_rfl) (by kernel_rfl) (dst:=(some 25)) (ty:=4) (g:=(some (2,true))) (by kernel_rfl) (Im (d:=21) (by kernel_rfl) rfl h4) (f0:=(.func 227)) (aos:=#[(.tmp 24)]) (ats:=#[9]) (fid:=227) (first:=#[]) (cap:=#[]) (args:=[(sv hh)]) rfl Jv rfl hg (KE N bs F1 hg.pers hh _ c1) ?_
    rintro _ F5 cp c4 hv rfl
    refine Dt 7 26 4 _ (fun _ hq=>p1 21 (.tmp 25) (.const (.bool false)) (.bool c0) h4)<|D1 8<|Mb #[(sv h1.2.1),(sv h1.2.2.1),(sv h1.2.2.2.1),(sv ha)] c4 hv (fun cq c5=>?_)
    refine Dv [9] ?_
    obtain rfl:=Aa c3
    exact WI (by kernel_rfl) ⟨F5,c5.dr0,hv,fI⟩
   ·refine Dk [(3,22),(4,23),(5,24),(6,25)] 2 true 21 h4 ?_
    refine Dt 7 26 4 _ (fun _ hq=>p0 21 (.tmp 25) (.const (.bool false)) (.bool false) h4)<|D1 8<|Mb #[(sv h1.2.1),(sv h1.2.2.1),(sv h1.2.2.2.1),(sv ha)] hg (Ww _) (fun cr c6=>?_)
    refine Dv [9] ?_
    obtain rfl:=Aa bu
    exact WI (by kernel_rfl) ⟨F1,c6.dr0,(Ww _),fI⟩
  ·rintro f ct ⟨F4,hw,cu,⟨_,rfl⟩⟩
   refine Ab<|Rt ?_
   obtain rfl:=Aa br
   exact ⟨rfl,(.tuple #[(.agg #[(sv h0.2.1),(sv h0.2.2.1),(sv h0.2.2.2.1),(sv h0.2.2.2.2)]),(.bool h0.1)]),AQ (l:=[.cell 3 186,.tmp 4]) (by kernel_rfl) (vs:=[(.agg #[(sv h0.2.1),(sv h0.2.2.1),(sv h0.2.2.2.1),(sv h0.2.2.2.2)]),(.bool h0.1)]) ⟨h5,0,rfl,An (t:=186) (g:=true) (s:=4) (by kernel_rfl) hw.at0 rfl (by decide),⟨rfl,trivial⟩⟩,(.tuple #[(.agg #[(sv h0.2.1),(sv h0.2.2.1),(sv h0.2.2.2.1),(sv h0.2.2.2.2)]),(.bool h0.1)]),F4,rfl,hw.clear,rfl⟩
def DF (N:Nat) (x0:(List WR)) (z0:(WR->Option (Bl×Bool))):Option (Bl×Bool):=
 (((idx x0 1).bind fun h4=>((z0 h4).bind fun h2=>some (h2.2,h2.1.Area,h2.1.Prefix,h2.1.Suffix,h2.1.Stroke))).bind fun h0=>(((idx x0 0).bind fun h5=>((idx x0 2).bind fun h6=>some (h5,h6))).bind fun h1=>((bif h0.1 then ((idx x0 0).bind fun h7=>((Fl N h7).bind fun h8=>(bif h8 then ((idx x0 2).bind fun h9=>((Ek N h9).bind fun ha=>some (ha,h1.1,h0.2.2.1,h0.2.2.2.1,h1.2))) else some (false,h1.1,h0.2.2.1,h0.2.2.2.1,h1.2)))) else some (false,h1.1,h0.2.2.1,h0.2.2.2.1,h1.2)).bind fun h3=>some (({Area:=h3.2.1,Prefix:=h3.2.2.1,Suffix:=h3.2.2.2.1,Stroke:=h3.2.2.2.2}:Bl),h3.1))))
theorem Ns:Ai Tryz.prog 228:=fun _ _=>by kernel_rfl
theorem NU (N:Nat) (w0:World) (F0:Mem) (hF:WT w0 F0) (x0:(List WR)) (hb:WS) (h8:Nat) (d0:LC x0.length h8) (hg:SlA AK F0 hb x0) (hr:Nat) (z0:(WR->Option (Bl×Bool))) (hc:FuncId) (h4 h5:List Value) (ht:Ai Tryz.prog hc) (hu:IR F0 hc h4 h5 z0) (b2:F0 hr=some (oc #[(.func (.func hc) h4.toArray h5.toArray)] 188)) (r:(Bl×Bool)) (h:DF N x0 z0=some r):
  Calls Tryz.prog 228 ([(sL hb x0 h8),(pt hr 0)]:List Value).toArray w0 (AA w0 F0 fun F' v=>v=(.tuple #[(.agg (CX r.1)),(.bool r.2)])):=by
 have b3:=Wx hF
 refine Go 37 Tryz.func228<|Sq (Rg [0,1] ?_)
 refine Al' 186 #[(sv (([]:WR))),(sv (([]:WR))),(sv (([]:WR))),(sv (([]:WR)))] b3 (fun h3 d1 b4=>?_)
 refine Vs 1<|Nss ?_
 obtain ⟨h0,b5,b6⟩:=bS h
 refine RD 11 11 [(sb h3 #[(sv (([]:WR))),(sv (([]:WR))),(sv (([]:WR))),(sv (([]:WR)))] 186)] [] b4 (fun f w=>∃ (F1:Mem) (h9:Nat),HS w0 F0 w F1 [(sb h9 #[(sv h0.2.1),(sv h0.2.2.1),(sv h0.2.2.2.1),(sv h0.2.2.2.2)] 186),(sb h3 #[(sv (([]:WR))),(sv (([]:WR))),(sv (([]:WR))),(sv (([]:WR)))] 186)]/\Wv F0 F1/\FI f [] [(0,(sL hb x0 h8)),(3,(pt h3 0)),(5,(pt h9 0)),(6,(.bool h0.1))]) (fun b7 hh=>?_) ?_
 ·refine Dl 0 (fun _ hq=>(hq.1.1 _ _ b2)) ?_
  refine Dv [1] ?_
  obtain ⟨ha,b8,hv⟩:=bS b5
  obtain ⟨b9,hx39'⟩:=Aq b8
  obtain ⟨d2,d3,d4,d6,d7,rfl,hF48,hE49⟩:=WD hg hx39'
  have ba:=hE49 _ _ hx39'
  refine Di 2 b9<|Dx 3 0 (fun _ hq=>hq.1.1 _ _ hF48) ba<|WE (i:=4) (j:=8) (by kernel_rfl) ?_ ?_
  ·obtain ⟨bb,bc,bd⟩:=bS hv
   refine WH (l':=[true,true,true,true,true,false,false,false,false,false,false]) (zd:=true) (by kernel_rfl) (by kernel_rfl) (by kernel_rfl) (dst:=(some 12)) (ty:=187) (g:=none) (by kernel_rfl) rfl (f0:=(.tmp 8)) (aos:=#[(.tmp 11)]) (ats:=#[9]) (fid:=hc) (first:=h4.toArray) (cap:=h5.toArray) (args:=(h4++(([(sv ha)]:List Value)++h5))) rfl ht (Er (l:=[(sv ha)]) (fi:=h4) (k:=h5) rfl) hh (hu b7 F0 ha _ (Ww _) hh.pers bc) ?_
   rintro _ F2 d8 be hl rfl
   refine Dv [5,6,7]<|D1 8<|DAl 186 #[(sv (([]:WR))),(sv (([]:WR))),(sv (([]:WR))),(sv (([]:WR)))] be hl (fun bf d9 bg=>?_)
   refine D1 9<|GP (CX bb.1) bg hl (fun da bh=>?_)
   refine Dv [10] ?_
   obtain rfl:=Aa bd
   exact WI (by kernel_rfl) ⟨F2,bf,bh,hl,fI⟩
  ·refine DAl 186 #[(sv (([]:WR))),(sv (([]:WR))),(sv (([]:WR))),(sv (([]:WR)))] hh (Ww _) (fun bi bj hw=>?_)
   refine D1 4 ?_
   obtain ⟨bk,bl,bm⟩:=bS hv
   refine WH (l':=[true,true,true,true,true,false,false,false,true,false,false]) (zd:=true) (by kernel_rfl) (by kernel_rfl) (by kernel_rfl) (dst:=(some 12)) (ty:=187) (g:=none) (by kernel_rfl) rfl (f0:=(.tmp 8)) (aos:=#[(.tmp 11)]) (ats:=#[9]) (fid:=hc) (first:=h4.toArray) (cap:=h5.toArray) (args:=(h4++(([(sv ha)]:List Value)++h5))) rfl ht (Er (l:=[(sv ha)]) (fi:=h4) (k:=h5) rfl) hw (hu bj F0 ha _ (Ww _) hw.pers bl) ?_
   rintro _ F3 db bn hx rfl
   refine Dv [5,6,7]<|D1 9<|GP (CX bk.1) bn hx (fun dc bo=>?_)
   refine Dv [10] ?_
   obtain rfl:=Aa bm
   exact WI (by kernel_rfl) ⟨F3,bi,bo,hx,fI⟩
 ·rintro f dd ⟨F1,h9,bp,hy,⟨_,rfl⟩⟩
  refine Ab<|Sq ?_
  obtain ⟨h2,bq,br⟩:=bS b6
  refine RD 9 10 [(sb h3 #[(sv (([]:WR))),(sv (([]:WR))),(sv (([]:WR))),(sv (([]:WR)))] 186)] [] bp (fun f w=>∃ (F4:Mem),HS w0 F0 w F4 [(sb h9 #[(sv h2.1),(sv h0.2.2.1),(sv h0.2.2.2.1),(sv h2.2)] 186),(sb h3 #[(sv (([]:WR))),(sv (([]:WR))),(sv (([]:WR))),(sv (([]:WR)))] 186)]/\Wv F1 F4/\FI f [] [(0,(sL hb x0 h8)),(3,(pt h3 0)),(5,(pt h9 0)),(6,(.bool h0.1))]) (fun de bs=>?_) ?_
  ·refine Dv [0] ?_
   obtain ⟨hz,bt,bu⟩:=bS bq
   obtain ⟨bv,hx92'⟩:=Aq bt
   obtain ⟨df,dg,dh,di,dj,rfl,hF101,hE102⟩:=WD (Wy hg hy) hx92'
   have bw:=hE102 _ _ hx92'
   refine Di 1 bv<|Dx 2 0 (fun _ hq=>hq.1.1 _ _ hF101) bw<|Dv [3] ?_
   obtain ⟨bx,bz,c0⟩:=bS bu
   obtain ⟨c1,hx106'⟩:=Aq bz
   have c3:=hE102 _ _ hx106'
   refine Di 4 c1<|Dx 5 0 (fun _ hq=>hq.1.1 _ _ hF101) c3<|Dv [6]<|D1 7<|GP #[(sv hz),(sv h0.2.2.1),(sv h0.2.2.2.1),(sv h0.2.2.2.2)] bs (Ww _) (fun dk c4=>?_)
   refine Dv [8]<|D1 9<|GP #[(sv hz),(sv h0.2.2.1),(sv h0.2.2.2.1),(sv bx)] c4 (Ww _) (fun dl c5=>?_)
   obtain rfl:=Aa c0
   exact WI (by kernel_rfl) ⟨F1,c5,(Ww _),fI⟩
  ·rintro f dm ⟨F4,c6,c7,⟨_,rfl⟩⟩
   refine Ab<|Sq ?_
   obtain ⟨h1,c8,c9⟩:=bS br
   refine RD 16 16 [(sb h9 #[(sv h2.1),(sv h0.2.2.1),(sv h0.2.2.2.1),(sv h2.2)] 186)] [] c6 (fun f w=>∃ (F5:Mem),HS w0 F0 w F5 [(sb h3 #[(sv h1.2.1),(sv h1.2.2.1),(sv h1.2.2.2.1),(sv h1.2.2.2.2)] 186)]/\Wv F4 F5/\FI f [] [(3,(pt h3 0)),(4,(.bool h1.1))]) (fun ca hm=>?_) ?_
   ·refine Dl 0 (fun _ hq=>(hq.1.2 0 _ _ rfl)) ?_
    refine Dv [1,2]<|Sd c8 (fun h6 cb=>?_) (fun h6 cc=>?_)
    ·refine Dg 3 26 55 _ 2 true 25 h6 (fun _ hq=>mv 0 (sL hb x0 h8)) ?_
     obtain ⟨hn,cd,ce⟩:=bS cb
     obtain ⟨cf,hx130'⟩:=Aq cd
     obtain ⟨hd,he,dn,dp,dq,rfl,hF139,hE140⟩:=WD (Wy hg (hy.t c7)) hx130'
     have cg:=hE140 _ _ hx130'
     refine Dg 4 27 0 (.pointer (some ⟨hd,(he + (0:Int).toNat * 1),none⟩)) 2 true 25 h6 (fun _ hq=>CG (t:=55) (x:=(.tmp 26)) (y:=(.const (vi 0))) (b:=hd) (o:=he) (E:=9) (s:=1) (by_:=16) rfl rfl (by kernel_rfl) cf)<|Dg 5 28 9 _ 2 true 25 h6 (fun _ hq=>lx 9 27 0 1 false 1 (sv hn) (hq.1.1 _ _ hF139) cg)<|D1 6 ?_
     obtain ⟨ch,ci,cj⟩:=bS ce
     refine WH (l':=[true,true,true,true,true,true,true,false,false,false,false,false,false,false,false,false]) (zd:=true) (by kernel_rfl) (by kernel_rfl) (by kernel_rfl) (dst:=(some 29)) (ty:=4) (g:=(some (2,true))) (by kernel_rfl) (Im (d:=25) (by kernel_rfl) rfl h6) (f0:=(.func 225)) (aos:=#[(.tmp 28)]) (ats:=#[9]) (fid:=225) (first:=#[]) (cap:=#[]) (args:=[(sv hn)]) rfl IC rfl hm (JV N ca F4 hm.pers hn _ ci) ?_
     rintro _ F6 cl ho hf rfl
     refine Dt 7 30 4 _ (fun _ hq=>p1 25 (.tmp 29) (.const (.bool false)) (.bool ch) h6)<|Dv [8]<|Sd cj (fun h7 cm=>?_) (fun h7 cn=>?_)
     ·refine Dg 9 32 55 _ 8 true 31 h7 (fun _ hq=>mv 0 (.slice (some ⟨hd,he,none⟩) x0.length h8)) ?_
      obtain ⟨hp,co,cp⟩:=bS cm
      obtain ⟨cq,hx155'⟩:=Aq co
      have cr:=hE140 _ _ hx155'
      refine Dg 10 33 0 (.pointer (some ⟨hd,(he + (2:Int).toNat * 1),none⟩)) 8 true 31 h7 (fun _ hq=>CG (t:=55) (x:=(.tmp 32)) (y:=(.const (vi 2))) (b:=hd) (o:=he) (E:=9) (s:=1) (by_:=16) rfl rfl (by kernel_rfl) cq)<|Dg 11 34 9 _ 8 true 31 h7 (fun _ hq=>lx 9 33 0 1 false 1 (sv hp) (hq.1.1 _ _ hF139) cr)<|D1 12 ?_
      obtain ⟨ct,cu,cv⟩:=bS cp
      refine WH (l':=[true,true,true,true,true,true,true,true,true,true,true,true,true,false,false,false]) (zd:=true) (by kernel_rfl) (by kernel_rfl) (by kernel_rfl) (dst:=(some 35)) (ty:=4) (g:=(some (8,true))) (by kernel_rfl) (Im (d:=31) (by kernel_rfl) rfl h7) (f0:=(.func 227)) (aos:=#[(.tmp 34)]) (ats:=#[9]) (fid:=227) (first:=#[]) (cap:=#[]) (args:=[(sv hp)]) rfl Jv rfl ho (KE N cl F6 ho.pers hp _ cu) ?_
      rintro _ F7 dr cw b0 rfl
      refine Dt 13 36 4 _ (fun _ hq=>p1 31 (.tmp 35) (.const (.bool false)) (.bool ct) h7)<|D1 14<|Mb #[(sv h2.1),(sv h0.2.2.1),(sv h0.2.2.2.1),(sv h2.2)] cw (hf.t b0) (fun ds cx=>?_)
      refine Dv [15] ?_
      obtain rfl:=Aa cv
      exact WI (by kernel_rfl) ⟨F7,cx.dr0,(hf.t b0),fI⟩
     ·refine Dk [(9,32),(10,33),(11,34),(12,35)] 8 true 31 h7 ?_
      refine Dt 13 36 4 _ (fun _ hq=>p0 31 (.tmp 35) (.const (.bool false)) (.bool false) h7)<|D1 14<|Mb #[(sv h2.1),(sv h0.2.2.1),(sv h0.2.2.2.1),(sv h2.2)] ho hf (fun dt cy=>?_)
      refine Dv [15] ?_
      obtain rfl:=Aa cn
      exact WI (by kernel_rfl) ⟨F6,cy.dr0,hf,fI⟩
    ·refine Dk [(3,26),(4,27),(5,28),(6,29)] 2 true 25 h6 ?_
     refine Dt 7 30 4 _ (fun _ hq=>p0 25 (.tmp 29) (.const (.bool false)) (.bool false) h6)<|Dv [8]<|Dk [(9,32),(10,33),(11,34),(12,35)] 8 true 31 rfl<|Dt 13 36 4 _ (fun _ hq=>p0 31 (.tmp 35) (.const (.bool false)) (.bool false) rfl)<|D1 14<|Mb #[(sv h2.1),(sv h0.2.2.1),(sv h0.2.2.2.1),(sv h2.2)] hm (Ww _) (fun du cz=>?_)
     refine Dv [15] ?_
     obtain rfl:=Aa cc
     exact WI (by kernel_rfl) ⟨F4,cz.dr0,(Ww _),fI⟩
   ·rintro f dv ⟨F5,b1,dw,⟨_,rfl⟩⟩
    refine Ab<|Rt ?_
    obtain rfl:=Aa c9
    exact ⟨rfl,(.tuple #[(.agg #[(sv h1.2.1),(sv h1.2.2.1),(sv h1.2.2.2.1),(sv h1.2.2.2.2)]),(.bool h1.1)]),AQ (l:=[.cell 3 186,.tmp 4]) (by kernel_rfl) (vs:=[(.agg #[(sv h1.2.1),(sv h1.2.2.1),(sv h1.2.2.2.1),(sv h1.2.2.2.2)]),(.bool h1.1)]) ⟨h3,0,rfl,An (t:=186) (g:=true) (s:=4) (by kernel_rfl) b1.at0 rfl (by decide),⟨rfl,trivial⟩⟩,(.tuple #[(.agg #[(sv h1.2.1),(sv h1.2.2.1),(sv h1.2.2.2.1),(sv h1.2.2.2.2)]),(.bool h1.1)]),F5,rfl,b1.clear,rfl⟩
def Le (N:Nat):Option (List BJ):=
 some [({words_:=1,split_:=(fun y0=>DI N y0 (fun y0=>Az N y0))}:BJ),({words_:=2,split_:=(fun y0=>DH N y0 (fun y0=>Az N y0))}:BJ),({words_:=2,split_:=(fun y0=>DG N y0 (fun y0=>Az N y0))}:BJ),({words_:=3,split_:=(fun y0=>DF N y0 (fun y0=>Az N y0))}:BJ)]
theorem O6:Ai Tryz.prog 184:=fun _ _=>by kernel_rfl
theorem P2 (N:Nat) (w0:World) (F0:Mem) (hF:WT w0 F0) (hG:Bz F0) (r:(List BJ)) (h:Le N=some r):
  Calls Tryz.prog 184 ([]:List Value).toArray w0 (AA w0 F0 fun F' v=>∃ (ha:WS) (hb:Nat),v=(sL ha r hb)/\LC r.length hb/\SlA N2 F' ha r):=by
 have hd:=Wx hF
 refine Go 11 Tryz.func184<|Sq (Rg [0] ?_)
 refine Vs 1<|Nss (Rg [0,1] ?_)
 refine Al' 188 #[.nilFunc] hd (fun h1 ho he=>?_)
 refine St0 #[(fV 221 #[])] he (fun hp hf=>?_)
 refine Nss (Rg (rG 10) ?_)
 refine Vs 8 ?_
 obtain ⟨F1,hg,h8,hF28⟩:=hf.fc0
 refine Bs 228 [(vi 1),(fV 223 #[(pt h1 0)]),(vi 2),(fV 224 #[(pt h1 0)]),(vi 2),(fV 226 #[(pt h1 0)]),(vi 3),(fV 228 #[(pt h1 0)])] hg (fun h9 hq hh=>?_)
 have hc:As N2 228 F1 (some ⟨h9,0,none⟩) 4 [({words_:=1,split_:=(fun y0=>DI N y0 (fun y0=>Az N y0))}:BJ),({words_:=2,split_:=(fun y0=>DH N y0 (fun y0=>Az N y0))}:BJ),({words_:=2,split_:=(fun y0=>DG N y0 (fun y0=>Az N y0))}:BJ),({words_:=3,split_:=(fun y0=>DF N y0 (fun y0=>Az N y0))}:BJ)] (some h9,.cells ([(vi 1),(fV 223 #[(pt h1 0)]),(vi 2),(fV 224 #[(pt h1 0)]),(vi 2),(fV 226 #[(pt h1 0)]),(vi 3),(fV 228 #[(pt h1 0)])]:List Value).toArray 228 (0,0)):=WL ⟨⟨223,[],[(pt h1 0)],rfl,Nw,(fun w1 F1 y0 h4 h5 h6 h7 r h0 h2 h3=>NY N w1 F1 h2 y0 h4 h5 h6 h7 h1 (fun y0=>Az N y0) 221 [] [] EI (IR.mono (fun w1 F1 y0 r h0 h2 h3=>E6 N w1 F1 h2 (hG.mono (h8.t h0)) y0 r h3) h0) (h0 _ _ hF28) r h3)⟩,⟨⟨224,[],[(pt h1 0)],rfl,Nv,(fun w1 F1 y0 h4 h5 h6 h7 r h0 h2 h3=>NW N w1 F1 h2 y0 h4 h5 h6 h7 h1 (fun y0=>Az N y0) 221 [] [] EI (IR.mono (fun w1 F1 y0 r h0 h2 h3=>E6 N w1 F1 h2 (hG.mono (h8.t h0)) y0 r h3) h0) (h0 _ _ hF28) r h3)⟩,⟨⟨226,[],[(pt h1 0)],rfl,Nu,(fun w1 F1 y0 h4 h5 h6 h7 r h0 h2 h3=>NV N w1 F1 h2 y0 h4 h5 h6 h7 h1 (fun y0=>Az N y0) 221 [] [] EI (IR.mono (fun w1 F1 y0 r h0 h2 h3=>E6 N w1 F1 h2 (hG.mono (h8.t h0)) y0 r h3) h0) (h0 _ _ hF28) r h3)⟩,⟨⟨228,[],[(pt h1 0)],rfl,Ns,(fun w1 F1 y0 h4 h5 h6 h7 r h0 h2 h3=>NU N w1 F1 h2 y0 h4 h5 h6 h7 h1 (fun y0=>Az N y0) 221 [] [] EI (IR.mono (fun w1 F1 y0 r h0 h2 h3=>E6 N w1 F1 h2 (hG.mono (h8.t h0)) y0 r h3) h0) (h0 _ _ hF28) r h3)⟩,rfl⟩⟩⟩⟩ (by simp)
 refine Vs 1<|Nt<|Rt ?_
 have hl:=WJ hc
 obtain ⟨F2,hm,hr,hn⟩:=hh.fr0 hc
 obtain rfl:=Aa h
 exact Re [(.slice (some ⟨h9,0,none⟩) [({words_:=1,split_:=(fun y0=>DI N y0 (fun y0=>Az N y0))}:BJ),({words_:=2,split_:=(fun y0=>DH N y0 (fun y0=>Az N y0))}:BJ),({words_:=2,split_:=(fun y0=>DG N y0 (fun y0=>Az N y0))}:BJ),({words_:=3,split_:=(fun y0=>DF N y0 (fun y0=>Az N y0))}:BJ)].length 4)] hm ⟨(some ⟨h9,0,none⟩),4,rfl,hl,hn⟩
def CZ (N:Nat) (x0:WR) (h1:(List WR)) (h2:(List BJ)):Int->Option (BF (Bl×Bool) Int):=fun h0=>
 (bif (decide (h0 < (h2.length:Int))) then ((idx h2 h0).bind fun h3=>(bif (h3.words_ !=(h1.length:Int)) then some (.next (W64 (h0 + 1))) else ((h3.split_ h1).bind fun h4=>(bif h4.2 then some (.ret (h4.1,true)) else some (.next (W64 (h0 + 1))))))) else some (.done h0))
def I4 (N:Nat) (x0:WR):Option (Bl×Bool):=
 (bif (decide ((x0.length:Int) > 16)) then some (({Area:=([]:WR),Prefix:=([]:WR),Suffix:=([]:WR),Stroke:=([]:WR)}:Bl),false) else ((strings_Split N x0 ([47]:WR)).bind fun h0=>((Le N).bind fun h1=>((AX (CZ N x0 h0 h1) N 0).bind fun o=>o.k (fun r=>some r) (fun h2=>some (({Area:=([]:WR),Prefix:=([]:WR),Suffix:=([]:WR),Stroke:=([]:WR)}:Bl),false))))))
theorem O5:Ai Tryz.prog 143:=fun _ _=>by kernel_rfl
theorem P1 (N:Nat) (w0:World) (F0:Mem) (hF:WT w0 F0) (hG:Bz F0) (x0:WR) (r:(Bl×Bool)) (h:I4 N x0=some r):
  Calls Tryz.prog 143 ([(sv x0)]:List Value).toArray w0 (AA w0 F0 fun F' v=>v=(.tuple #[(.agg (CX r.1)),(.bool r.2)])):=by
 have ho:=Wx hF
 refine Go 37 Tryz.func143<|Sq (Rg [0,1] ?_)
 refine Al' 186 #[(sv (([]:WR))),(sv (([]:WR))),(sv (([]:WR))),(sv (([]:WR)))] ho (fun h0 hp h6=>?_)
 refine Vs 1<|Nss<|Sq (Rg [0,1,2] ?_)
 refine Vs 3<|Nt<|Cd h (fun hq hr=>?_) (fun hq ht=>?_)
 ·refine Sq (Rg [0,1,2] ?_)
  refine Vs 1<|St0 #[(sv (([]:WR))),(sv (([]:WR))),(sv (([]:WR))),(sv (([]:WR)))] h6 (fun c7 hb=>?_)
  refine Vs 1<|Nt<|Rt<|Aj ?_
  obtain rfl:=Aa hr
  exact ⟨rfl,(.tuple #[(.agg #[(sv (([]:WR))),(sv (([]:WR))),(sv (([]:WR))),(sv (([]:WR)))]),(.bool false)]),AQ (l:=[.cell 2 186,.tmp 3]) (by kernel_rfl) (vs:=[(.agg #[(sv (([]:WR))),(sv (([]:WR))),(sv (([]:WR))),(sv (([]:WR)))]),(.bool false)]) ⟨h0,0,rfl,An (t:=186) (g:=true) (s:=4) (by kernel_rfl) hb.at0 rfl (by decide),⟨rfl,trivial⟩⟩,(.tuple #[(.agg #[(sv (([]:WR))),(sv (([]:WR))),(sv (([]:WR))),(sv (([]:WR)))]),(.bool false)]),F0,rfl,hb.clear,rfl⟩
 ·refine Sc ?_
  refine Ab<|Sq (Rg [0,1,2] ?_)
  refine Vs 1 ?_
  obtain ⟨h7,hu,hv⟩:=bS ht
  refine Cl' CL h6 (C3 N hp F0 h6.pers hG x0 (([47]:WR)) _ hu) ?_
  rintro _ F1 hw hc hx ⟨hd,he,rfl,hy,hz⟩
  refine Vs 1<|Nss<|Sq (Rg [0,1,2] ?_)
  obtain ⟨h8,b0,b1⟩:=bS hv
  refine Cl' O6 hc (P2 N hw F1 hc.pers (hG.mono hx) _ b0) ?_
  rintro _ F2 c8 b2 b3 ⟨b4,b5,rfl,c9,b6⟩
  refine Vs 2<|Nt ?_
  obtain ⟨hf,b7,hg⟩:=bS b1
  refine WC (fun f w=>∃ (hh:Int) (F4:Mem),hf=.done hh/\HS w0 F0 w F4 [(sb h0 #[(sv (([]:WR))),(sv (([]:WR))),(sv (([]:WR))),(sv (([]:WR)))] 186)]/\Wv F2 F4/\FI f [] [(2,(pt h0 0))]) ?_ ?_
  ·refine Bk ?_
   refine Wu (by kernel_rfl) (fun m f w=>∃ (h1:Int) (F3:Mem),AX (CZ N x0 h7 h8) m h1=some hf/\HS w0 F0 w F3 [(sb h0 #[(sv (([]:WR))),(sv (([]:WR))),(sv (([]:WR))),(sv (([]:WR)))] 186)]/\Wv F2 F3/\FI f [] [(2,(pt h0 0)),(4,(sL hd h7 he)),(15,(sL b4 h8 b5)),(16,(vi (h8.length:Int))),(17,(vi h1))]) N ⟨0,F2,b7,b2,(Ww _),fI⟩ ?_
   rintro ca f cb ⟨h1,F3,b8,h9,h2,⟨_,rfl⟩⟩
   obtain ⟨hl,cc,rfl,b9,h5⟩:=AU b8
   refine Sq (Rg [0] ?_)
   refine Vs 1<|Nss<|Cd b9 (fun ba bb=>?_) (fun ba bc=>?_)
   ·refine Sc ?_
    refine Ab<|Sq<|Bk<|Sq (Rg (rG 4) ?_)
    obtain ⟨bd,be,bf⟩:=bS bb
    obtain ⟨bg,hx74'⟩:=Aq be
    obtain ⟨cd,ce,cf,cg,ch,rfl,hF83,hE84⟩:=WD (Wy b6 h2) hx74'
    obtain ⟨bh,bi,bj,bk,bl,bm⟩:=hE84 _ _ hx74'
    refine Ix bg<|Lx 0 (h9.pers _ _ hF83) bk<|Al' 228 #[(vi 0),.nilFunc] h9 (fun ci cj bn=>?_)
    refine St0 #[(vi bd.words_),(.func (.func bh) bi.toArray bj.toArray)] bn (fun bo h3=>?_)
    refine Nss<|Sq (Rg (rG 5) ?_)
    refine Vs 1<|Ld h3.at0<|Vs 3<|Nt<|Cd bf (fun bp bq=>?_) (fun bp br=>?_)
    ·refine Ex ?_
     refine Au<|AB rfl<|Ab<|Rg [0,1]<|Vs 2<|Wr ?_
     have bs:=AV bq h5
     exact ⟨hl,Nat.lt_succ_self _,(W64 (h1 + 1)),F3,bs,h3.dr0,h2,fI⟩
    ·refine Sc ?_
     refine Ab<|Sq (Rg (rG 10) ?_)
     refine Vs 1<|Ld h3.at0<|Vs 1 ?_
     obtain ⟨h4,bt,bu⟩:=bS br
     refine Cq bl h3 (bm bo F3 h7 hd he hy (Wy hz (b3.t h2)) _ (Ww _) h3.pers bt) ?_
     rintro _ F5 cl bv bw rfl
     refine Vs 3<|Al' 186 #[(sv (([]:WR))),(sv (([]:WR))),(sv (([]:WR))),(sv (([]:WR)))] bv (fun cm cn bx=>?_)
     refine St0 (CX h4.1) bx (fun co ha=>?_)
     refine Vs 1<|Nss (Rg [0] ?_)
     refine Vs 1<|Nt<|Cd bu (fun bz c0=>?_) (fun bz c1=>?_)
     ·refine Sq (Rg [0,1,2] ?_)
      refine Ld ha.at0<|St2 (CX h4.1) ha (fun cp hm=>?_)
      refine Vs 1<|Nt<|Rt<|Ay<|Aj<|Aj<|Ay ?_
      have hret:=D6 c0 h5
      subst hret
      refine .inr<|Aj ?_
      obtain rfl:=Aa hg
      exact ⟨rfl,(.tuple #[(.agg (CX h4.1)),(.bool true)]),AQ (l:=[.cell 2 186,.tmp 3]) (by kernel_rfl) (vs:=[(.agg (CX h4.1)),(.bool true)]) ⟨h0,0,rfl,An (t:=186) (g:=true) (s:=4) (by kernel_rfl) hm.at2 rfl (by decide),⟨rfl,trivial⟩⟩,(.tuple #[(.agg (CX h4.1)),(.bool true)]),F5,rfl,hm.clear,rfl⟩
     ·refine Sc ?_
      refine Av<|Ab<|Rg [0,1]<|Vs 2<|Wr ?_
      have c3:=AV c1 h5
      exact ⟨hl,Nat.lt_succ_self _,(W64 (h1 + 1)),F5,c3,ha.dr0.dr0,(h2.t bw),fI⟩
   ·refine Ex ?_
    refine Au<|Au<|AB rfl ?_
    have c4:=AW bc h5
    exact .inl ⟨rfl,h1,F3,c4,h9,h2,fI⟩
  ·rintro f cq ⟨hh,F4,rfl,c5,cr,⟨_,rfl⟩⟩
   have c6:=B2 hg
   refine Ab<|Sq (Rg [0,1,2] ?_)
   refine Vs 1<|St0 #[(sv (([]:WR))),(sv (([]:WR))),(sv (([]:WR))),(sv (([]:WR)))] c5 (fun ct hn=>?_)
   refine Vs 1<|Nt<|Rt ?_
   obtain rfl:=Aa c6
   exact ⟨rfl,(.tuple #[(.agg #[(sv (([]:WR))),(sv (([]:WR))),(sv (([]:WR))),(sv (([]:WR)))]),(.bool false)]),AQ (l:=[.cell 2 186,.tmp 3]) (by kernel_rfl) (vs:=[(.agg #[(sv (([]:WR))),(sv (([]:WR))),(sv (([]:WR))),(sv (([]:WR)))]),(.bool false)]) ⟨h0,0,rfl,An (t:=186) (g:=true) (s:=4) (by kernel_rfl) hn.at0 rfl (by decide),⟨rfl,trivial⟩⟩,(.tuple #[(.agg #[(sv (([]:WR))),(sv (([]:WR))),(sv (([]:WR))),(sv (([]:WR)))]),(.bool false)]),F4,rfl,hn.clear,rfl⟩
def Gg (N:Nat) (x0:WR):Option Bool:=
 ((I4 N x0).bind fun h0=>some h0.2)
theorem Ku:Ai Tryz.prog 79:=fun _ _=>by kernel_rfl
theorem K9 (N:Nat) (w0:World) (F0:Mem) (hF:WT w0 F0) (hG:Bz F0) (x0:WR) (r:Bool) (h:Gg N x0=some r):
  Calls Tryz.prog 79 ([(sv x0)]:List Value).toArray w0 (AA w0 F0 fun F' v=>v=(.bool r)):=by
 have h0:=Wx hF
 refine Go 11 Tryz.func79<|Sq (Rg [0] ?_)
 refine Vs 1<|Nss (Rg (rG 8) ?_)
 refine Vs 1 ?_
 obtain ⟨h1,h2,h3⟩:=bS h
 refine Cl' O5 h0 (P1 N w0 F0 h0.pers hG x0 _ h2) ?_
 rintro _ F1 h7 h4 h8 rfl
 refine Vs 3<|Al' 186 #[(sv (([]:WR))),(sv (([]:WR))),(sv (([]:WR))),(sv (([]:WR)))] h4 (fun h9 ha h5=>?_)
 refine St0 (CX h1.1) h5 (fun hb h6=>?_)
 refine Vs 1<|Nss (Rg [0,1] ?_)
 refine Vs 2<|Nt<|Rt ?_
 obtain rfl:=Aa h3
 exact Re [(.bool h1.2)] h6 rfl
def BS (N:Nat) (x0 x1:Int):Option WR:=
 ((strconv_Itoa N x0).bind fun h0=>((strings_Repeat N ([48]:WR) (max 0 (W64 (x1 - (h0.length:Int))))).bind fun h1=>((Dm h1 h0).bind fun h2=>some h2)))
theorem GL:Ai Tryz.prog 146:=fun _ _=>by kernel_rfl
theorem HA (N:Nat) (w0:World) (F0:Mem) (hF:WT w0 F0) (hG:Bz F0) (x0 x1:Int) (r:WR) (h:BS N x0 x1=some r):
  Calls Tryz.prog 146 ([(vi x0),(vi x1)]:List Value).toArray w0 (AA w0 F0 fun F' v=>v=(sv r)):=by
 have h0:=Wx hF
 refine Go 16 Tryz.func146<|Sq (Rg [0] ?_)
 refine Vs 1<|Nss (Rg [0,1,2] ?_)
 refine Vs 1 ?_
 obtain ⟨h1,h4,h5⟩:=bS h
 refine Cl' Bx h0 (BH N w0 F0 h0.pers hG x0 _ h4) ?_
 rintro _ F1 h6 h2 hd rfl
 refine Vs 1<|Nss (Rg (rG 9) ?_)
 refine Vs 5 ?_
 obtain ⟨h7,h8,h9⟩:=bS h5
 refine Cl' Ko h2 (K4 N h6 F1 h2.pers (([48]:WR)) ((max 0 (W64 (x1 - (h1.length:Int))))) _ h8) ?_
 rintro _ F2 he ha hf rfl
 refine Vs 1 ?_
 obtain ⟨h3,hb,hc⟩:=bS h9
 refine V 15 9 (AR (t:=9) (t':=9) (x:=(.tmp 13)) (y:=(.tmp 14)) (a:=h7) (b:=h1) (v:=h3) rfl rfl hb)<|Vs 1<|Nt<|Rt ?_
 obtain rfl:=Aa hc
 exact Re [(sv h3)] ha rfl
def Cy (N:Nat) (x0:Int):Option (WR×Int):=
 ((Gf N x0 0 20000).bind fun h0=>(bif (!h0) then some (([]:WR),1) else ((strconv_Itoa N (W64 ((W64 (Int.tdiv x0 1440)) + 1))).bind fun h1=>((Dm h1 ([32]:WR)).bind fun h2=>((BS N (Int.tmod (W64 (Int.tdiv x0 60)) 24) 2).bind fun h3=>((Dm h2 h3).bind fun h4=>((BS N (Int.tmod x0 60) 2).bind fun h5=>((Dm h4 h5).bind fun h6=>some (h6,0)))))))))
theorem G2:Ai Tryz.prog 82:=fun _ _=>by kernel_rfl
theorem HN (N:Nat) (w0:World) (F0:Mem) (hF:WT w0 F0) (hG:Bz F0) (x0:Int) (r:(WR×Int)) (h:Cy N x0=some r):
  Calls Tryz.prog 82 ([(vi x0)]:List Value).toArray w0 (AA w0 F0 fun F' v=>v=(.tuple #[(sv r.1),(vi r.2)])):=by
 have h2:=Wx hF
 refine Go 21 Tryz.func82<|Sq (Rg [0,1] ?_)
 refine Vs 2<|Nss<|Sq (Rg [0,1,2] ?_)
 refine Vs 1 ?_
 obtain ⟨b2,h9,ha⟩:=bS h
 refine Cl' GK h2 (Hz N w0 F0 h2.pers x0 0 20000 _ h9) ?_
 rintro _ F1 hb h0 h1 rfl
 refine Vs 1<|Nt<|Cd ha (fun hc hd=>?_) (fun hc he=>?_)
 ·refine Sq (Rg [0,1] ?_)
  refine Vs 2<|Nt<|Rt<|Aj ?_
  obtain rfl:=Aa hd
  exact Re [(sv (([]:WR))),(vi 1)] h0 rfl
 ·refine Sc ?_
  refine Ab<|Sq (Rg (rG 16) ?_)
  refine Vs 3 ?_
  obtain ⟨hf,hg,hh⟩:=bS he
  refine Cl' Bx h0 (BH N hb F1 h0.pers (hG.mono h1) ((W64 ((W64 (Int.tdiv x0 1440)) + 1))) _ hg) ?_
  rintro _ F2 hl h3 h4 rfl
  obtain ⟨h5,hm,hn⟩:=bS hh
  refine V 11 9 (AR (t:=9) (t':=9) (x:=(.tmp 10)) (y:=(.const (sv ([32]:WR)))) (a:=hf) (b:=([32]:WR)) (v:=h5) rfl rfl hm)<|Vs 3 ?_
  obtain ⟨ho,hp,hq⟩:=bS hn
  refine Cl' GL h3 (HA N hl F2 h3.pers (hG.mono (h1.t h4)) ((Int.tmod (W64 (Int.tdiv x0 60)) 24)) 2 _ hp) ?_
  rintro _ F3 hr h6 ht rfl
  obtain ⟨h7,hu,hv⟩:=bS hq
  refine V 16 9 (AR (t:=9) (t':=9) (x:=(.tmp 11)) (y:=(.tmp 15)) (a:=h5) (b:=ho) (v:=h7) rfl rfl hu)<|Vs 2 ?_
  obtain ⟨hw,hx,hy⟩:=bS hv
  refine Cl' GL h6 (HA N hr F3 h6.pers (hG.mono ((h1.t h4).trans ht)) ((Int.tmod x0 60)) 2 _ hx) ?_
  rintro _ F4 b3 hz b4 rfl
  obtain ⟨h8,b0,b1⟩:=bS hy
  refine V 20 9 (AR (t:=9) (t':=9) (x:=(.tmp 16)) (y:=(.tmp 19)) (a:=h7) (b:=hw) (v:=h8) rfl rfl b0)<|Vs 2<|Nt<|Rt ?_
  obtain rfl:=Aa b1
  exact Re [(sv h8),(vi 0)] hz rfl
def CN (N:Nat) (x0:(List WR)):Int->Option (BF WR Int):=fun h0=>
 (bif (decide (h0 < (x0.length:Int))) then ((idx x0 h0).bind fun h1=>(bif (h1 !=([]:WR)) then some (.ret h1) else some (.next (W64 (h0 + 1))))) else some (.done h0))
def E5 (N:Nat) (x0:(List WR)):Option WR:=
 ((AX (CN N x0) N 0).bind fun o=>o.k (fun r=>some r) (fun h0=>some ([]:WR)))
theorem K2:Ai Tryz.prog 147:=fun _ _=>by kernel_rfl
theorem L9 (N:Nat) (w0:World) (F0:Mem) (hF:WT w0 F0) (x0:(List WR)) (h2:WS) (h3:Nat) (hy:LC x0.length h3) (h9:SlA AK F0 h2 x0) (r:WR) (h:E5 N x0=some r):
  Calls Tryz.prog 147 ([(sL h2 x0 h3)]:List Value).toArray w0 (AA w0 F0 fun F' v=>v=(sv r)):=by
 have ha:=Wx hF
 refine Go 18 Tryz.func147<|Sq (Rg [0] ?_)
 refine Vs 1<|Nss (Rg [0] ?_)
 refine Vs 1<|Nss<|Sq (Rg [0,1,2] ?_)
 refine Vs 3<|Nt ?_
 obtain ⟨h6,hb,h7⟩:=bS h
 refine WC (fun f w=>∃ (h8:Int) (F2:Mem),h6=.done h8/\HS w0 F0 w F2 []/\Wv F0 F2/\FI f [] [(3,(sv (([]:WR))))]) ?_ ?_
 ·refine Bk ?_
  refine Wu (by kernel_rfl) (fun m f w=>∃ (h0:Int) (F1:Mem),AX (CN N x0) m h0=some h6/\HS w0 F0 w F1 []/\Wv F0 F1/\FI f [] [(3,(sv (([]:WR)))),(6,(sL h2 x0 h3)),(7,(vi (x0.length:Int))),(8,(vi h0))]) N ⟨0,F0,hb,ha,(Ww _),fI⟩ ?_
  rintro hz f b0 ⟨h0,F1,hc,h1,h4,⟨_,rfl⟩⟩
  obtain ⟨hd,b1,rfl,he,h5⟩:=AU hc
  refine Sq (Rg [0] ?_)
  refine Vs 1<|Nss<|Cd he (fun hf hg=>?_) (fun hf hh=>?_)
  ·refine Sc ?_
   refine Ab<|Sq<|Bk<|Sq (Rg [0,1,2] ?_)
   obtain ⟨hl,hm,hn⟩:=bS hg
   obtain ⟨ho,hx49'⟩:=Aq hm
   obtain ⟨b2,b3,b4,b5,b6,rfl,hF58,hE59⟩:=WD (Wy h9 h4) hx49'
   have hp:=hE59 _ _ hx49'
   refine Ix ho<|Lx 0 (h1.pers _ _ hF58) hp<|Vs 1<|Nss (Rg [0,1,2] ?_)
   refine Vs 3<|Nt<|Cd hn (fun hq hr=>?_) (fun hq ht=>?_)
   ·refine Sq (Rg [0,1] ?_)
    refine Vs 2<|Nt<|Rt<|Ay<|Aj<|Aj<|Ay ?_
    have hret:=D6 hr h5
    subst hret
    refine .inr<|Aj ?_
    obtain rfl:=Aa h7
    exact Re [(sv hl)] h1 rfl
   ·refine Sc ?_
    refine Av<|Ab<|Rg [0,1]<|Vs 2<|Wr ?_
    have hu:=AV ht h5
    exact ⟨hd,Nat.lt_succ_self _,(W64 (h0 + 1)),F1,hu,h1,h4,fI⟩
  ·refine Ex ?_
   refine Au<|Au<|AB rfl ?_
   have hv:=AW hh h5
   exact .inl ⟨rfl,h0,F1,hv,h1,h4,fI⟩
 ·rintro f b7 ⟨h8,F2,rfl,hw,b8,⟨_,rfl⟩⟩
  have hx:=B2 h7
  refine Ab<|Sq (Rg [0,1] ?_)
  refine Vs 2<|Nt<|Rt ?_
  obtain rfl:=Aa hx
  exact Re [(sv (([]:WR)))] hw rfl
def BZ (N:Nat) (x0:Ac) (x1:Ae) (h6:Bool) (h2:(List AG)):(List WR×Int)->Option (BF (WR×Int) (List WR×Int)):=fun h0=>
 (bif (decide (h0.2 < (h2.length:Int))) then ((idx h2 h0.2).bind fun h1=>((bif h1.has_ then ((BS N h1.n_ h1.digits_).bind fun h3=>((DX h0.1 [h3]).bind fun h4=>some h4)) else some h0.1).bind fun h5=>some (.next (h5,(W64 (h0.2 + 1)))))) else some (.done (h0.1,h0.2)))
def Bc (N:Nat) (x0:Ac) (x1:Ae):Option (WR×Int):=
 ((B0 N ({Report:=x0.Report,Serial:=x0.Serial,Zone:=x0.Zone}:Ac) ({Report:=x1.Report,Serial:=x1.Serial,Zone:=x1.Zone}:Ae)).bind fun h0=>(bif (!h0) then some (([]:WR),1) else ((CQ N ({Report:=x0.Report,Serial:=x0.Serial,Zone:=x0.Zone}:Ac) ({Report:=x1.Report,Serial:=x1.Serial,Zone:=x1.Zone}:Ae)).bind fun h1=>((AX (BZ N x0 x1 h0 h1) N (([]:List WR),0)).bind fun o=>o.k (fun r=>some r) (fun h2=>((strings_Join N h2.1 ([32]:WR)).bind fun h3=>((E5 N ([h3,([45]:WR)])).bind fun h4=>some (h4,0))))))))
theorem DD:Ai Tryz.prog 83:=fun _ _=>by kernel_rfl
theorem DW (N:Nat) (w0:World) (F0:Mem) (hF:WT w0 F0) (hG:Bz F0) (x0:Ac) (x1:Ae) (r:(WR×Int)) (h:Bc N x0 x1=some r):
  Calls Tryz.prog 83 ([(.agg (Am x0)),(.agg (B8 x1))]:List Value).toArray w0 (AA w0 F0 fun F' v=>v=(.tuple #[(sv r.1),(vi r.2)])):=by
 have b1:=Wx hF
 refine Go 36 Tryz.func83<|Sq (Rg (rG 4) ?_)
 refine Bx' 23 (Am x0) b1 (fun d4 d6 b2=>?_)
 refine Bx' 32 (B8 x1) b2 (fun d7 b3 h8=>?_)
 refine Vs 2<|Nss<|Sq (Rg (rG 4) ?_)
 refine Ld h8.at1<|Ld h8.at0 ?_
 obtain ⟨b4,b5,b6⟩:=bS h
 refine Cl' DC h8 (DV N b3 F0 h8.pers (({Report:=x0.Report,Serial:=x0.Serial,Zone:=x0.Zone}:Ac)) (({Report:=x1.Report,Serial:=x1.Serial,Zone:=x1.Zone}:Ae)) _ b5) ?_
 rintro _ F1 b7 h2 b8 rfl
 refine Vs 1<|Nt<|Cd b6 (fun b9 ba=>?_) (fun b9 bb=>?_)
 ·refine Sq (Rg [0,1] ?_)
  refine Vs 2<|Nt<|Rt<|Aj ?_
  obtain rfl:=Aa ba
  exact Re [(sv (([]:WR))),(vi 1)] h2 rfl
 ·refine Sc ?_
  refine Ab<|Sq (Rg [0] ?_)
  refine Vs 1<|Nss<|Sq (Rg (rG 5) ?_)
  refine Ld h2.at1<|Ld h2.at0 ?_
  obtain ⟨h3,bc,bd⟩:=bS bb
  refine Cl' EH h2 (Fi N b7 F1 h2.pers (({Report:=x0.Report,Serial:=x0.Serial,Zone:=x0.Zone}:Ac)) (({Report:=x1.Report,Serial:=x1.Serial,Zone:=x1.Zone}:Ae)) _ bc) ?_
  rintro _ F2 d8 be bf ⟨bg,hq,rfl,d9,bh⟩
  refine Vs 2<|Nt ?_
  have bi:=be.dr0.dr0.dummy (oc #[] 0)
  obtain ⟨hr,bj,bk⟩:=bS bd
  refine WC (fun f w=>∃ (h4:(List WR×Int)) (F4:Mem) (h9:WS) (ha:Nat) (hg:Option Nat×Obj),hr=.done h4/\HS w0 F0 w F4 [hg]/\Wv F2 F4/\FI f [] [(6,(sL h9 h4.1 ha))]/\As AK 9 F4 h9 ha h4.1 hg) ?_ ?_
  ·refine Bk ?_
   refine Wu (by kernel_rfl) (fun m f w=>∃ (h0:(List WR×Int)) (F3:Mem) (h5:WS) (h6:Nat) (h7:Option Nat×Obj),AX (BZ N x0 x1 b4 h3) m h0=some hr/\HS w0 F0 w F3 [h7]/\Wv F2 F3/\FI f [] [(6,(sL h5 h0.1 h6)),(15,(sL bg h3 hq)),(16,(vi (h3.length:Int))),(17,(vi h0.2))]/\As AK 9 F3 h5 h6 h0.1 h7) N ⟨(([]:List WR),0),F2,none,0,(none,.cells #[] 0 (0,0)),bj,bi,(Ww _),fI,(WK AK 9 F2 _)⟩ ?_
   rintro da f db ⟨h0,F3,h5,h6,h7,bl,hh,hb,⟨_,rfl⟩,hl⟩
   obtain ⟨bm,dc,rfl,bn,ht⟩:=AU bl
   refine Sq (Rg [0] ?_)
   refine Vs 1<|Nss<|Cd bn (fun bo bp=>?_) (fun bo bq=>?_)
   ·refine Sc ?_
    refine Ab<|Sq<|Bk<|Sq (Rg (rG 4) ?_)
    obtain ⟨hm,br,bs⟩:=bS bp
    obtain ⟨bt,hx76'⟩:=Aq br
    obtain ⟨bu,bv,dd,de,df,rfl,hF85,hE86⟩:=WD (Wy bh hb) hx76'
    have bw:=hE86 _ _ hx76'
    refine Ix bt<|Lx 0 (hh.pers _ _ hF85) bw<|Al' 180 #[(.bool false),(vi 0),(vi 0),(vi 0)] hh (fun dg dh bx=>?_)
    refine St0 (IX hm) bx (fun bz h1=>?_)
    refine Nss (Rg [0,1] ?_)
    refine Vs 1<|Ld h1.at0<|Nt ?_
    obtain ⟨hn,c0,c1⟩:=bS bs
    refine WC (fun f w=>∃ (F5:Mem) (hc:WS) (hd:Nat) (he:Option Nat×Obj),HS w0 F0 w F5 [he]/\Wv F3 F5/\FI f [] [(6,(sL hc hn hd)),(15,(.slice (some ⟨bu,bv,none⟩) h3.length hq)),(16,(vi (h3.length:Int))),(17,(vi h0.2))]/\As AK 9 F5 hc hd hn he) ?_ ?_
    ·refine Cd c0 (fun c3 c4=>?_) (fun c3 c5=>?_)
     ·refine Rg (rG 9) ?_
      refine Vs 2<|Ld h1.at0<|Vs 1<|Ld h1.at0 ?_
      obtain ⟨ho,c6,c7⟩:=bS c4
      refine Cl' GL h1 (HA N bz F3 h1.pers (hG.mono ((b8.t bf).trans hb)) hm.n_ hm.digits_ _ c6) ?_
      rintro _ F6 di c8 hu rfl
      refine Bs 9 [(sv ho)] c8 (fun hv dj hw=>?_)
      have c9:As AK 9 F6 (some ⟨hv,0,none⟩) 1 [ho] (some hv,.cells ([(sv ho)]:List Value).toArray 9 (0,0)):=WL ⟨rfl,rfl⟩ (by simp)
      obtain ⟨dk,ca,cb⟩:=bS c7
      refine Ap2 VT hw (hl.mono hu) (hw.rd0 c9) ca (fun cc cd ce dl cf cg=>?_)
      refine Vs 1<|Wr ?_
      obtain rfl:=Aa cb
      exact .inl ⟨rfl,F6,cc,cd,ce,cf.dr0.dr0,hu,fI,cg⟩
     ·refine Sc ?_
      obtain rfl:=Aa c5
      exact .inl ⟨rfl,F3,h5,h6,h7,h1.dr0,(Ww _),fI,hl⟩
    ·rintro f dm ⟨F5,hc,hd,he,ch,ci,⟨_,rfl⟩,cj⟩
     refine Av<|Ab<|Rg [0,1]<|Vs 2<|Wr ?_
     have cl:=AV c1 ht
     exact ⟨bm,Nat.lt_succ_self _,(hn,(W64 (h0.2 + 1))),F5,hc,hd,he,cl,ch,(hb.t ci),fI,cj⟩
   ·refine Ex ?_
    refine Au<|Au<|AB rfl ?_
    have cm:=AW bq ht
    exact .inl ⟨rfl,(h0.1,h0.2),F3,h5,h6,h7,cm,hh,hb,fI,hl⟩
  ·rintro f cn ⟨h4,F4,h9,ha,hg,rfl,co,dn,⟨_,rfl⟩,hx⟩
   have cp:=B2 bk
   refine Ab<|Sq (Rg (rG 6) ?_)
   refine Vs 1 ?_
   have cq:=WJ hx
   obtain ⟨F7,hy,dp,cr⟩:=co.fr0 hx
   obtain ⟨hf,ct,cu⟩:=bS cp
   refine Cl' Ck hy (CO N cn F7 hy.pers h4.1 h9 ha cq cr (([32]:WR)) _ ct) ?_
   rintro _ F8 dq cv dr rfl
   refine Bs 9 [(sv hf),(sv (([45]:WR)))] cv (fun hp cw cx=>?_)
   have hz:As AK 9 F8 (some ⟨hp,0,none⟩) 2 [hf,([45]:WR)] (some hp,.cells ([(sv hf),(sv (([45]:WR)))]:List Value).toArray 9 (0,0)):=WL ⟨rfl,⟨rfl,rfl⟩⟩ (by simp)
   have cy:=WJ hz
   obtain ⟨F9,b0,ds,cz⟩:=cx.fr0 hz
   obtain ⟨d0,d1,d2⟩:=bS cu
   refine Cl' K2 b0 (L9 N cw F9 b0.pers ([hf,([45]:WR)]) (some ⟨hp,0,none⟩) 2 cy cz _ d1) ?_
   rintro _ dt du d3 dv rfl
   refine Vs 2<|Nt<|Rt ?_
   obtain rfl:=Aa d2
   exact Re [(sv d0),(vi 0)] d3 rfl




def AE (N:Nat) (x0:(List WR)) (x1:WR):Int->Option (BF Int Int):=fun h0=>
 (bif (decide (h0 < (x0.length:Int))) then ((idx x0 h0).bind fun h1=>(bif (x1==h1) then some (.ret h0) else some (.next (W64 (h0 + 1))))) else some (.done h0))
def AO (N:Nat) (x0:(List WR)) (x1:WR):Option Int:=
 ((AX (AE N x0 x1) N 0).bind fun o=>o.k (fun r=>some r) (fun h0=>some (-1)))
theorem CV:Ai Tryz.prog 94:=fun _ _=>by kernel_rfl
theorem C4 (N:Nat) (w0:World) (F0:Mem) (hF:WT w0 F0) (x0:(List WR)) (h2:WS) (h3:Nat) (hx:LC x0.length h3) (h9:SlA AK F0 h2 x0) (x1:WR) (r:Int) (h:AO N x0 x1=some r):
  Calls Tryz.prog 94 ([(sL h2 x0 h3),(sv x1)]:List Value).toArray w0 (AA w0 F0 fun F' v=>v=(vi r)):=by
 have ha:=Wx hF
 refine Go 19 Tryz.func94<|Sq (Rg [0] ?_)
 refine Vs 1<|Nss<|Sq (Rg [0,1,2] ?_)
 refine Vs 3<|Nt ?_
 obtain ⟨h6,hb,h7⟩:=bS h
 refine WC (fun f w=>∃ (h8:Int) (F2:Mem),h6=.done h8/\HS w0 F0 w F2 []/\Wv F0 F2/\FI f [] []) ?_ ?_
 ·refine Bk ?_
  refine Wu (by kernel_rfl) (fun m f w=>∃ (h0:Int) (F1:Mem),AX (AE N x0 x1) m h0=some h6/\HS w0 F0 w F1 []/\Wv F0 F1/\FI f [] [(0,(sL h2 x0 h3)),(1,(sv x1)),(7,(vi (x0.length:Int))),(8,(vi h0))]) N ⟨0,F0,hb,ha,(Ww _),fI⟩ ?_
  rintro hy f hz ⟨h0,F1,hc,h1,h4,⟨_,rfl⟩⟩
  obtain ⟨hd,b0,rfl,he,h5⟩:=AU hc
  refine Sq (Rg [0] ?_)
  refine Vs 1<|Nss<|Cd he (fun hf hg=>?_) (fun hf hh=>?_)
  ·refine Sc ?_
   refine Ab<|Sq<|Bk<|Sq (Rg [0,1] ?_)
   refine Vs 2<|Nss (Rg (rG 6) ?_)
   refine Vs 3 ?_
   obtain ⟨b1,hl,hm⟩:=bS hg
   obtain ⟨hn,hx48'⟩:=Aq hl
   obtain ⟨b2,b3,b4,b5,b6,rfl,hF57,hE58⟩:=WD (Wy h9 h4) hx48'
   have ho:=hE58 _ _ hx48'
   refine Ix hn<|Lx 0 (h1.pers _ _ hF57) ho<|Vs 1<|Nt<|Cd hm (fun hp hq=>?_) (fun hp hr=>?_)
   ·refine Sq (Rg [0,1] ?_)
    refine Vs 2<|Nt<|Rt<|Ay<|Aj<|Aj<|Ay ?_
    have hret:=D6 hq h5
    subst hret
    refine .inr<|Aj ?_
    obtain rfl:=Aa h7
    exact Re [(vi h0)] h1 rfl
   ·refine Sc ?_
    refine Av<|Ab<|Rg [0,1]<|Vs 2<|Wr ?_
    have ht:=AV hr h5
    exact ⟨hd,Nat.lt_succ_self _,(W64 (h0 + 1)),F1,ht,h1,h4,fI⟩
  ·refine Ex ?_
   refine Au<|Au<|AB rfl ?_
   have hu:=AW hh h5
   exact .inl ⟨rfl,h0,F1,hu,h1,h4,fI⟩
 ·rintro f b7 ⟨h8,F2,rfl,hv,b8,⟨_,rfl⟩⟩
  have hw:=B2 h7
  refine Ab<|Sq (Rg [0] ?_)
  refine Vs 1<|Nt<|Rt ?_
  obtain rfl:=Aa hw
  exact Re [(vi (-1))] hv rfl
def Cc (N:Nat) (x0:WR):Option Int:=
 ((Fk N x0 9 (fun y0=>Bn N y0)).bind fun h0=>(bif (!h0) then some (-1) else ((B5 N x0).bind fun h1=>some h1.1)))
theorem D8:Ai Tryz.prog 165:=fun _ _=>by kernel_rfl
theorem EL (N:Nat) (w0:World) (F0:Mem) (hF:WT w0 F0) (hG:Bz F0) (x0:WR) (r:Int) (h:Cc N x0=some r):
  Calls Tryz.prog 165 ([(sv x0)]:List Value).toArray w0 (AA w0 F0 fun F' v=>v=(vi r)):=by
 have h1:=Wx hF
 refine Go 14 Tryz.func165<|Sq (Rg [0] ?_)
 refine Vs 1<|Nss<|Sq (Rg [0,1,2] ?_)
 refine Vs 1 ?_
 obtain ⟨hf,h2,h3⟩:=bS h
 refine Cl' Fh h1 (Gd N w0 F0 h1.pers x0 9 199 [] [] (fun y0=>Bn N y0) FC (fun w1 F1 y0 r hg h4 h5=>Gz N w1 F1 h4 y0 r h5) _ h2) ?_
 rintro _ F1 h6 h0 h7 rfl
 refine Vs 1<|Nt<|Cd h3 (fun h8 h9=>?_) (fun h8 ha=>?_)
 ·refine Sq (Rg [0] ?_)
  refine Vs 1<|Nt<|Rt<|Aj ?_
  obtain rfl:=Aa h9
  exact Re [(vi (-1))] h0 rfl
 ·refine Sc ?_
  refine Ab<|Sq (Rg (rG 7) ?_)
  refine Vs 1 ?_
  obtain ⟨hb,hc,hd⟩:=bS ha
  refine Cl' HI h0 (IG N h6 F1 h0.pers (hG.mono h7) x0 _ hc) ?_
  rintro _ F2 hh he hl ⟨hm,rfl,hn⟩
  refine Vs 5<|Nss (Rg [0,1] ?_)
  refine Vs 2<|Nt<|Rt ?_
  obtain rfl:=Aa hd
  exact Re [(vi hb.1)] he rfl
def Gh (N:Nat) (x0:WR):Option (Int×Int):=
 ((strings_Cut N x0 ([32]:WR)).bind fun h2=>((Cc N h2.1).bind fun h1=>((Cc N h2.2.1).bind fun h0=>(bif ((decide (h1 < 1))||((decide (h1 > 20000))||(decide (h0 < 0)))) then some (0,13) else ((Cy N (W64 ((W64 ((W64 ((W64 (h1 - 1)) * 1440)) + (W64 ((W64 (Int.tdiv h0 100)) * 60)))) + (Int.tmod h0 100)))).bind fun h3=>(bif ((h3.2 !=0)||(h3.1 !=x0)) then some (0,13) else some ((W64 ((W64 ((W64 ((W64 (h1 - 1)) * 1440)) + (W64 ((W64 (Int.tdiv h0 100)) * 60)))) + (Int.tmod h0 100))),0)))))))
theorem Kv:Ai Tryz.prog 96:=fun _ _=>by kernel_rfl
theorem La (N:Nat) (w0:World) (F0:Mem) (hF:WT w0 F0) (hG:Bz F0) (x0:WR) (r:(Int×Int)) (h:Gh N x0=some r):
  Calls Tryz.prog 96 ([(sv x0)]:List Value).toArray w0 (AA w0 F0 fun F' v=>v=(.tuple #[(vi r.1),(vi r.2)])):=by
 have h9:=Wx hF
 refine Go 55 Tryz.func96<|Sq (Rg [0,1] ?_)
 refine Vs 2<|Nss (Rg (rG 9) ?_)
 refine Vs 1 ?_
 obtain ⟨ha,hg,hh⟩:=bS h
 refine Cl' Iv h9 (Jw N w0 F0 h9.pers hG x0 (([32]:WR)) _ hg) ?_
 rintro _ F1 hl hb h5 rfl
 refine Vs 7<|Nss (Rg (rG 6) ?_)
 refine Vs 1 ?_
 obtain ⟨h0,hm,hn⟩:=bS hh
 refine Cl' D8 hb (EL N hl F1 hb.pers (hG.mono h5) ha.1 _ hm) ?_
 rintro _ F2 ho hc hd rfl
 refine Vs 1 ?_
 obtain ⟨h1,hp,hq⟩:=bS hn
 refine Cl' D8 hc (EL N ho F2 hc.pers (hG.mono (h5.t hd)) ha.2.1 _ hp) ?_
 rintro _ F3 b3 h6 hr rfl
 refine Vs 2<|Nss<|Sq (Rg (rG 10) ?_)
 refine WB (fun f w=>∃ (F4:Mem),HS w0 F0 w F4 []/\Wv F3 F4/\FI f [] [(0,(sv x0)),(7,(vi h0)),(8,(vi h1)),(31,(.bool ((decide (h0 < 1))||((decide (h0 > 20000))||(decide (h1 < 0))))))]) ?_ ?_
 ·refine Vs 3 ?_
  refine WA (decide (h0 < 1)) (fun h2=>?_) (fun h2=>?_)
  ·refine Ss h2 2 ?_
   refine Pk1 h2<|Vs 1<|Ss (rfl:true=true) 2<|Pk1 (rfl:true=true) ?_
   exact Wr ⟨rfl,F3,h6,(Ww _),(fJ ⟨rfl,rfl,rfl,(congrArg Value.bool (EO h2 rfl)),trivial⟩)⟩
  ·refine Vgs h2 2 ?_
   refine Pk0 h2<|Vs 1<|WA (decide (h0 > 20000)) (fun h3=>?_) (fun h3=>?_)
   ·refine Ss h3 2 ?_
    refine Pk1 h3 ?_
    exact Wr ⟨rfl,F3,h6,(Ww _),(fJ ⟨rfl,rfl,rfl,(congrArg Value.bool (Bd h2 (EO h3 rfl))),trivial⟩)⟩
   ·refine Vgs h3 2 ?_
    refine Pk0 h3 ?_
    exact Wr ⟨rfl,F3,h6,(Ww _),(fJ ⟨rfl,rfl,rfl,(congrArg Value.bool (Bd h2 (Bd h3 rfl))),trivial⟩)⟩
 ·rintro f ht ⟨F4,h7,hu,⟨_,rfl⟩⟩
  refine Ab<|Cd hq (fun hv hw=>?_) (fun hv hx=>?_)
  ·refine Sq (Rg [0,1] ?_)
   refine Vs 2<|Nt<|Rt<|Aj ?_
   obtain rfl:=Aa hw
   exact Re [(vi 0),(vi 13)] h7 rfl
  ·refine Sc ?_
   refine Ab<|Sq (Rg (rG 11) ?_)
   refine Vs 11<|Nss<|Sq (Rg (rG 7) ?_)
   refine Vs 1 ?_
   obtain ⟨h8,hy,hz⟩:=bS hx
   refine Cl' G2 h7 (HN N ht F4 h7.pers (hG.mono (((h5.t hd).trans hr).trans hu)) ((W64 ((W64 ((W64 ((W64 (h0 - 1)) * 1440)) + (W64 ((W64 (Int.tdiv h1 100)) * 60)))) + (Int.tmod h1 100)))) _ hy) ?_
   rintro _ F5 b4 he b5 rfl
   refine Vs 5<|Nss (Rg (rG 7) ?_)
   refine WB (fun f w=>∃ (F6:Mem),HS w0 F0 w F6 []/\Wv F5 F6/\FI f [] [(9,(vi (W64 ((W64 ((W64 ((W64 (h0 - 1)) * 1440)) + (W64 ((W64 (Int.tdiv h1 100)) * 60)))) + (Int.tmod h1 100))))),(53,(.bool ((h8.2 !=0)||(h8.1 !=x0))))]) ?_ ?_
   ·refine Vs 3 ?_
    refine WA (h8.2 !=0) (fun h4=>?_) (fun h4=>?_)
    ·refine Ss h4 3 ?_
     refine Pk1 h4 ?_
     exact Wr ⟨rfl,F5,he,(Ww _),(fJ ⟨rfl,(congrArg Value.bool (EO h4 rfl)),trivial⟩)⟩
    ·refine Vgs h4 3 ?_
     refine Pk0 h4 ?_
     exact Wr ⟨rfl,F5,he,(Ww _),(fJ ⟨rfl,(congrArg Value.bool (Bd h4 rfl)),trivial⟩)⟩
   ·rintro f b6 ⟨F6,hf,b7,⟨_,rfl⟩⟩
    refine Ab<|Cd hz (fun b0 b1=>?_) (fun b0 b2=>?_)
    ·refine Sq (Rg [0,1] ?_)
     refine Vs 2<|Nt<|Rt<|Aj ?_
     obtain rfl:=Aa b1
     exact Re [(vi 0),(vi 13)] hf rfl
    ·refine Sc ?_
     refine Ab<|Sq (Rg [0,1,2] ?_)
     refine Vs 3<|Nt<|Rt ?_
     obtain rfl:=Aa b2
     exact Re [(vi (W64 ((W64 ((W64 ((W64 (h0 - 1)) * 1440)) + (W64 ((W64 (Int.tdiv h1 100)) * 60)))) + (Int.tmod h1 100)))),(vi 0)] hf rfl
def El (N:Nat) (x0:Ac) (x1:WR):Option (Ae×Int):=
 ((strings_Split N x1 ([32]:WR)).bind fun h2=>(((CQ N ({Report:=x0.Report,Serial:=x0.Serial,Zone:=x0.Zone}:Ac) ({Report:=0,Serial:=0,Zone:=0}:Ae)).bind fun h5=>((idx h5 0).bind fun h6=>(bif h6.has_ then some (decide ((h2.length:Int) > 0)) else some false))).bind fun h7=>((bif h7 then ((idx h2 0).bind fun h8=>((Cc N h8).bind fun h9=>((sub h2 1 (h2.length:Int)).bind fun ha=>some (ha,h9)))) else some (h2,0)).bind fun h0=>(((CQ N ({Report:=x0.Report,Serial:=x0.Serial,Zone:=x0.Zone}:Ac) ({Report:=h0.2,Serial:=0,Zone:=0}:Ae)).bind fun hb=>((idx hb 1).bind fun hc=>(bif hc.has_ then some (decide ((h0.1.length:Int) > 0)) else some false))).bind fun hd=>((bif hd then ((idx h0.1 0).bind fun he=>((Cc N he).bind fun hf=>((sub h0.1 1 (h0.1.length:Int)).bind fun hg=>some (hg,hf)))) else some (h0.1,0)).bind fun h1=>(((CQ N ({Report:=x0.Report,Serial:=x0.Serial,Zone:=x0.Zone}:Ac) ({Report:=h0.2,Serial:=h1.2,Zone:=0}:Ae)).bind fun hh=>((idx hh 2).bind fun hl=>(bif hl.has_ then some (decide ((h1.1.length:Int) > 0)) else some false))).bind fun hm=>((bif hm then ((idx h1.1 0).bind fun hn=>((Cc N hn).bind fun ho=>((sub h1.1 1 (h1.1.length:Int)).bind fun hp=>some (hp,ho)))) else some (h1.1,0)).bind fun h3=>((Bc N ({Report:=x0.Report,Serial:=x0.Serial,Zone:=x0.Zone}:Ac) ({Report:=h0.2,Serial:=h1.2,Zone:=h3.2}:Ae)).bind fun h4=>(bif ((h4.2 !=0)||(h4.1 !=x1)) then some (({Report:=0,Serial:=0,Zone:=0}:Ae),1) else some (({Report:=h0.2,Serial:=h1.2,Zone:=h3.2}:Ae),0))))))))))
theorem HV:Ai Tryz.prog 97:=fun _ _=>by kernel_rfl
theorem IJ (N:Nat) (w0:World) (F0:Mem) (hF:WT w0 F0) (hG:Bz F0) (x0:Ac) (x1:WR) (r:(Ae×Int)) (h:El N x0 x1=some r):
  Calls Tryz.prog 97 ([(.agg (Am x0)),(sv x1)]:List Value).toArray w0 (AA w0 F0 fun F' v=>v=(.tuple #[(.agg (B8 r.1)),(vi r.2)])):=by
 have br:=Wx hF
 refine Go 60 Tryz.func97<|Sq (Rg [0,1,2] ?_)
 refine Bx' 23 (Am x0) br (fun h5 gy bs=>?_)
 refine Al' 32 #[(vi 0),(vi 0),(vi 0)] bs (fun h4 bt bb=>?_)
 refine Vs 1<|Nss (Rg [0,1,2] ?_)
 refine Vs 1 ?_
 obtain ⟨hx,bu,bv⟩:=bS h
 refine Cl' CL bb (C3 N bt F0 bb.pers hG x1 (([32]:WR)) _ bu) ?_
 rintro _ F1 gz bw hr ⟨bc,hy,rfl,bd,hz⟩
 refine Vs 1<|Nss (Rg [0] ?_)
 refine Al' 32 #[(vi 0),(vi 0),(vi 0)] bw (fun h0 i0 bx=>?_)
 refine Nss<|Sq (Rg (rG 6) ?_)
 refine Vs 3<|Bs 194 [(pt h0 0),(pt h0 1),(pt h0 2)] bx (fun h2 bz hd=>?_)
 refine Vs 2<|Nt<|Bk<|CWP.unroll (by kernel_rfl) 4<|URL.step<|Sq (Rg [0] ?_)
 refine Vs 1<|Nss<|C1 (rfl:true=true)<|Sc<|Ab<|Sq<|Bk<|Sq (Rg (rG 5) ?_)
 refine Vs 1<|V 22 0 (U4 (v1:=(pt h2 0)) (by rfl) (Ee (t:=200) (x:=(.tmp 17)) (y:=(.tmp 19)) (b:=h2) (nn:=3) (c:=3) (E:=194) (s:=1) (by_:=8) (j:=0) rfl rfl (by kernel_rfl) (by decide)))<|Ld hd.at0<|Vs 2<|Nss (Rg (rG 12) ?_)
 obtain ⟨c0,c1,c3⟩:=bS bv
 refine WB (fun f w=>∃ (F2:Mem),HS w0 F0 w F2 [(sb h2 #[(pt h0 0),(pt h0 1),(pt h0 2)] 194),(sb h0 #[(vi 0),(vi 0),(vi 0)] 32),(sb h4 #[(vi 0),(vi 0),(vi 0)] 32),(sb h5 (Am x0) 23)]/\Wv F1 F2/\FI f [] [(1,(sv x1)),(2,(pt h5 0)),(4,(pt h4 0)),(6,(sL bc hx hy)),(7,(pt h0 0)),(9,(pt h0 0)),(17,(.slice (some ⟨h2,0,none⟩) 3 3)),(18,(vi 3)),(19,(vi 0)),(35,(.bool c0))]) ?_ ?_
 ·refine Ld hd.at3 ?_
  refine Ld hd.at1 ?_
  obtain ⟨i1,c4,c5⟩:=bS c1
  refine Cl' EH hd (Fi N bz F1 hd.pers (({Report:=x0.Report,Serial:=x0.Serial,Zone:=x0.Zone}:Ac)) (({Report:=0,Serial:=0,Zone:=0}:Ae)) _ c4) ?_
  rintro _ F3 i2 b0 be ⟨i3,i4,rfl,i5,c6⟩
  refine Vs 1 ?_
  obtain ⟨i6,c7,c8⟩:=bS c5
  obtain ⟨c9,hx67'⟩:=Aq c7
  obtain ⟨i7,i8,i9,ia,ib,rfl,hF76,hE77⟩:=WD c6 hx67'
  have ca:=hE77 _ _ hx67'
  refine Ix c9<|Vs 1<|Lx 0 (b0.pers _ _ hF76) ca<|Vs 1<|Sp c8 (fun he cb=>?_) (fun he cc=>?_)
  ·refine Vgs he 3 ?_
   refine Pk1 he ?_
   obtain rfl:=Aa cb
   exact Wr ⟨rfl,F3,b0,be,fI⟩
  ·refine Ss he 3 ?_
   refine Pk0 he ?_
   obtain rfl:=Aa cc
   exact Wr ⟨rfl,F3,b0,be,fI⟩
 ·rintro f cd ⟨F2,ht,h7,⟨_,rfl⟩⟩
  refine Ab ?_
  obtain ⟨h1,ce,cf⟩:=bS c3
  refine WC (fun f w=>∃ (F4:Mem) (hf:WS) (h9:Nat),HS w0 F0 w F4 [(sb h2 #[(pt h0 0),(pt h0 1),(pt h0 2)] 194),(sb h0 #[(vi h1.2),(vi 0),(vi 0)] 32),(sb h4 #[(vi 0),(vi 0),(vi 0)] 32),(sb h5 (Am x0) 23)]/\Wv F2 F4/\FI f [] [(1,(sv x1)),(2,(pt h5 0)),(4,(pt h4 0)),(6,(sL hf h1.1 h9)),(7,(pt h0 0)),(17,(.slice (some ⟨h2,0,none⟩) 3 3)),(18,(vi 3)),(19,(vi 0))]/\LC h1.1.length h9/\SlA AK F4 hf h1.1) ?_ ?_
  ·refine Cd ce (fun cg ch=>?_) (fun cg ci=>?_)
   ·refine Sq (Rg (rG 7) ?_)
    refine Vs 2 ?_
    obtain ⟨cj,cl,cm⟩:=bS ch
    obtain ⟨cn,hx102'⟩:=Aq cl
    obtain ⟨co,cp,ic,ie,ig,rfl,hF111,hE112⟩:=WD (Wy hz h7) hx102'
    have cq:=hE112 _ _ hx102'
    refine Ix cn<|Lx 0 (ht.pers _ _ hF111) cq ?_
    obtain ⟨cr,ct,cu⟩:=bS cm
    refine Cl' D8 ht (EL N cd F2 ht.pers (hG.mono (hr.t h7)) cj _ ct) ?_
    rintro _ F5 ii cv bf rfl
    refine Vs 1<|St1 #[(vi cr),(vi 0),(vi 0)] cv (fun ij cw=>?_)
    refine Nt<|Rg [0,1,2]<|Vs 1 ?_
    obtain ⟨cx,cy,cz⟩:=bS cu
    obtain ⟨d0,d1,d2,d3,d4⟩:=FO (P:=Tryz.prog) (T:=AK) (lo:=(some (.const (vi 1)))) (hi:=none) (mx:=none) (t:=55) (E:=9) (by_:=16) (c:=hy) (a:=(some ⟨co,cp,none⟩)) (l:=hx) (r:=cx) (il:=1) (ih:=(hx.length:Int)) (im:=0) (by kernel_rfl) (by kernel_rfl) bd (Wy hz (h7.t bf)) (fun h=>by first | rfl | cases h) cy
    refine V 43 55 (d4 (x:=(.tmp 42)) rfl rfl rfl trivial)<|Vs 1<|Wr ?_
    obtain rfl:=Aa cz
    exact .inl ⟨rfl,F5,d0,d1,cw,bf,fI,d2,d3⟩
   ·refine Sc ?_
    obtain rfl:=Aa ci
    exact .inl ⟨rfl,F2,bc,hy,ht,(Ww _),fI,bd,(Wy hz h7)⟩
  ·rintro f d6 ⟨F4,hf,h9,hg,b1,⟨_,rfl⟩,bg,b2⟩
   refine Av<|Ab<|Rg [0,1]<|Vs 2<|Nt<|URL.step<|Sq (Rg [0] ?_)
   refine Vs 1<|Nss<|C1 (rfl:true=true)<|Sc<|Ab<|Sq<|Bk<|Sq (Rg (rG 5) ?_)
   refine Vs 1<|V 22 0 (U4 (v1:=(pt h2 1)) (by rfl) (Ee (t:=200) (x:=(.tmp 17)) (y:=(.tmp 19)) (b:=h2) (nn:=3) (c:=3) (E:=194) (s:=1) (by_:=8) (j:=1) rfl rfl (by kernel_rfl) (by decide)))<|Ld hg.at0<|Vs 2<|Nss (Rg (rG 12) ?_)
   obtain ⟨d7,d8,d9⟩:=bS cf
   refine WB (fun f w=>∃ (F6:Mem),HS w0 F0 w F6 [(sb h2 #[(pt h0 0),(pt h0 1),(pt h0 2)] 194),(sb h0 #[(vi h1.2),(vi 0),(vi 0)] 32),(sb h4 #[(vi 0),(vi 0),(vi 0)] 32),(sb h5 (Am x0) 23)]/\Wv F4 F6/\FI f [] [(1,(sv x1)),(2,(pt h5 0)),(4,(pt h4 0)),(6,(sL hf h1.1 h9)),(7,(pt h0 0)),(9,(pt h0 1)),(17,(.slice (some ⟨h2,0,none⟩) 3 3)),(18,(vi 3)),(19,(vi 1)),(35,(.bool d7))]) ?_ ?_
   ·refine Ld hg.at3 ?_
    refine Ld hg.at1 ?_
    obtain ⟨ik,da,db⟩:=bS d8
    refine Cl' EH hg (Fi N d6 F4 hg.pers (({Report:=x0.Report,Serial:=x0.Serial,Zone:=x0.Zone}:Ac)) (({Report:=h1.2,Serial:=0,Zone:=0}:Ae)) _ da) ?_
    rintro _ F7 io b3 bh ⟨ip,iq,rfl,ir,dc⟩
    refine Vs 1 ?_
    obtain ⟨it,dd,de⟩:=bS db
    obtain ⟨df,hx159'⟩:=Aq dd
    obtain ⟨iu,iv,iw,ix,iy,rfl,hF168,hE169⟩:=WD dc hx159'
    have dg:=hE169 _ _ hx159'
    refine Ix df<|Vs 1<|Lx 0 (b3.pers _ _ hF168) dg<|Vs 1<|Sp de (fun hh dh=>?_) (fun hh di=>?_)
    ·refine Vgs hh 3 ?_
     refine Pk1 hh ?_
     obtain rfl:=Aa dh
     exact Wr ⟨rfl,F7,b3,bh,fI⟩
    ·refine Ss hh 3 ?_
     refine Pk0 hh ?_
     obtain rfl:=Aa di
     exact Wr ⟨rfl,F7,b3,bh,fI⟩
   ·rintro f dj ⟨F6,hu,ha,⟨_,rfl⟩⟩
    refine Ab ?_
    obtain ⟨h3,dk,dl⟩:=bS d9
    refine WC (fun f w=>∃ (F8:Mem) (hl:WS) (hb:Nat),HS w0 F0 w F8 [(sb h2 #[(pt h0 0),(pt h0 1),(pt h0 2)] 194),(sb h0 #[(vi h1.2),(vi h3.2),(vi 0)] 32),(sb h4 #[(vi 0),(vi 0),(vi 0)] 32),(sb h5 (Am x0) 23)]/\Wv F6 F8/\FI f [] [(1,(sv x1)),(2,(pt h5 0)),(4,(pt h4 0)),(6,(sL hl h3.1 hb)),(7,(pt h0 0)),(17,(.slice (some ⟨h2,0,none⟩) 3 3)),(18,(vi 3)),(19,(vi 1))]/\LC h3.1.length hb/\SlA AK F8 hl h3.1) ?_ ?_
    ·refine Cd dk (fun dm dn=>?_) (fun dm dp=>?_)
     ·refine Sq (Rg (rG 7) ?_)
      refine Vs 2 ?_
      obtain ⟨dq,dr,ds⟩:=bS dn
      obtain ⟨dt,hx194'⟩:=Aq dr
      obtain ⟨du,dv,iz,j0,j1,rfl,hF203,hE204⟩:=WD (Wy b2 ha) hx194'
      have dw:=hE204 _ _ hx194'
      refine Ix dt<|Lx 0 (hu.pers _ _ hF203) dw ?_
      obtain ⟨dx,dy,dz⟩:=bS ds
      refine Cl' D8 hu (EL N dj F6 hu.pers (hG.mono (((hr.t h7).trans b1).trans ha)) dq _ dy) ?_
      rintro _ F9 j2 e0 bi rfl
      refine Vs 1<|St1 #[(vi h1.2),(vi dx),(vi 0)] e0 (fun j3 e1=>?_)
      refine Nt<|Rg [0,1,2]<|Vs 1 ?_
      obtain ⟨e2,e3,e4⟩:=bS dz
      obtain ⟨e6,e7,e8,e9,ea⟩:=FO (P:=Tryz.prog) (T:=AK) (lo:=(some (.const (vi 1)))) (hi:=none) (mx:=none) (t:=55) (E:=9) (by_:=16) (c:=h9) (a:=(some ⟨du,dv,none⟩)) (l:=h1.1) (r:=e2) (il:=1) (ih:=(h1.1.length:Int)) (im:=0) (by kernel_rfl) (by kernel_rfl) bg (Wy b2 (ha.t bi)) (fun h=>by first | rfl | cases h) e3
      refine V 43 55 (ea (x:=(.tmp 42)) rfl rfl rfl trivial)<|Vs 1<|Wr ?_
      obtain rfl:=Aa e4
      exact .inl ⟨rfl,F9,e6,e7,e1,bi,fI,e8,e9⟩
     ·refine Sc ?_
      obtain rfl:=Aa dp
      exact .inl ⟨rfl,F6,hf,h9,hu,(Ww _),fI,bg,(Wy b2 ha)⟩
    ·rintro f eb ⟨F8,hl,hb,hm,bj,⟨_,rfl⟩,bk,b4⟩
     refine Av<|Ab<|Rg [0,1]<|Vs 2<|Nt<|URL.step<|Sq (Rg [0] ?_)
     refine Vs 1<|Nss<|C1 (rfl:true=true)<|Sc<|Ab<|Sq<|Bk<|Sq (Rg (rG 5) ?_)
     refine Vs 1<|V 22 0 (U4 (v1:=(pt h2 2)) (by rfl) (Ee (t:=200) (x:=(.tmp 17)) (y:=(.tmp 19)) (b:=h2) (nn:=3) (c:=3) (E:=194) (s:=1) (by_:=8) (j:=2) rfl rfl (by kernel_rfl) (by decide)))<|Ld hm.at0<|Vs 2<|Nss (Rg (rG 12) ?_)
     obtain ⟨ec,ed,ee⟩:=bS dl
     refine WB (fun f w=>∃ (hc:Mem),HS w0 F0 w hc [(sb h2 #[(pt h0 0),(pt h0 1),(pt h0 2)] 194),(sb h0 #[(vi h1.2),(vi h3.2),(vi 0)] 32),(sb h4 #[(vi 0),(vi 0),(vi 0)] 32),(sb h5 (Am x0) 23)]/\Wv F8 hc/\FI f [] [(1,(sv x1)),(2,(pt h5 0)),(4,(pt h4 0)),(6,(sL hl h3.1 hb)),(7,(pt h0 0)),(9,(pt h0 2)),(17,(.slice (some ⟨h2,0,none⟩) 3 3)),(18,(vi 3)),(19,(vi 2)),(35,(.bool ec))]) ?_ ?_
     ·refine Ld hm.at3 ?_
      refine Ld hm.at1 ?_
      obtain ⟨j4,ef,eg⟩:=bS ed
      refine Cl' EH hm (Fi N eb F8 hm.pers (({Report:=x0.Report,Serial:=x0.Serial,Zone:=x0.Zone}:Ac)) (({Report:=h1.2,Serial:=h3.2,Zone:=0}:Ae)) _ ef) ?_
      rintro _ bl j5 b5 bm ⟨j6,j7,rfl,j8,eh⟩
      refine Vs 1 ?_
      obtain ⟨j9,ei,ej⟩:=bS eg
      obtain ⟨ek,hx251'⟩:=Aq ei
      obtain ⟨ja,jb,jc,jd,je,rfl,hF260,hE261⟩:=WD eh hx251'
      have el:=hE261 _ _ hx251'
      refine Ix ek<|Vs 1<|Lx 0 (b5.pers _ _ hF260) el<|Vs 1<|Sp ej (fun hn en=>?_) (fun hn eo=>?_)
      ·refine Vgs hn 3 ?_
       refine Pk1 hn ?_
       obtain rfl:=Aa en
       exact Wr ⟨rfl,bl,b5,bm,fI⟩
      ·refine Ss hn 3 ?_
       refine Pk0 hn ?_
       obtain rfl:=Aa eo
       exact Wr ⟨rfl,bl,b5,bm,fI⟩
     ·rintro f ep ⟨hc,hv,ho,⟨_,rfl⟩⟩
      refine Ab ?_
      obtain ⟨h6,er,et⟩:=bS ee
      refine WC (fun f w=>∃ (hp:Mem) (b6:WS) (b7:Nat),HS w0 F0 w hp [(sb h2 #[(pt h0 0),(pt h0 1),(pt h0 2)] 194),(sb h0 #[(vi h1.2),(vi h3.2),(vi h6.2)] 32),(sb h4 #[(vi 0),(vi 0),(vi 0)] 32),(sb h5 (Am x0) 23)]/\Wv hc hp/\FI f [] [(1,(sv x1)),(2,(pt h5 0)),(4,(pt h4 0)),(6,(sL b6 h6.1 b7)),(7,(pt h0 0)),(17,(.slice (some ⟨h2,0,none⟩) 3 3)),(18,(vi 3)),(19,(vi 2))]/\LC h6.1.length b7/\SlA AK hp b6 h6.1) ?_ ?_
      ·refine Cd er (fun eu ev=>?_) (fun eu ew=>?_)
       ·refine Sq (Rg (rG 7) ?_)
        refine Vs 2 ?_
        obtain ⟨ex,ey,ez⟩:=bS ev
        obtain ⟨g0,hx286'⟩:=Aq ey
        obtain ⟨g1,g2,jf,jg,jh,rfl,hF295,hE296⟩:=WD (Wy b4 ho) hx286'
        have g3:=hE296 _ _ hx286'
        refine Ix g0<|Lx 0 (hv.pers _ _ hF295) g3 ?_
        obtain ⟨g4,g5,g6⟩:=bS ez
        refine Cl' D8 hv (EL N ep hc hv.pers (hG.mono (((((hr.t h7).trans b1).trans ha).trans bj).trans ho)) ex _ g5) ?_
        rintro _ g7 ji g8 bn rfl
        refine Vs 1<|St1 #[(vi h1.2),(vi h3.2),(vi g4)] g8 (fun jj g9=>?_)
        refine Nt<|Rg [0,1,2]<|Vs 1 ?_
        obtain ⟨ga,gh,gi⟩:=bS g6
        obtain ⟨gk,gl,gm,gn,go⟩:=FO (P:=Tryz.prog) (T:=AK) (lo:=(some (.const (vi 1)))) (hi:=none) (mx:=none) (t:=55) (E:=9) (by_:=16) (c:=hb) (a:=(some ⟨g1,g2,none⟩)) (l:=h3.1) (r:=ga) (il:=1) (ih:=(h3.1.length:Int)) (im:=0) (by kernel_rfl) (by kernel_rfl) bk (Wy b4 (ho.t bn)) (fun h=>by first | rfl | cases h) gh
        refine V 43 55 (go (x:=(.tmp 42)) rfl rfl rfl trivial)<|Vs 1<|Wr ?_
        obtain rfl:=Aa gi
        exact .inl ⟨rfl,g7,gk,gl,g9,bn,fI,gm,gn⟩
       ·refine Sc ?_
        obtain rfl:=Aa ew
        exact .inl ⟨rfl,hc,hl,hb,hv,(Ww _),fI,bk,(Wy b4 ho)⟩
      ·rintro f gp ⟨hp,b6,b7,hw,gr,⟨_,rfl⟩,jk,jl⟩
       refine Av<|Ab<|Rg [0,1]<|Vs 2<|Nt<|URL.step<|Sq (Rg [0] ?_)
       refine Vs 1<|Nss<|C0 (rfl:false=false)<|Ex<|Au<|Au<|AB rfl<|Ab<|Sq<|Sq (Rg (rG 8) ?_)
       refine Ld hw.at3<|Ld hw.at1 ?_
       obtain ⟨b8,gs,gu⟩:=bS et
       refine Cl' DD hw (DW N gp hp hw.pers (hG.mono ((((((hr.t h7).trans b1).trans ha).trans bj).trans ho).trans gr)) (({Report:=x0.Report,Serial:=x0.Serial,Zone:=x0.Zone}:Ac)) (({Report:=h1.2,Serial:=h3.2,Zone:=h6.2}:Ae)) _ gs) ?_
       rintro _ b9 jm bo jo rfl
       refine Vs 5<|Nss (Rg (rG 7) ?_)
       refine WB (fun f w=>∃ (hq:Mem),HS w0 F0 w hq [(sb h0 #[(vi h1.2),(vi h3.2),(vi h6.2)] 32),(sb h4 #[(vi 0),(vi 0),(vi 0)] 32)]/\Wv b9 hq/\FI f [] [(4,(pt h4 0)),(7,(pt h0 0)),(57,(.bool ((b8.2 !=0)||(b8.1 !=x1))))]) ?_ ?_
       ·refine Vs 3 ?_
        refine WA (b8.2 !=0) (fun h8=>?_) (fun h8=>?_)
        ·refine Ss h8 3 ?_
         refine Pk1 h8 ?_
         exact Wr ⟨rfl,b9,bo.dr0.dr2,(Ww _),(fJ ⟨rfl,rfl,(congrArg Value.bool (EO h8 rfl)),trivial⟩)⟩
        ·refine Vgs h8 3 ?_
         refine Pk0 h8 ?_
         exact Wr ⟨rfl,b9,bo.dr0.dr2,(Ww _),(fJ ⟨rfl,rfl,(congrArg Value.bool (Bd h8 rfl)),trivial⟩)⟩
       ·rintro f jp ⟨hq,ba,jq,⟨_,rfl⟩⟩
        refine Ab<|Cd gu (fun gv gw=>?_) (fun gv gx=>?_)
        ·refine Sq (Rg [0,1,2] ?_)
         refine Vs 1<|St1 #[(vi 0),(vi 0),(vi 0)] ba (fun jr bp=>?_)
         refine Vs 1<|Nt<|Rt<|Aj ?_
         obtain rfl:=Aa gw
         exact ⟨rfl,(.tuple #[(.agg #[(vi 0),(vi 0),(vi 0)]),(vi 1)]),AQ (l:=[.cell 4 32,.tmp 5]) (by kernel_rfl) (vs:=[(.agg #[(vi 0),(vi 0),(vi 0)]),(vi 1)]) ⟨h4,0,rfl,An (t:=32) (g:=true) (s:=3) (by kernel_rfl) bp.at1 rfl (by decide),⟨rfl,trivial⟩⟩,(.tuple #[(.agg #[(vi 0),(vi 0),(vi 0)]),(vi 1)]),hq,rfl,bp.clear,rfl⟩
        ·refine Sc ?_
         refine Ab<|Sq (Rg [0,1,2] ?_)
         refine Ld ba.at0<|St1 #[(vi h1.2),(vi h3.2),(vi h6.2)] ba (fun js bq=>?_)
         refine Vs 1<|Nt<|Rt ?_
         obtain rfl:=Aa gx
         exact ⟨rfl,(.tuple #[(.agg #[(vi h1.2),(vi h3.2),(vi h6.2)]),(vi 0)]),AQ (l:=[.cell 4 32,.tmp 5]) (by kernel_rfl) (vs:=[(.agg #[(vi h1.2),(vi h3.2),(vi h6.2)]),(vi 0)]) ⟨h4,0,rfl,An (t:=32) (g:=true) (s:=3) (by kernel_rfl) bq.at1 rfl (by decide),⟨rfl,trivial⟩⟩,(.tuple #[(.agg #[(vi h1.2),(vi h3.2),(vi h6.2)]),(vi 0)]),hq,rfl,bq.clear,rfl⟩






def A3 (N:Nat) (x0:(List WR)) (x1:WR):Option Bool:=
 ((AO N x0 x1).bind fun h0=>some (decide (h0>=0)))
theorem EG:Ai Tryz.prog 122:=fun _ _=>by kernel_rfl
theorem EP (N:Nat) (w0:World) (F0:Mem) (hF:WT w0 F0) (x0:(List WR)) (h0:WS) (h1:Nat) (h3:LC x0.length h1) (h4:SlA AK F0 h0 x0) (x1:WR) (r:Bool) (h:A3 N x0 x1=some r):
  Calls Tryz.prog 122 ([(sL h0 x0 h1),(sv x1)]:List Value).toArray w0 (AA w0 F0 fun F' v=>v=(.bool r)):=by
 have h2:=Wx hF
 refine Go 9 Tryz.func122<|Sq (Rg [0] ?_)
 refine Vs 1<|Nss (Rg (rG 5) ?_)
 refine Vs 2 ?_
 obtain ⟨h5,h6,h7⟩:=bS h
 refine Cl' CV h2 (C4 N w0 F0 h2.pers x0 h0 h1 h3 h4 x1 _ h6) ?_
 rintro _ F1 h9 h8 ha rfl
 refine Vs 2<|Nt<|Rt ?_
 obtain rfl:=Aa h7
 exact Re [(.bool (decide (h5>=0)))] h8 rfl
def A7 (N:Nat) (x0:List Fix):(Int×Int×List Fix)->Option (BF (List Fix) (Int×Int×List Fix)):=fun s4=>
 (bif (decide (s4.1 < s4.2.1)) then none else some (.done (s4.1,s4.2.1,s4.2.2)))
def Bm (N:Nat) (x0:List Fix):Option (List Fix):=
 ((AX (A7 N x0) N (0,(W64 ((x0.length:Int) - 1)),x0)).bind fun o=>o.k (fun r=>some r) (fun h0=>some h0.2.2))
theorem Eu:Ai Tryz.prog 126:=fun _ _=>by kernel_rfl
theorem EJ (N:Nat) {wb w0:World} {Fb F0:Mem} {Lf:Own} (x0:List Fix) (a0:WS) (n0:Nat) (e0:Option Nat×Obj) (h4:As JZ 64 F0 a0 n0 x0 e0) (h5:HS wb Fb w0 F0 (e0::Lf)) (r:List Fix) (h:Bm N x0=some r):
  Calls Tryz.prog 126 ([.slice a0 x0.length n0]:List Value).toArray w0 (fun e w'=>∃ F' e',e=.returned (.tuple #[])/\HS wb Fb w' F' (e'::Lf)/\Wv F0 F'/\As JZ 64 F' a0 n0 r e'):=by
 refine Ny (n:=28) (c:=NE Tryz.f126) Tryz.func126 (by kernel_rfl) (by kernel_rfl) (by kernel_rfl)<|Sq (Rg (rG 5) ?_)
 refine Vs 1<|Vs 1<|Vs 1<|Vs 1<|Vs 1<|Nt ?_
 obtain ⟨o1,h6,h3⟩:=bS h
 refine WC (fun f w=>∃ (h1:(Int×Int×List Fix)) (F2:Mem) (h2:Option Nat×Obj),o1=.done h1/\HS wb Fb w F2 (h2::Lf)/\Wv F0 F2/\FI f [] []/\As JZ 64 F2 a0 n0 h1.2.2 h2) ?_ ?_
 ·refine Bk ?_
  refine Wu (by kernel_rfl) (fun m f w=>∃ (s4:(Int×Int×List Fix)) (F1:Mem) (h0:Option Nat×Obj),AX (A7 N x0) m s4=some o1/\HS wb Fb w F1 (h0::Lf)/\Wv F0 F1/\FI f [] [(0,(sL a0 s4.2.2 n0)),(2,(vi s4.1)),(3,(vi s4.2.1))]/\As JZ 64 F1 a0 n0 s4.2.2 h0) N ⟨(0,(W64 ((x0.length:Int) - 1)),x0),F0,e0,h6,h5,(Ww _),fI,h4⟩ ?_
  rintro ho f w5 ⟨s4,F1,h0,h7,h8,h9,⟨_,rfl⟩,ha⟩
  obtain ⟨hp,hq,rfl,hb,hc⟩:=AU h7
  refine Sq<|Sq (Rg [0,1,2] ?_)
  refine Vs 1<|Vs 1<|Vs 1<|Nt<|Cd hb (fun hd he=>?_) (fun hd hf=>?_)
  ·cases he
  ·refine Ex ?_
   refine Au<|Au<|AB rfl ?_
   have hg:=AW hf hc
   exact .inl ⟨rfl,(s4.1,s4.2.1,s4.2.2),F1,h0,hg,h8,h9,fI,ha⟩
 ·rintro f hr ⟨h1,F2,h2,rfl,hh,hl,⟨_,rfl⟩,hm⟩
  have hn:=B2 h3
  have hfin:=Aa hn
  subst hfin
  exact ⟨rfl,.tuple #[],AQ (l:=[]) (by kernel_rfl) (vs:=[]) trivial,F2,_,rfl,hh,hl,hm⟩











def Bp (N:Nat) (x0:(List Line)) (x1:Int) (x2:(Line->Int->Option Int)):(Int×Int)->Option (BF (Int×Bool) (Int×Int)):=fun h0=>
 (bif (decide (h0.1 < h0.2)) then ((idx x0 (W64 (Int.fdiv (IntKind.u64.wrap (W64 (h0.1 + h0.2))) (2 ^ min (1:Int).toNat IntKind.u64.bits)))).bind fun h1=>((x2 h1 x1).bind fun h2=>(bif (decide (h2 < 0)) then none else some (.next (h0.1,(W64 (Int.fdiv (IntKind.u64.wrap (W64 (h0.1 + h0.2))) (2 ^ min (1:Int).toNat IntKind.u64.bits)))))))) else some (.done (h0.1,h0.2)))
def BA (N:Nat) (x0:(List Line)) (x1:Int) (x2:(Line->Int->Option Int)):Option (Int×Bool):=
 ((AX (Bp N x0 x1 x2) N (0,(x0.length:Int))).bind fun o=>o.k (fun r=>some r) (fun h0=>(bif (decide (h0.1 < (x0.length:Int))) then ((idx x0 h0.1).bind fun h1=>((x2 h1 x1).bind fun h2=>some (h0.1,(h2==0)))) else none)))
theorem Ch:Ai Tryz.prog 252:=fun _ _=>by kernel_rfl
theorem Cu (N:Nat) (w0:World) (F0:Mem) (hF:WT w0 F0) (x0:(List Line)) (h5:WS) (h6:Nat) (bm:LC x0.length h6) (hc:SlA AJ F0 h5 x0) (x1:Int) (h4:FuncId) (h2 h3:List Value) (x2:Line->Int->Option Int) (hd:Ai Tryz.prog h4) (he:RA F0 h4 h2 h3 x2) (r:(Int×Bool)) (h:BA N x0 x1 x2=some r):
  Calls Tryz.prog 252 ([(sL h5 x0 h6),(vi x1),(.func (.func h4) h2.toArray h3.toArray)]:List Value).toArray w0 (AA w0 F0 fun F' v=>v=(.tuple #[(vi r.1),(.bool r.2)])):=by
 have hl:=Wx hF
 refine Go 49 Tryz.func252<|Sq (Rg [0,1] ?_)
 refine Vs 2<|Nss (Rg [0,1,2] ?_)
 refine Vs 3<|Nss (Rg [0,1,2] ?_)
 refine Vs 3<|Nss ?_
 obtain ⟨hf,hm,hn⟩:=bS h
 refine WC (fun f w=>∃ (h7:(Int×Int)) (F2:Mem),hf=.done h7/\HS w0 F0 w F2 []/\Wv F0 F2/\FI f [] [(0,(sL h5 x0 h6)),(1,(vi x1)),(2,(.func (.func h4) h2.toArray h3.toArray)),(8,(vi (x0.length:Int))),(9,(vi h7.1))]) ?_ ?_
 ·refine Bk ?_
  refine Wu (by kernel_rfl) (fun m f w=>∃ (h0:(Int×Int)) (F1:Mem),AX (Bp N x0 x1 x2) m h0=some hf/\HS w0 F0 w F1 []/\Wv F0 F1/\FI f [] [(0,(sL h5 x0 h6)),(1,(vi x1)),(2,(.func (.func h4) h2.toArray h3.toArray)),(8,(vi (x0.length:Int))),(9,(vi h0.1)),(10,(vi h0.2))]) N ⟨(0,(x0.length:Int)),F0,hm,hl,(Ww _),fI⟩ ?_
  rintro bn f ho ⟨h0,F1,hp,h8,h9,⟨_,rfl⟩⟩
  obtain ⟨hq,bo,rfl,hr,hg⟩:=AU hp
  refine Sq<|Sq (Rg [0,1,2] ?_)
  refine Vs 3<|Nt<|Cd hr (fun ht hu=>?_) (fun ht hv=>?_)
  ·refine Sc ?_
   refine Ab<|Bk<|Sq (Rg (rG 7) ?_)
   refine Vs 4<|V 22 222 (TQ (t:=222) (t':=222) (x:=(.tmp 21)) (y:=(.const (.int .u64 1))) (k:=.u64) (q:=.u64) (a:=(IntKind.u64.wrap (W64 (h0.1 + h0.2)))) (b:=1) rfl rfl (by decide))<|Vs 2<|Nss (Rg (rG 8) ?_)
   refine Vs 3 ?_
   obtain ⟨hw,hx,hy⟩:=bS hu
   obtain ⟨hz,hx55'⟩:=Aq hx
   obtain ⟨bp,bq,br,bs,bt,rfl,hF64,hE65⟩:=WD (Wy hc h9) hx55'
   have b0:=hE65 _ _ hx55'
   refine Ix hz<|Lx 0 (h8.pers _ _ hF64) b0<|Vs 1 ?_
   obtain ⟨bu,b1,b2⟩:=bS hy
   refine Cq hd h8 (he ho F1 hw x1 _ h9 h8.pers b1) ?_
   rintro _ F3 bv b3 b4 rfl
   refine Vs 1<|Nt<|Cd b2 (fun b5 b6=>?_) (fun b5 b7=>?_)
   ·cases b6
   ·refine Rg [0,1] ?_
    refine Vs 2<|Wr<|Av ?_
    have b8:=AV b7 hg
    exact ⟨hq,Nat.lt_succ_self _,(h0.1,(W64 (Int.fdiv (IntKind.u64.wrap (W64 (h0.1 + h0.2))) (2 ^ min (1:Int).toNat IntKind.u64.bits)))),F3,b8,b3,(h9.t b4),fI⟩
  ·refine Ex ?_
   refine Au<|Au<|AB rfl ?_
   have b9:=AW hv hg
   exact .inl ⟨rfl,(h0.1,h0.2),F1,b9,h8,h9,fI⟩
 ·rintro f ba ⟨h7,F2,rfl,ha,hh,⟨_,rfl⟩⟩
  have bb:=B2 hn
  refine Ab<|Sq (Rg (rG 16) ?_)
  refine Vs 5<|Sp bb (fun h1 bc=>?_) (fun h1 bd=>?_)
  ·refine Vgs h1 3 ?_
   obtain ⟨hb,be,bf⟩:=bS bc
   obtain ⟨bg,hx86'⟩:=Aq be
   obtain ⟨bw,bx,bz,c0,c1,rfl,hF95,hE96⟩:=WD (Wy hc hh) hx86'
   have bh:=hE96 _ _ hx86'
   refine Ixg h1 bg<|Lxg h1 0 (ha.pers _ _ hF95) bh<|Vgs h1 1 ?_
   obtain ⟨bi,bj,bk⟩:=bS bf
   refine RWP.call (dst:=(some 46)) (ty:=3) (g:=(some (4,true))) (by kernel_rfl) (Im (d:=39) (by kernel_rfl) rfl h1) (f0:=(.tmp 40)) (aos:=#[(.tmp 44),(.tmp 45)]) (ats:=#[34,3]) (fid:=h4) (first:=h2.toArray) (cap:=h3.toArray) (args:=(h2++(([(.agg (Ct hb)),(vi x1)]:List Value)++h3))) rfl hd (Er (l:=[(.agg (Ct hb)),(vi x1)]) (fi:=h2) (k:=h3) rfl) ha (he ba F2 hb x1 _ hh ha.pers bj) ?_
   rintro _ F4 c3 bl c4 rfl
   refine Vgs h1 1<|Pk1 h1<|Vs 2<|Nt<|Rt ?_
   obtain rfl:=Aa bk
   exact Re [(vi h7.1),(.bool (bi==0))] bl rfl
  ·cases bd
def GM (N:Nat) (x0:Int):Option Bool:=
 some (x0 !=x0)
theorem G1:Ai Tryz.prog 281:=fun _ _=>by kernel_rfl
theorem HM (N:Nat) (w0:World) (F0:Mem) (hF:WT w0 F0) (x0:Int) (r:Bool) (h:GM N x0=some r):
  Calls Tryz.prog 281 ([(vi x0)]:List Value).toArray w0 (AA w0 F0 fun F' v=>v=(.bool r)):=by
 have h0:=Wx hF
 refine Go 6 Tryz.func281<|Sq (Rg [0] ?_)
 refine Vs 1<|Nss (Rg (rG 4) ?_)
 refine Vs 4<|Nt<|Rt ?_
 obtain rfl:=Aa h
 exact Re [(.bool (x0 !=x0))] h0 rfl
def HK (N:Nat) (x0 x1:Int):Option Int:=
 ((GM N x0).bind fun h0=>((GM N x1).bind fun h1=>(bif h0 then none else (bif h1 then none else (bif (decide (x0 < x1)) then none else (bif (decide (x0 > x1)) then none else some 0))))))
theorem JO:Ai Tryz.prog 254:=fun _ _=>by kernel_rfl
theorem KD (N:Nat) (w0:World) (F0:Mem) (hF:WT w0 F0) (x0 x1 r:Int) (h:HK N x0 x1=some r):
  Calls Tryz.prog 254 ([(vi x0),(vi x1)]:List Value).toArray w0 (AA w0 F0 fun F' v=>v=(vi r)):=by
 have h0:=Wx hF
 refine Go 20 Tryz.func254<|Sq (Rg [0] ?_)
 refine Vs 1<|Nss (Rg [0,1,2] ?_)
 refine Vs 1 ?_
 obtain ⟨hn,h2,h3⟩:=bS h
 refine Cl' G1 h0 (HM N w0 F0 h0.pers x0 _ h2) ?_
 rintro _ F1 h4 h1 ho rfl
 refine Vs 1<|Nss (Rg [0,1,2] ?_)
 refine Vs 1 ?_
 obtain ⟨hp,h5,h6⟩:=bS h3
 refine Cl' G1 h1 (HM N h4 F1 h1.pers x1 _ h5) ?_
 rintro _ F2 hq h7 hr rfl
 refine Vs 1<|Nss<|Sq (Rg [0] ?_)
 refine Vs 1<|Nt<|Cd h6 (fun h8 h9=>?_) (fun h8 ha=>?_)
 ·cases h9
 ·refine Sc ?_
  refine Ab<|Sq<|Sq (Rg [0] ?_)
  refine Vs 1<|Nt<|Cd ha (fun hb hc=>?_) (fun hb hd=>?_)
  ·cases hc
  ·refine Sc ?_
   refine Ab<|Sq<|Sq (Rg [0,1,2] ?_)
   refine Vs 3<|Nt<|Cd hd (fun he hf=>?_) (fun he hg=>?_)
   ·cases hf
   ·refine Sc ?_
    refine Ab<|Sq<|Sq (Rg [0,1,2] ?_)
    refine Vs 3<|Nt<|Cd hg (fun hh hl=>?_) (fun hh hm=>?_)
    ·cases hl
    ·refine Sc ?_
     refine Ab<|Sq (Rg [0] ?_)
     refine Vs 1<|Nt<|Rt ?_
     obtain rfl:=Aa hm
     exact Re [(vi 0)] h7 rfl

end Go.Proofs.YthljkpeimofbbaaGreatDoor

namespace Go.Proofs.YthljkpeimofbbaaGreatDoor
def isL (b:UInt8):Bool:=decide (65<=b.toNat)&&decide (b.toNat<=90)
def isD (b:UInt8):Bool:=decide (48<=b.toNat)&&decide (b.toNat<=57)
def isE (b:UInt8):Bool:=isL b||isD b
theorem Te {b:UInt8} (h:128<=b.toNat):isL b=false:=by unfold isL;simp;omega
theorem Tg {b:UInt8} (h:128<=b.toNat):isD b=false:=by unfold isD;simp;omega
theorem Vp {b:UInt8} (h:128<=b.toNat):isE b=false:=by unfold isE;rw [Te h,Tg h];rfl
theorem OS {b:UInt8} (h:isE b=true):b.toNat < 128:=by unfold isE isL isD at h;simp at h;omega
theorem Wg {b:UInt8} (h:isL b=true):isD b=false:=by unfold isL at h;unfold isD;simp at h ⊢;omega
theorem PH (N:Nat) (b:UInt8):BT N (b.toNat:Int)=some (isL b):=by
 unfold BT isL
 congr 2 <;> (rw [decide_eq_decide];omega)
theorem Ri (N:Nat) (b:UInt8):Bn N (b.toNat:Int)=some (isD b):=by
 unfold Bn isD
 congr 2 <;> (rw [decide_eq_decide];omega)
theorem Ka (N:Nat) {n:Nat} (h:128<=n):BT N (n:Int)=some false:=by
 unfold BT
 have:decide ((n:Int)<=90)=false:=by rw [decide_eq_false_iff_not];omega
 rw [this,Bool.and_false]
theorem Lt (N:Nat) {n:Nat} (h:128<=n):Bn N (n:Int)=some false:=by
 unfold Bn
 have:decide ((n:Int)<=57)=false:=by rw [decide_eq_false_iff_not];omega
 rw [this,Bool.and_false]
theorem SX (N:Nat) (b:UInt8):DJ N (b.toNat:Int)=some (isE b):=by
 unfold DJ isE
 rw [PH,Ri]
 cases isL b <;> rfl
theorem OK (N:Nat) {n:Nat} (h:128<=n):DJ N (n:Int)=some false:=by
 unfold DJ
 rw [Ka N h,Lt N h]
 rfl
theorem MU (N:Nat) (a b c:Int):Gf N a b c=some (decide (b<=a)&&decide (a<=c)):=rfl
structure Gi (p:Int->Option Bool) (P:UInt8->Bool):Prop where
 lo:∀ b:UInt8,b.toNat < 128->p (b.toNat:Int)=some (P b)
 hi:∀ n:Nat,128<=n->p (n:Int)=some false
 big:∀ b:UInt8,128<=b.toNat->P b=false
theorem SF (N:Nat):Gi (fun y0=>BT N y0) isL:=⟨fun b _=>PH N b,fun _ h=>Ka N h,fun _ h=>Te h⟩
theorem Q7 (N:Nat):Gi (fun y0=>Bn N y0) isD:=⟨fun b _=>Ri N b,fun _ h=>Lt N h,fun _ h=>Tg h⟩
theorem VR (N:Nat):Gi (fun y0=>DJ N y0) isE:=⟨fun b _=>SX N b,fun _ h=>OK N h,fun _ h=>Vp h⟩
theorem Gi.some {p:Int->Option Bool} {P:UInt8->Bool} (h:Gi p P) (n:Nat):(p (n:Int)).isSome=true:=by
 rcases Nat.lt_or_ge n 128 with h' | h'
 ·have:=h.lo (UInt8.ofNat n) (by rw [UInt8.toNat_ofNat'];omega)
  have e:(UInt8.ofNat n).toNat=n:=by rw [UInt8.toNat_ofNat'];omega
  rw [e] at this
  rw [this];rfl
 ·rw [h.hi n h'];rfl
theorem Gi.all {p:Int->Option Bool} {P:UInt8->Bool} (h:Gi p P):J5 p=true:=Ia.2 fun n _=>h.some n
theorem GT {p:Int->Option Bool} {P:UInt8->Bool} (hp:Gi p P) {N:Nat} (s:WR) (most:Int) (hN:s.length < N):
  Fk N s most p=some (s.all P&&(decide (1<=(s.length:Int))&&decide ((s.length:Int)<=most))):=by
 have key:=EE (body:=Fj N s most p) s.length (fun i (st:Nat)=>st=i/\(s.take i).all P=true)
  (fun o=>(s.all P=true/\o=.done s.length)\/(s.all P=false/\o=.ret false)) (by
   rintro i st hi ⟨rfl,hall⟩
   by_cases h:st < s.length
   ·have hget:s[st]? =some s[st]:=List.getElem?_eq_getElem h
    unfold Fj
    simp only [h,decide_true,cT]
    have htake:s.take (st + 1)=s.take st++[s[st]]:=by rw [List.take_add_one,hget];rfl
    have hfalse:P s[st]=false->s.all P=false:=fun hP=>by
     rw [List.all_eq_false];exact ⟨s[st],List.getElem_mem h,by rw [hP];simp⟩
    rcases Nat.lt_or_ge s[st].toNat 128 with hb | hb
    ·rw [MD hget hb,hp.lo _ hb]
     simp only [oS]
     cases hP:P s[st] with
     | true=>exact .inl ⟨st + 1,rfl,⟨rfl,by rw [htake,List.all_append,hall];simp [hP]⟩,trivial⟩
     | false=>exact .inr ⟨.ret false,rfl,(fun _ e=>by cases e),.inr ⟨hfalse hP,rfl⟩⟩
    ·have hs:=Qh hget hb
     rw [hp.hi _ hs.1]
     simp only [oS]
     exact .inr ⟨.ret false,rfl,(fun _ e=>by cases e),.inr ⟨hfalse (hp.big _ hb),rfl⟩⟩
   ·have:st=s.length:=by omega
    subst this
    unfold Fj
    simp only [Nat.lt_irrefl,decide_false,cF]
    exact .inr ⟨_,rfl,(fun _ e=>by cases e),.inl ⟨by simpa using hall,rfl⟩⟩) s.length N 0 0 (by omega) ⟨rfl,rfl⟩ hN
 obtain ⟨o,ho,hR⟩:=key
 unfold Fk
 rw [ho]
 rcases hR with ⟨h1,rfl⟩ | ⟨h1,rfl⟩
 ·simp only [oS,BF.k,MU,h1,Bool.true_and]
 ·simp only [oS,BF.k,h1,Bool.false_and]
theorem N9 {p:Int->Option Bool} {P:UInt8->Bool} (hp:Gi p P) {b:UInt8} (h:b.toNat < 128):Fo p b.toNat=P b:=by unfold Fo;rw [hp.lo b h];rfl
theorem Kk {p:Int->Option Bool} {P:UInt8->Bool} (hp:Gi p P) (s:WR) (ha:∀ b,b∈s->b.toNat < 128):∀ (f i:Nat),s.length<=i + f->i<=s.length->
  (0<=Go.Lib.idxFuncFrom (Fo p) true ⟨s.toArray⟩ f i ↔ (s.drop i).any P=true)
 | 0,i,h1,h2=>by
  have:i=s.length:=by omega
  subst this
  simp [Go.Lib.idxFuncFrom]
 | f + 1,i,h1,h2=>by
  unfold Go.Lib.idxFuncFrom
  have hsz:(⟨s.toArray⟩:ByteArray).size=s.length:=by simp [ByteArray.size]
  rw [hsz]
  by_cases h:i < s.length
  ·rw [if_pos h]
   have hget:s[i]? =some s[i]:=List.getElem?_eq_getElem h
   have hd:Utf8.decode ⟨s.toArray⟩ i=(s[i].toNat,1):=MD hget (ha _ (List.getElem_mem h))
   rw [hd]
   simp only
   rw [N9 hp (ha _ (List.getElem_mem h)),List.drop_eq_getElem_cons h,List.any_cons]
   cases hP:P s[i] with
   | true=>simp
   | false=>
    simp only [Bool.false_eq_true,if_false,Bool.false_or]
    exact Kk hp s ha f (i + 1) (by omega) (by omega)
  ·have:i=s.length:=by omega
   subst this
   simp
theorem R7 {p:Int->Option Bool} {P:UInt8->Bool} (hp:Gi p P) {N:Nat} (s:WR) (ha:∀ b,b∈s->b.toNat < 128):∃ r,Cn N s p=some r/\decide (r>=0)=s.any P:=by
 refine ⟨_,by unfold Cn;rw [if_pos hp.all],?_⟩
 have:=Kk hp s ha s.length 0 (by omega) (by omega)
 have hsz:(⟨s.toArray⟩:ByteArray).size=s.length:=by simp [ByteArray.size]
 unfold Go.Lib.idxFunc
 rw [hsz]
 rw [List.drop_zero] at this
 cases hs:s.any P with
 | true=>rw [hs] at this;exact decide_eq_true (this.2 rfl)
 | false=>
  rw [hs] at this
  exact decide_eq_false fun h=>by have:=this.1 h;cases this
def NN:WR->Nat
 | []=>0
 | b::r=>if isD b then r.length + 1 else NN r
def Cf (s:WR):Nat:=NN s.reverse
theorem PX:Cf []=0:=rfl
theorem Sa (l:WR) (b:UInt8):Cf (l++[b])=if isD b then l.length + 1 else Cf l:=by
 unfold Cf
 rw [List.reverse_append]
 simp [NN]
theorem O0:∀ l:WR,NN l<=l.length
 | []=>Nat.le_refl _
 | b::r=>by
  unfold NN
  split
  ·exact Nat.le_refl _
  ·exact Nat.le_succ_of_le (O0 r)
theorem UC (s:WR):Cf s<=s.length:=by unfold Cf;have:=O0 s.reverse;simpa using this
theorem Ok:∀ l:WR,∀ b,b∈l.take (l.length - NN l)->isD b=false
 | [],b,h=>by simp at h
 | c::r,b,h=>by
  unfold NN at h
  split at h
  ·simp at h
  ·rename_i hc
   have hc':isD c=false:=by simpa using hc
   have:=O0 r
   rw [show (c::r).length - NN r=(r.length - NN r) + 1 by simp;omega,List.take_succ_cons] at h
   rcases List.mem_cons.1 h with rfl | h
   ·exact hc'
   ·exact Ok r b h
theorem Sb (s:WR):∀ b,b∈s.drop (Cf s)->isD b=false:=by
 intro b hb
 have h:=Ok s.reverse b
 have e:s.reverse.take (s.reverse.length - NN s.reverse)=(s.drop (Cf s)).reverse:=by
  rw [List.reverse_drop,List.length_reverse];rfl
 rw [e] at h
 exact h (by simpa using hb)
theorem Jp (N:Nat) (s:WR) (ha:∀ b,b∈s->b.toNat < 128):∀ (f i:Nat),i<=f->i<=s.length->
  Go.Lib.lastIdxFuncFrom (Fo fun y0=>Bn N y0) true ⟨s.toArray⟩ f i + 1=(Cf (s.take i):Int)
 | 0,i,h1,h2=>by
  have:i=0:=by omega
  subst this
  simp [Go.Lib.lastIdxFuncFrom,PX]
 | f + 1,0,h1,h2=>by simp [Go.Lib.lastIdxFuncFrom,PX]
 | f + 1,i + 1,h1,h2=>by
  unfold Go.Lib.lastIdxFuncFrom
  rw [if_pos (Nat.succ_pos i)]
  have h:i < s.length:=by omega
  have htake:s.take (i + 1)=s.take i++[s[i]]:=by rw [List.take_add_one,List.getElem?_eq_getElem h];rfl
  have hb:=ha _ (List.getElem_mem h)
  have hdl:Go.Lib.decodeLastL (s.take (i + 1))=(s[i].toNat,1):=by
   unfold Go.Lib.decodeLastL
   rw [if_neg (fun e=>by have h9:=congrArg List.length e;rw [List.length_take,List.length_nil] at h9;omega)]
   have hlen:(s.take (i + 1)).length - 1=i:=by rw [List.length_take];omega
   have hg:(s.take (i + 1)).getD i 0=s[i]:=by
    rw [List.getD_eq_getElem?_getD,List.getElem?_take,if_pos (by omega),List.getElem?_eq_getElem h];rfl
   rw [hlen,hg,if_pos hb]
  simp only [List.toList_toArray] at *
  rw [hdl]
  simp only
  rw [N9 (Q7 N) hb,htake,Sa]
  cases hP:isD s[i] with
  | true=>
   simp only [if_true]
   rw [List.length_take,Nat.min_eq_left (by omega)]
   simp
  | false=>
   simp only [Bool.false_eq_true,if_false]
   rw [show i + 1 - 1=i by omega]
   exact Jp N s ha f i (by omega) (by omega)
theorem Gj (i:Nat) (h:i < 4611686018427387904):W64 ((i:Int) + 1)=((i + 1:Nat):Int):=by
 rw [DY (by omega) (by omega)];omega
def pcs (c:UInt8):WR->List WR
 | []=>[[]]
 | b::s=>if b=c then []::pcs c s else match pcs c s with
  | p::r=>(b::p)::r
  | []=>[[b]]
theorem Hf (c:UInt8):∀ s,pcs c s≠[]
 | []=>by simp [pcs]
 | b::s=>by
  unfold pcs
  split
  ·simp
  ·split <;> simp
theorem Fc {c:UInt8}:∀ {a:WR},c∉a->pcs c a=[a]
 | [],_=>rfl
 | b::s,h=>by
  have h1:¬ b=c:=fun e=>h (by rw [e];exact List.mem_cons_self)
  have h2:c∉s:=fun hm=>h (List.mem_cons_of_mem _ hm)
  unfold pcs
  rw [if_neg h1,Fc h2]
theorem Gr {c:UInt8}:∀ {a t:WR},c∉a->pcs c (a++c::t)=a::pcs c t
 | [],t,_=>by simp [pcs]
 | b::s,t,h=>by
  have h1:¬ b=c:=fun e=>h (by rw [e];exact List.mem_cons_self)
  have h2:c∉s:=fun hm=>h (List.mem_cons_of_mem _ hm)
  rw [List.cons_append]
  conv=>lhs;unfold pcs
  rw [if_neg h1,Gr h2]
theorem Q9 (c:UInt8):∀ s,(pcs c s).length=s.count c + 1
 | []=>rfl
 | b::s=>by
  have:=Q9 c s
  unfold pcs
  by_cases h:b=c
  ·rw [if_pos h,List.length_cons,this,h];simp
  ·rw [if_neg h,List.count_cons_of_ne (by simpa using h)]
   cases hp:pcs c s with
   | nil=>exact absurd hp (Hf c s)
   | cons p r=>rw [hp] at this;simpa using this
theorem MO (c:UInt8):∀ s,[c].intercalate (pcs c s)=s
 | []=>rfl
 | b::s=>by
  have ih:=MO c s
  unfold pcs
  by_cases h:b=c
  ·rw [if_pos h]
   cases hp:pcs c s with
   | nil=>exact absurd hp (Hf c s)
   | cons p r=>
    rw [hp] at ih
    subst h
    simp only [List.intercalate] at ih ⊢
    simp only [List.intersperse_cons_cons,List.flatten_cons,List.nil_append,List.cons_append]
    rw [ih]
  ·rw [if_neg h]
   cases hp:pcs c s with
   | nil=>exact absurd hp (Hf c s)
   | cons p r=>
    rw [hp] at ih
    simp only
    cases r with
    | nil=>simp [List.intercalate] at ih ⊢;exact ih
    | cons q r=>
     simp only [List.intercalate,List.intersperse_cons_cons,List.flatten_cons,List.cons_append] at ih ⊢
     rw [ih]
theorem Ew {c:UInt8}:∀ {s:WR},c∈s->∃ a t,s=a++c::t/\c∉a
 | b::s,h=>by
  by_cases hb:b=c
  ·exact ⟨[],s,by rw [hb];rfl,by simp⟩
  ·rcases List.mem_cons.1 h with e | h
   ·exact absurd e.symm hb
   ·obtain ⟨a,t,h1,h2⟩:=Ew h
    exact ⟨b::a,t,by rw [h1];rfl,fun hm=>by
     rcases List.mem_cons.1 hm with e | hm
     ·exact hb e.symm
     ·exact h2 hm⟩
theorem Ik {c:UInt8}:∀ {s:WR},c∉s->Go.Lib.index s [c]= -1
 | [],_=>rfl
 | b::s,h=>by
  have h1:¬ c=b:=fun e=>h (by rw [e];exact List.mem_cons_self)
  have h2:c∉s:=fun hm=>h (List.mem_cons_of_mem _ hm)
  unfold Go.Lib.index
  rw [if_neg (by simp [List.isPrefixOf];exact h1),Ik h2]
  rfl
theorem Ij {c:UInt8}:∀ {a t:WR},c∉a->Go.Lib.index (a++c::t) [c]=(a.length:Int)
 | [],t,_=>by
  show Go.Lib.index (c::t) [c]=0
  unfold Go.Lib.index
  rw [if_pos (by simp [List.isPrefixOf])]
 | b::s,t,h=>by
  have h1:¬ c=b:=fun e=>h (by rw [e];exact List.mem_cons_self)
  have h2:c∉s:=fun hm=>h (List.mem_cons_of_mem _ hm)
  rw [List.cons_append]
  unfold Go.Lib.index
  rw [if_neg (by simp [List.isPrefixOf];exact h1),Ij h2,if_neg (by simp <;> omega)]
  simp
theorem MB {c:UInt8}:∀ (n f:Nat) (s:WR),s.length<=n->s.length < f->Go.Lib.splitK [c] 0 (Go.Lib.countFrom [c] f s) s=pcs c s
 | _,0,s,_,h=>by omega
 | n,f + 1,s,h1,h2=>by
  by_cases hc:c∈s
  ·obtain ⟨a,t,rfl,ha⟩:=Ew hc
   have hi:=Ij (t:=t) ha
   unfold Go.Lib.countFrom
   rw [hi,if_neg (by simp <;> omega),Nat.add_comm 1]
   unfold Go.Lib.splitK
   rw [hi,if_neg (by simp <;> omega)]
   have hdrop:(a++c::t).drop (((a.length:Int)).toNat + [c].length)=t:=by
    simp
   have htake:(a++c::t).take (((a.length:Int)).toNat + 0)=a:=by simp
   rw [hdrop,htake,Gr ha]
   have hl:t.length < n:=by simp at h1;omega
   obtain ⟨n',rfl⟩:∃ n',n=n' + 1:=⟨n - 1,by omega⟩
   rw [MB n' f t (by omega) (by simp at h2;omega)]
  ·rw [Fc hc]
   unfold Go.Lib.countFrom
   rw [Ik hc,if_pos (by simp)]
   rfl
theorem Pn (c:UInt8) (s:WR):Ov s [c]=pcs c s:=by
 unfold Ov
 rw [Go.Lib.splitB_data]
 have:Go.Lib.countB ⟨s.toArray⟩ ⟨[c].toArray⟩=Go.Lib.countFrom [c] (s.length + 1) s:=by
  rfl
 rw [this]
 exact MB s.length (s.length + 1) s (Nat.le_refl _) (Nat.lt_succ_self _)
theorem Kc {N:Nat} {s:WR} (c:UInt8) (h:s.length < 4294967281):strings_Split N s [c]=some (pcs c s):=by
 unfold strings_Split
 rw [if_pos ⟨h,by simp⟩,Pn]
theorem Nl {c:UInt8} {s:WR} (h:c∉s):Go.Lib.cut s [c]=(s,[],false):=by
 unfold Go.Lib.cut
 rw [Ik h,if_neg (by decide)]
theorem Nk {c:UInt8} {a t:WR} (h:c∉a):Go.Lib.cut (a++c::t) [c]=(a,t,true):=by
 unfold Go.Lib.cut
 rw [Ij h,if_pos (by omega)]
 simp only [Int.toNat_natCast,List.length_singleton]
 rw [List.drop_append]
 simp
section
variable {N : Nat} {s : WR}
theorem ET {i n:Nat} (h:i < n):decide ((i:Int) < (n:Int))=true:=decide_eq_true (by omega)
theorem Ez {n:Nat}:decide ((n:Int) < (n:Int))=false:=decide_eq_false (by omega)
def wiB (n lo hi:Nat):Bool:=decide (lo<=n)&&decide (n<=hi)
def C6 (s:WR):Bool:=s.all isE&&wiB s.length 1 4&&s.any isL
def Bq (s:WR):Bool:=s.all isE&&wiB (Cf s) 1 4&&(s.take (Cf s)).any isL&&wiB (s.length - Cf s) 1 4
def BV (s:WR):Bool:=(s.all isL&&wiB s.length 1 4)||(s.all isD&&wiB s.length 1 1)
theorem Ha (n lo hi:Nat):(decide (((lo:Nat):Int)<=(n:Int))&&decide ((n:Int)<=((hi:Nat):Int)))=wiB n lo hi:=by
 unfold wiB
 congr 1 <;> (rw [decide_eq_decide];omega)
theorem w14 (n:Nat):(decide ((1:Int)<=(n:Int))&&decide ((n:Int)<=(4:Int)))=wiB n 1 4:=Ha n 1 4
theorem w11 (n:Nat):(decide ((1:Int)<=(n:Int))&&decide ((n:Int)<=(1:Int)))=wiB n 1 1:=Ha n 1 1
theorem Qz (hs:s.length < 4611686018427387904) (hN:s.length < N):Fl N s=some (C6 s):=by
 unfold Fl C6
 rw [GT (VR N) s 4 hN,oS,w14]
 cases h:(s.all isE&&wiB s.length 1 4) with
 | false=>rfl
 | true=>
  rw [Bool.and_eq_true] at h
  obtain ⟨r,h1,h2⟩:=R7 (N:=N) (SF N) s (fun b hb=>OS (List.all_eq_true.1 h.1 b hb))
  rw [cT,h1,oS,h2]
  rfl
theorem PG (hs:s.length < 4611686018427387904) (hN:s.length < N):Ek N s=some (BV s):=by
 unfold Ek BV
 rw [GT (SF N) s 4 hN,GT (Q7 N) s 1 hN,w14,w11]
 cases s.all isL&&wiB s.length 1 4 <;> rfl
theorem P6 (s:WR):s.all isL=(s.all isE&& !s.any isD):=by
 induction s with
 | nil=>rfl
 | cons b s ih=>
  simp only [List.all_cons,List.any_cons,ih,isE]
  cases hL:isL b with
  | true=>rw [Wg hL];simp
  | false=>cases isD b <;> cases s.all isE <;> cases s.any isD <;> rfl
theorem S9 (p:Nat->Bool) (tr:Bool) (s:WR):∀ (f i:Nat),i<=s.length->Go.Lib.lastIdxFuncFrom p tr ⟨s.toArray⟩ f i= -1\/(0<=Go.Lib.lastIdxFuncFrom p tr ⟨s.toArray⟩ f i/\Go.Lib.lastIdxFuncFrom p tr ⟨s.toArray⟩ f i < (i:Int))
 | 0,_,_=>.inl rfl
 | f + 1,i,hi=>by
  unfold Go.Lib.lastIdxFuncFrom
  split
  ·rename_i h0
   have hw:=Go.Lib.decodeLastL_width (s.take i) (by rw [List.length_take];omega)
   simp only [List.toList_toArray] at *
   split
   ·exact .inr ⟨by omega,by omega⟩
   ·rcases S9 p tr s f (i - (Go.Lib.decodeLastL (s.take i)).2) (by omega) with h | h
    ·exact .inl h
    ·exact .inr ⟨h.1,by omega⟩
  ·exact .inl rfl
theorem Vk (hs:s.length < 4611686018427387904) (hN:s.length < N):∃ x y,KH N s=some (x,y,Bq s)/\(Bq s=true->x=s.take (Cf s)/\y=s.drop (Cf s)):=by
 have hr:∃ k:Nat,BO N s (fun y0=>Bn N y0)=some ((k:Int) - 1)/\k<=s.length/\((∀ b,b∈s->b.toNat < 128)->k=Cf s):=by
  have hsz:(⟨s.toArray⟩:ByteArray).size=s.length:=by simp [ByteArray.size]
  have e:BO N s (fun y0=>Bn N y0)=some (Go.Lib.lastIdxFunc (Fo fun y0=>Bn N y0) true ⟨s.toArray⟩):=by
   unfold BO Ce
   rw [if_pos ⟨(Q7 N).all,by omega⟩]
   rfl
  rw [e]
  unfold Go.Lib.lastIdxFunc
  rw [hsz]
  have hrange:=S9 (Fo fun y0=>Bn N y0) true s s.length s.length (Nat.le_refl _)
  refine ⟨(Go.Lib.lastIdxFuncFrom (Fo fun y0=>Bn N y0) true ⟨s.toArray⟩ s.length s.length + 1).toNat,?_,?_,fun ha=>?_⟩
  ·exact congrArg some (by rcases hrange with h | ⟨h,_⟩ <;> omega)
  ·rcases hrange with h | ⟨h1,h2⟩
   ·omega
   ·omega
  ·have:=Jp N s ha s.length s.length (Nat.le_refl _) (Nat.le_refl _)
   rw [List.take_length] at this
   omega
 obtain ⟨k,h1,h2,h3⟩:=hr
 have e1:W64 ((k:Int) - 1 + 1)=(k:Int):=by rw [DY (by omega) (by omega)];omega
 have e2:Mz s 0 (k:Int)=some (s.take k):=by
  have:=Pm (a:=s) (lo:=0) (hi:=k) (Nat.zero_le _) h2
  simpa using this
 have e3:Mz s (k:Int) (s.length:Int)=some (s.drop k):=by
  rw [Pm h2 (Nat.le_refl _),List.take_of_length_le (by simp)]
 have e4:=Qz (N:=N) (s:=s.take k) (by rw [List.length_take];omega) (by rw [List.length_take];omega)
 have e5:=GT (SF N) (s.drop k) 4 (N:=N) (by rw [List.length_drop];omega)
 refine ⟨s.take k,s.drop k,?_,?_⟩
 ·unfold KH
  rw [h1,oS,e1,e2,oS,e3,oS,oS,e4,oS,e5,w14]
  have hbase:(decide ((k:Int) > 0)&&(C6 (s.take k)&&((s.drop k).all isL&&wiB (s.drop k).length 1 4)))=Bq s:=by
   by_cases ha:s.all isE=true
   ·have hk:k=Cf s:=h3 fun b hb=>OS (List.all_eq_true.1 ha b hb)
    subst hk
    have hle:=UC s
    have e6:(s.take (Cf s)).all isE=true:=List.all_eq_true.2 fun b hb=>List.all_eq_true.1 ha b (List.mem_of_mem_take hb)
    have e7:(s.drop (Cf s)).all isL=true:=by
     rw [P6]
     rw [Bool.and_eq_true]
     refine ⟨List.all_eq_true.2 fun b hb=>List.all_eq_true.1 ha b (List.mem_of_mem_drop hb),?_⟩
     rw [Bool.not_eq_true',List.any_eq_false]
     intro b hb
     rw [Sb s b hb];simp
    unfold C6 Bq
    rw [ha,e6,e7,List.length_take,Nat.min_eq_left hle,List.length_drop]
    have e8:(decide ((Cf s:Int) > 0)&&wiB (Cf s) 1 4)=wiB (Cf s) 1 4:=by
     unfold wiB
     cases hd:decide (1<=Cf s) with
     | false=>simp
     | true=>rw [decide_eq_true (by have:=of_decide_eq_true hd;omega)];rfl
    rw [<-e8]
    cases decide ((Cf s:Int) > 0) <;> cases wiB (Cf s) 1 4 <;> cases (s.take (Cf s)).any isL <;> rfl
   ·have ha':s.all isE=false:=by simpa using ha
    unfold C6 Bq
    rw [ha']
    have e9:(s.take k).all isE=false\/(s.drop k).all isL=false:=by
     rw [<-List.take_append_drop k s,List.all_append] at ha'
     cases h5:(s.take k).all isE with
     | false=>exact .inl rfl
     | true=>
      right
      rw [h5,Bool.true_and] at ha'
      rw [P6,ha']
      rfl
    rcases e9 with e9 | e9 <;> rw [e9] <;> simp
  rw [<-hbase]
  cases decide ((k:Int) > 0) <;> cases C6 (s.take k) <;> rfl
 ·intro hb
  have ha:s.all isE=true:=by
   unfold Bq at hb
   simp only [Bool.and_eq_true] at hb
   exact hb.1.1.1
  rw [h3 fun b hb=>OS (List.all_eq_true.1 ha b hb)]
  exact ⟨rfl,rfl⟩
end
theorem QD {α ρ τ:Type} {body:Int->Option (BF ρ Int)} {l:List α} (f:α->Option ρ) (hb:∀ i (h:i < l.length),body (i:Int)=some ((f l[i]).elim (.next ((i + 1:Nat):Int)) .ret))
  (he:body (l.length:Int)=some (.done (l.length:Int))) {N:Nat} (hN:l.length < N) (fd:Int->Option τ) (fr:ρ->Option τ):((AX body N 0).bind fun o=>o.k fr fd)=(l.findSome? f).elim (fd l.length) fr:=by
 obtain ⟨o,ho,hR⟩:=EE (body:=body) l.length (fun i s=>s=(i:Int)/\l.findSome? f=(l.drop i).findSome? f) (fun o=>(l.findSome? f=none/\o=.done (l.length:Int))\/ ∃ r,l.findSome? f=some r/\o=.ret r) (by
  rintro i s hi ⟨rfl,hk⟩
  by_cases h:i < l.length
  ·rw [hb i h]
   rw [List.drop_eq_getElem_cons h,List.findSome?_cons] at hk
   cases e:f l[i] with
   | some r=>rw [e] at hk;exact .inr ⟨_,rfl,(fun _ h=>by cases h),.inr ⟨r,hk,rfl⟩⟩
   | none=>rw [e] at hk;exact .inl ⟨_,rfl,⟨rfl,hk⟩,h⟩
  ·have:i=l.length:=by omega
   subst this
   rw [he]
   rw [List.drop_length] at hk
   exact .inr ⟨_,rfl,(fun _ h=>by cases h),.inl ⟨hk,rfl⟩⟩) l.length N 0 0 (by omega) ⟨rfl,by rw [List.drop_zero]⟩ hN
 rw [ho]
 rcases hR with ⟨h1,rfl⟩ | ⟨r,h1,rfl⟩ <;> rw [h1] <;> rfl
theorem Qv (c:UInt8):∀ s p,p∈pcs c s->p.length<=s.length
 | [],p,h=>by simp [pcs] at h;subst h;simp
 | b::s,p,h=>by
  have ih:=Qv c s
  unfold pcs at h
  by_cases hb:b=c
  ·rw [if_pos hb] at h
   rcases List.mem_cons.1 h with rfl | h
   ·simp
   ·exact Nat.le_succ_of_le (ih p h)
  ·rw [if_neg hb] at h
   cases hp:pcs c s with
   | nil=>exact absurd hp (Hf c s)
   | cons q r=>
    rw [hp] at h ih
    simp only at h
    rcases List.mem_cons.1 h with rfl | h
    ·exact Nat.succ_le_succ (ih q List.mem_cons_self)
    ·exact Nat.le_succ_of_le (ih p (List.mem_cons_of_mem _ h))
def zp:Bl:={Area:=[],Prefix:=[],Suffix:=[],Stroke:=[]}
abbrev Tri:=WR×WR×WR
def JY (ws:List WR):Option Tri:=match ws with
 | [w]=>if Bq w then some ([],w,[]) else none
 | [a,b]=>if C6 a&&Bq b&&decide (a.length < b.length) then some (a,b,[]) else if Bq a&&BV b then some ([],a,b) else none
 | [a,b,c]=>if C6 a&&Bq b&&BV c then some (a,b,c) else none
 | _=>none
def callB (s:WR):Option Tri:=if s.length<=16 then JY (pcs 47 s) else none
def Rb (t:Tri):Bl:={Area:=t.1,Prefix:=t.2.1.take (Cf t.2.1),Suffix:=t.2.1.drop (Cf t.2.1),Stroke:=t.2.2}
def Qe (s:WR):Bl×Bool:=match callB s with
 | some t=>(Rb t,true)
 | none=>(zp,false)
section
variable {N : Nat}
theorem Kb {w:WR} (hs:w.length < 4611686018427387904) (hN:w.length < N):∃ x y,Az N w=some ({Area:=[],Prefix:=x,Suffix:=y,Stroke:=[]},Bq w)/\(Bq w=true->x=w.take (Cf w)/\y=w.drop (Cf w)):=by
 obtain ⟨x,y,h1,h2⟩:=Vk hs hN
 exact ⟨x,y,by unfold Az;rw [h1];rfl,h2⟩
theorem VF {w:WR} {z0:WR->Option (Bl×Bool)} {p:Bl} {ok:Bool} (h1:z0 w=some (p,ok)):DI N [w] z0=some (p,ok):=by
 unfold DI
 have i0:idx [w] 0=some w:=rfl
 simp only [i0,oS,h1]
theorem VE {a b:WR} {z0:WR->Option (Bl×Bool)} {x y u v:WR} {A ok:Bool} (h1:z0 b=some ({Area:=u,Prefix:=x,Suffix:=y,Stroke:=v},ok)) (h3:Fl N a=some A):DH N [a,b] z0=some ({Area:=a,Prefix:=x,Suffix:=y,Stroke:=v},ok&&A&&decide (a.length < b.length)):=by
 unfold DH
 have e:decide ((a.length:Int) < (b.length:Int))=decide (a.length < b.length):=by rw [decide_eq_decide];omega
 have i0:idx [a,b] 0=some a:=rfl
 have i1:idx [a,b] 1=some b:=rfl
 rw [i0,i1]
 simp only [oS,h1,h3]
 clear h1 h3
 rw [e]
 generalize decide (a.length < b.length)=D
 cases ok <;> cases A <;> rfl
theorem VD {a b:WR} {z0:WR->Option (Bl×Bool)} {x y u v:WR} {A ok:Bool} (h1:z0 a=some ({Area:=u,Prefix:=x,Suffix:=y,Stroke:=v},ok)) (h3:Ek N b=some A):DG N [a,b] z0=some ({Area:=u,Prefix:=x,Suffix:=y,Stroke:=b},ok&&A):=by
 unfold DG
 have i0:idx [a,b] 0=some a:=rfl
 have i1:idx [a,b] 1=some b:=rfl
 rw [i0,i1]
 simp only [oS,h1,h3]
 clear h1 h3
 cases ok <;> cases A <;> rfl
theorem VC {a b c:WR} {z0:WR->Option (Bl×Bool)} {x y u v:WR} {A B ok:Bool} (h1:z0 b=some ({Area:=u,Prefix:=x,Suffix:=y,Stroke:=v},ok)) (h3:Fl N a=some A) (h4:Ek N c=some B):DF N [a,b,c] z0=some ({Area:=a,Prefix:=x,Suffix:=y,Stroke:=c},ok&&A&&B):=by
 unfold DF
 have i0:idx [a,b,c] 0=some a:=rfl
 have i1:idx [a,b,c] 1=some b:=rfl
 have i2:idx [a,b,c] 2=some c:=rfl
 rw [i0,i1,i2]
 simp only [oS,h1,h3,h4]
 clear h1 h3 h4
 cases ok <;> cases A <;> cases B <;> rfl
theorem Ul {w:WR} (hs:w.length<=16) (hN:16 < N):∃ x y,DI N [w] (fun y0=>Az N y0)=some ({Area:=[],Prefix:=x,Suffix:=y,Stroke:=[]},Bq w)/\(Bq w=true->x=w.take (Cf w)/\y=w.drop (Cf w)):=by
 obtain ⟨x,y,h1,h2⟩:=Kb (w:=w) (N:=N) (by omega) (by omega)
 exact ⟨x,y,VF (z0:=fun y0=>Az N y0) h1,h2⟩
theorem Uk {a b:WR} (ha:a.length<=16) (hb:b.length<=16) (hN:16 < N):∃ x y,DH N [a,b] (fun y0=>Az N y0)=some ({Area:=a,Prefix:=x,Suffix:=y,Stroke:=[]},Bq b&&C6 a&&decide (a.length < b.length))/\(Bq b=true->x=b.take (Cf b)/\y=b.drop (Cf b)):=by
 obtain ⟨x,y,h1,h2⟩:=Kb (w:=b) (N:=N) (by omega) (by omega)
 exact ⟨x,y,VE (z0:=fun y0=>Az N y0) h1 (Qz (N:=N) (s:=a) (by omega) (by omega)),h2⟩
theorem Uj {a b:WR} (ha:a.length<=16) (hb:b.length<=16) (hN:16 < N):∃ x y,DG N [a,b] (fun y0=>Az N y0)=some ({Area:=[],Prefix:=x,Suffix:=y,Stroke:=b},Bq a&&BV b)/\(Bq a=true->x=a.take (Cf a)/\y=a.drop (Cf a)):=by
 obtain ⟨x,y,h1,h2⟩:=Kb (w:=a) (N:=N) (by omega) (by omega)
 exact ⟨x,y,VD (z0:=fun y0=>Az N y0) h1 (PG (N:=N) (s:=b) (by omega) (by omega)),h2⟩
theorem Ui {a b c:WR} (ha:a.length<=16) (hb:b.length<=16) (hc:c.length<=16) (hN:16 < N):∃ x y,DF N [a,b,c] (fun y0=>Az N y0)=some ({Area:=a,Prefix:=x,Suffix:=y,Stroke:=c},Bq b&&C6 a&&BV c)/\(Bq b=true->x=b.take (Cf b)/\y=b.drop (Cf b)):=by
 obtain ⟨x,y,h1,h2⟩:=Kb (w:=b) (N:=N) (by omega) (by omega)
 exact ⟨x,y,VC (z0:=fun y0=>Az N y0) h1 (Qz (N:=N) (s:=a) (by omega) (by omega)) (PG (N:=N) (s:=c) (by omega) (by omega)),h2⟩
def P9 (ws:List WR) (fm:BJ):Option (Bl×Bool):=if fm.words_=(ws.length:Int) then match fm.split_ ws with
 | some (p,true)=>some (p,true)
 | _=>none
 else none
theorem Qd {s:WR} {ws:List WR} (hle:∀ w,w∈ws->w.length<=16) (hN:4 < N) (f2 f3 f4 f5:List WR->Option (Bl×Bool))
  (H2:∀ w:WR,w.length<=16->∃ x y,f2 [w]=some ({Area:=[],Prefix:=x,Suffix:=y,Stroke:=[]},Bq w)/\(Bq w=true->x=w.take (Cf w)/\y=w.drop (Cf w)))
  (H3:∀ a b:WR,a.length<=16->b.length<=16->∃ x y,f3 [a,b]=some ({Area:=a,Prefix:=x,Suffix:=y,Stroke:=[]},Bq b&&C6 a&&decide (a.length < b.length))/\(Bq b=true->x=b.take (Cf b)/\y=b.drop (Cf b)))
  (H4:∀ a b:WR,a.length<=16->b.length<=16->∃ x y,f4 [a,b]=some ({Area:=[],Prefix:=x,Suffix:=y,Stroke:=b},Bq a&&BV b)/\(Bq a=true->x=a.take (Cf a)/\y=a.drop (Cf a)))
  (H5:∀ a b c:WR,a.length<=16->b.length<=16->c.length<=16->∃ x y,f5 [a,b,c]=some ({Area:=a,Prefix:=x,Suffix:=y,Stroke:=c},Bq b&&C6 a&&BV c)/\(Bq b=true->x=b.take (Cf b)/\y=b.drop (Cf b))):
  ((AX (CZ N s ws [({words_:=1,split_:=f2}:BJ),{words_:=2,split_:=f3},{words_:=2,split_:=f4},{words_:=3,split_:=f5}]) N 0).bind fun o=>o.k (fun r=>some r) (fun _=>some (zp,false)))=some (match JY ws with | some t=>(Rb t,true) | none=>(zp,false)):=by
 generalize hF:([_,_,_,_]:List BJ)=F
 have htot:∀ fm,fm∈F->fm.words_=(ws.length:Int)->∃ r,fm.split_ ws=some r:=by
  subst hF
  intro fm hfm hw
  simp only [List.mem_cons,List.not_mem_nil,or_false] at hfm
  rcases hfm with rfl | rfl | rfl | rfl <;> simp only at hw ⊢
  ·match ws,hw with
   | [w],_=>obtain ⟨_,_,h,_⟩:=H2 w (hle w (by simp));exact ⟨_,h⟩
  ·match ws,hw with
   | [a,b],_=>obtain ⟨_,_,h,_⟩:=H3 a b (hle a (by simp)) (hle b (by simp));exact ⟨_,h⟩
  ·match ws,hw with
   | [a,b],_=>obtain ⟨_,_,h,_⟩:=H4 a b (hle a (by simp)) (hle b (by simp));exact ⟨_,h⟩
  ·match ws,hw with
   | [a,b,c],_=>obtain ⟨_,_,h,_⟩:=H5 a b c (hle a (by simp)) (hle b (by simp)) (hle c (by simp));exact ⟨_,h⟩
 have hlen:F.length=4:=by subst hF;rfl
 have hb:∀ i (h:i < F.length),CZ N s ws F (i:Int)=some ((P9 ws F[i]).elim (.next ((i + 1:Nat):Int)) .ret):=by
  intro i h
  unfold CZ
  have hi:idx F (i:Int)=some F[i]:=by unfold idx;rw [if_pos (by omega)];simp [h]
  rw [ET h,cT,hi,oS,Gj i (by omega)]
  have htt:=htot _ (List.getElem_mem h)
  generalize F[i]=fm at htt
  unfold P9
  by_cases hw:fm.words_=(ws.length:Int)
  ·obtain ⟨⟨p,ok⟩,hr⟩:=htt hw
   rw [if_pos hw,show (fm.words_ !=(ws.length:Int))=false by simp [hw],cF,hr]
   cases ok <;> rfl
  ·rw [if_neg hw,show (fm.words_ !=(ws.length:Int))=true by simp [hw],cT]
   rfl
 have he:CZ N s ws F (F.length:Int)=some (.done (F.length:Int)):=by
  unfold CZ
  rw [Ez,cF]
 rw [QD (l:=F) (P9 ws) hb he (by omega)]
 subst hF
 match ws,hle with
 | [],_=>rfl
 | [w],hle=>
  obtain ⟨x,y,h1,h2⟩:=H2 w (hle w (by simp))
  unfold JY
  have e:(([w]:List WR).length:Int)=1:=rfl
  simp only [List.findSome?_cons,List.findSome?_nil,P9,e,h1]
  cases hB:Bq w with
  | false=>rfl
  | true=>obtain ⟨rfl,rfl⟩:=h2 hB;rfl
 | [a,b],hle=>
  have ha:=hle a (by simp)
  have hb:=hle b (by simp)
  obtain ⟨x,y,h1,h2⟩:=H3 a b ha hb
  obtain ⟨x',y',h3,h4⟩:=H4 a b ha hb
  unfold JY
  have e:(([a,b]:List WR).length:Int)=2:=rfl
  simp only [List.findSome?_cons,List.findSome?_nil,P9,e,h1,h3]
  clear h1 h3 H2 H3 H4 H5 htot hlen hb he
  generalize decide (a.length < b.length)=D
  generalize C6 a=A
  generalize BV b=S
  cases hB:Bq b with
  | false=>
   cases hA:Bq a with
   | false=>cases A <;> cases D <;> rfl
   | true=>
    obtain ⟨rfl,rfl⟩:=h4 hA
    cases A <;> cases D <;> cases S <;> rfl
  | true=>
   obtain ⟨rfl,rfl⟩:=h2 hB
   cases hA:Bq a with
   | false=>cases A <;> cases D <;> rfl
   | true=>
    obtain ⟨rfl,rfl⟩:=h4 hA
    cases A <;> cases D <;> cases S <;> rfl
 | [a,b,c],hle=>
  have ha:=hle a (by simp)
  have hb:=hle b (by simp)
  have hc:=hle c (by simp)
  obtain ⟨x,y,h1,h2⟩:=H5 a b c ha hb hc
  unfold JY
  have e:(([a,b,c]:List WR).length:Int)=3:=rfl
  simp only [List.findSome?_cons,List.findSome?_nil,P9,e,h1]
  clear h1 H2 H3 H4 H5 htot hlen hb he
  generalize C6 a=A
  generalize BV c=S
  cases hB:Bq b with
  | false=>cases A <;> cases S <;> rfl
  | true=>
   obtain ⟨rfl,rfl⟩:=h2 hB
   cases A <;> cases S <;> rfl
 | a::b::c::d::t,_=>
  unfold JY
  have e:∀ k:Int,k<=3->¬ k=((a::b::c::d::t).length:Int):=by intro k hk;simp only [List.length_cons];omega
  simp only [List.findSome?_cons,List.findSome?_nil,P9,if_neg (e 1 (by decide)),if_neg (e 2 (by decide)),if_neg (e 3 (by decide))]
  rfl
theorem Ue (s:WR) (hN:4294967300 < N):I4 N s=some (Qe s):=by
 unfold I4 Qe callB
 by_cases hl:s.length<=16
 ·rw [decide_eq_false (by omega),cF,if_pos hl,Kc 47 (by omega),oS]
  have hle:=Qv 47 s
  generalize pcs 47 s=ws at hle
  unfold Le
  rw [oS]
  exact Qd (fun w h=>Nat.le_trans (hle w h) hl) (by omega) _ _ _ _ (fun w h=>Ul h (by omega)) (fun a b h h'=>Uk h h' (by omega)) (fun a b h h'=>Uj h h' (by omega)) (fun a b c h h' h''=>Ui h h' h'' (by omega))
 ·rw [decide_eq_true (by omega),cT,if_neg hl]
  rfl
end
section
open Go.Lib (decDigits)
def HQ (a:Nat) (l:WR):Nat:=l.foldl (fun a b=>10 * a + (b.toNat - 48)) a
def Gk (l:WR):Nat:=HQ 0 l
theorem GU (a:Nat) (b:UInt8) (l:WR):HQ a (b::l)=HQ (10 * a + (b.toNat - 48)) l:=by unfold HQ;rw [List.foldl_cons]
theorem RS (a:Nat) (l:WR) (b:UInt8):HQ a (l++[b])=10 * HQ a l + (b.toNat - 48):=by unfold HQ;rw [List.foldl_append];rfl
theorem RQ (l:WR) (b:UInt8):Gk (l++[b])=10 * Gk l + (b.toNat - 48):=RS 0 l b
theorem Us {b:UInt8} (h:isD b=true):48<=b.toNat/\b.toNat<=57:=by
 unfold isD at h
 simpa only [Bool.and_eq_true,decide_eq_true_eq] using h
theorem Ub (l:WR):∀ (a k:Nat),l.all isD=true->a < 10 ^ k->HQ a l < 10 ^ (k + l.length):=by
 induction l with
 | nil=>intro a k _ h;exact h
 | cons b l ih=>
  intro a k hd h
  rw [GU]
  simp only [List.all_cons,Bool.and_eq_true] at hd
  have hb:=Us hd.1
  have hp:10 ^ (k + 1)=10 ^ k * 10:=Nat.pow_succ ..
  have:=ih (10 * a + (b.toNat - 48)) (k + 1) hd.2 (by omega)
  rw [List.length_cons,show k + (l.length + 1)=k + 1 + l.length by omega]
  exact this
theorem Ua {l:WR} (h:l.all isD=true):Gk l < 10 ^ l.length:=by
 have:=Ub l 0 0 h (by decide)
 simpa [Gk] using this
theorem dig {b:UInt8} (h:isD b=true):Go.Lib.digitVal b=some (b.toNat - 48):=by
 unfold isD at h
 simp only [Bool.and_eq_true,decide_eq_true_eq] at h
 unfold Go.Lib.digitVal
 rw [if_pos h]
theorem Kn:∀ (l:WR) (a:Nat),l.all isD=true->Go.Lib.decFrom a l=some (HQ a l)
 | [],a,_=>rfl
 | b::l,a,h=>by
  simp only [List.all_cons,Bool.and_eq_true] at h
  unfold Go.Lib.decFrom
  rw [dig h.1,GU,Nat.mul_comm 10 a]
  exact Kn l _ h.2
theorem NI {l:WR} (h:l.all isD=true) (hn:1<=l.length):Go.Lib.atoi l=some (Gk l:Int):=by
 match l,h,hn with
 | b::r,h,_=>
  have hb:=h
  simp only [List.all_cons,Bool.and_eq_true] at hb
  have h1:(b==45)=false:=by rw [beq_eq_false_iff_ne];rintro rfl;exact absurd hb.1 (by decide)
  have h2:(b==43)=false:=by rw [beq_eq_false_iff_ne];rintro rfl;exact absurd hb.1 (by decide)
  unfold Go.Lib.atoi
  simp only [h1,h2,Bool.false_eq_true,if_false]
  unfold Go.Lib.decNat
  simp only [List.isEmpty_cons,Bool.false_eq_true,if_false]
  rw [Kn _ _ h]
  rfl
def Hj (s:WR):Bool:=s.all isD&&wiB s.length 1 9
def RR (s:WR):Int:=if Hj s=true then (Gk s:Int) else -1
theorem T7 {k:Nat} (h:k<=9):10 ^ k<=1000000000:=Nat.le_trans (Nat.pow_le_pow_right (by decide) h) (by decide)
theorem Mg {s:WR} (h:Hj s=true):Gk s < 1000000000/\1<=s.length/\s.length<=9/\s.all isD=true:=by
 unfold Hj wiB at h
 simp only [Bool.and_eq_true,decide_eq_true_eq] at h
 exact ⟨Nat.lt_of_lt_of_le (Ua h.1) (T7 h.2.2),h.2.1,h.2.2,h.1⟩
section
variable {N : Nat} {s : WR}
theorem MW (hN:s.length < N):Cc N s=some (RR s):=by
 unfold Cc RR
 rw [GT (Q7 N) s 9 hN,oS,show (decide ((1:Int)<=(s.length:Int))&&decide ((s.length:Int)<=(9:Int)))=wiB s.length 1 9 from Ha _ 1 9]
 have e:(s.all isD&&wiB s.length 1 9)=Hj s:=rfl
 rw [e]
 cases h:Hj s with
 | false=>rfl
 | true=>
  have hl:=Mg h
  rw [Bool.not_true,cF,if_pos rfl]
  unfold B5
  rw [if_pos (by omega),Go.Lib.atoiAll_short s (by omega),NI hl.2.2.2 hl.2.1]
  rfl
end
def Oj (d:Nat):UInt8:=UInt8.ofNat (48 + d)
theorem It {d:Nat} (h:d < 10):(Oj d).toNat=48 + d:=by unfold Oj;rw [UInt8.toNat_ofNat'];omega
theorem Rr {d:Nat} (h:d < 10):isD (Oj d)=true:=by unfold isD;rw [It h];simp;omega
theorem Fg {u:Nat} (h:u < 10):decDigits u=[Oj u]:=by rw [decDigits,dif_pos h];rfl
theorem OZ {u:Nat} (h:¬ u < 10):decDigits u=decDigits (u / 10)++[Oj (u % 10)]:=by
 conv=>lhs;rw [decDigits,dif_neg h]
 rfl
theorem Ni (u:Nat):1<=(decDigits u).length:=by
 by_cases h:u < 10
 ·rw [Fg h];simp
 ·rw [OZ h];simp
theorem Iq (u:Nat):(decDigits u).all isD=true:=by
 induction u using Nat.strongRecOn with
 | _ u ih=>
  by_cases h:u < 10
  ·rw [Fg h];simp [Rr h]
  ·rw [OZ h,List.all_append,ih (u / 10) (by omega)]
   simp [Rr (Nat.mod_lt u (by decide:0 < 10))]
theorem KV (u:Nat):Gk (decDigits u)=u:=by
 induction u using Nat.strongRecOn with
 | _ u ih=>
  by_cases h:u < 10
  ·rw [Fg h]
   show 10 * 0 + ((Oj u).toNat - 48)=u
   rw [It h];omega
  ·rw [OZ h,RQ,ih (u / 10) (by omega),It (Nat.mod_lt u (by decide:0 < 10))];omega
theorem Ip:∀ (k u:Nat),u < 10 ^ (k + 1)->(decDigits u).length<=k + 1
 | 0,u,h=>by rw [Fg (by simpa using h)];simp
 | k + 1,u,h=>by
  by_cases hu:u < 10
  ·rw [Fg hu];simp
  ·rw [OZ hu,List.length_append]
   have:=Ip k (u / 10) (by rw [Nat.pow_succ] at h;omega)
   simp;omega
def dP (k u:Nat):WR:=List.replicate (k - (decDigits u).length) 48++decDigits u
theorem Is (k u:Nat):(dP k u).all isD=true:=by
 unfold dP
 rw [List.all_append,Iq,Bool.and_true,List.all_eq_true]
 intro b hb
 rw [List.eq_of_mem_replicate hb];decide
theorem Qx (j:Nat) (l:WR):HQ 0 (List.replicate j 48++l)=HQ 0 l:=by
 induction j with
 | zero=>rfl
 | succ j ih=>rw [List.replicate_succ,List.cons_append,GU];exact ih
theorem QK (k u:Nat):Gk (dP k u)=u:=by
 unfold dP Gk
 rw [Qx]
 exact KV u
theorem Nj (k u:Nat):k<=(dP k u).length/\1<=(dP k u).length:=by
 unfold dP
 have:=Ni u
 rw [List.length_append,List.length_replicate]
 omega
theorem Ir {k j u:Nat} (h:u < 10 ^ (j + 1)):(dP k u).length<=max k (j + 1):=by
 unfold dP
 have:=Ip j u h
 rw [List.length_append,List.length_replicate]
 omega
theorem Q5:∀ n,Go.Lib.repeatL [48] n=List.replicate n 48
 | 0=>rfl
 | n + 1=>by unfold Go.Lib.repeatL;rw [Q5 n];rfl
section
variable {N : Nat}
theorem MZ (u:Nat) (h:u<=1000000000):strconv_Itoa N (u:Int)=some (decDigits u):=by
 unfold strconv_Itoa
 rw [if_pos (by omega),Go.Lib.itoa_nonneg]
theorem MV (u k:Nat) (h:u<=1000000000) (hk:k<=100):BS N (u:Int) (k:Int)=some (dP k u):=by
 unfold BS
 rw [MZ u h,oS]
 have hl:(decDigits u).length<=10:=Ip 9 u (by omega)
 rw [DY (by omega) (by omega)]
 have e:max (0:Int) ((k:Int) - ((decDigits u).length:Int))=((k - (decDigits u).length:Nat):Int):=by omega
 rw [e]
 unfold strings_Repeat
 rw [if_pos (by simp;omega),oS,Int.toNat_natCast,Q5]
 rw [BQ (by simp;omega)]
 rfl
end
end
section
open Go.Lib (decDigits)
def Fv (u:Nat):WR:=decDigits (u / 1440 + 1)++32::(dP 2 (u / 60 % 24)++dP 2 (u % 60))
def EQ (x:Int):WR×Int:=if 0<=x/\x<=20000 then (Fv x.toNat,0) else ([],1)
theorem Su (u k:Nat) (h:u < 4611686018427387904):W64 (Int.tdiv (u:Int) (k:Int))=((u / k:Nat):Int):=by
 have:Int.tdiv (u:Int) (k:Int)=((u / k:Nat):Int):=by rw [Int.tdiv_eq_ediv_of_nonneg (by omega)];rfl
 have h2:u / k<=u:=Nat.div_le_self _ _
 rw [this]
 generalize u / k=v at h2
 rw [DY (by omega) (by omega)]
theorem St (u k:Nat):Int.tmod (u:Int) (k:Int)=((u % k:Nat):Int):=by
 rw [Int.tmod_eq_emod_of_nonneg (by omega)];rfl
theorem OY {u:Nat} (h:u < 100000):(decDigits u).length<=5:=Ip 4 u (by omega)
theorem I1 {u:Nat} (h:u < 100):(dP 2 u).length=2:=by
 have h1:=Nj 2 u
 have h2:=Ir (k:=2) (j:=1) (u:=u) (by omega)
 omega
section
variable {N : Nat}
theorem Lm (x:Int):Cy N x=some (EQ x):=by
 unfold Cy EQ
 rw [MU,oS]
 by_cases h:0<=x/\x<=20000
 ·rw [if_pos h,decide_eq_true h.1,decide_eq_true h.2]
  obtain ⟨u,rfl⟩:∃ u:Nat,x=u:=⟨x.toNat,by omega⟩
  have hu:u<=20000:=by omega
  simp only [Bool.and_self,Bool.not_true,cF]
  have e1:=Su u 1440 (by omega)
  have e2:=Su u 60 (by omega)
  simp only [Int.cast_ofNat_Int] at e1 e2
  have e3:=St (u / 60) 24
  have e4:=St u 60
  simp only [Int.cast_ofNat_Int] at e3 e4
  rw [e1,e2,e3,e4,Gj (u / 1440) (by omega),MZ _ (by omega),oS]
  have h0:=OY (u:=u / 1440 + 1) (by omega)
  have h1:=I1 (u:=u / 60 % 24) (by omega)
  have h2:=I1 (u:=u % 60) (by omega)
  have p1:=MV (N:=N) (u / 60 % 24) 2 (by omega) (by omega)
  have p2:=MV (N:=N) (u % 60) 2 (by omega) (by omega)
  simp only [Int.cast_ofNat_Int] at p1 p2
  rw [BQ (by simp;omega),oS,p1,oS,BQ (by simp;omega),oS,p2,oS,BQ (by simp;omega),oS]
  unfold Fv
  simp
 ·rw [if_neg h]
  have:(decide (0<=x)&&decide (x<=20000))=false:=by
   rw [Bool.and_eq_false_iff,decide_eq_false_iff_not,decide_eq_false_iff_not];omega
  rw [this];rfl
def LI (p q:Nat):Nat:=(p - 1) * 1440 + q / 100 * 60 + q % 100
theorem TN {p q:Nat} (h1:1<=p) (hp:p < 1000000000) (hq:q < 1000000000):W64 ((W64 ((W64 ((W64 ((p:Int) - 1)) * 1440)) + (W64 ((W64 (Int.tdiv (q:Int) 100)) * 60)))) + (Int.tmod (q:Int) 100))=(LI p q:Int):=by
 have e1:=Su q 100 (by omega)
 have e2:=St q 100
 simp only [Int.cast_ofNat_Int] at e1 e2
 rw [e1,e2,DY (n:=(p:Int) - 1) (by omega) (by omega),DY (n:=((p:Int) - 1) * 1440) (by omega) (by omega),DY (n:=((q / 100:Nat):Int) * 60) (by omega) (by omega)]
 rw [DY (n:=((p:Int) - 1) * 1440 + ((q / 100:Nat):Int) * 60) (by omega) (by omega),DY (by omega) (by omega)]
 unfold LI
 omega
def KO (s a b:WR):Int×Int:=if Hj a&&Hj b&&decide (1<=Gk a)&&decide (EQ (LI (Gk a) (Gk b))=(s,0)) then ((LI (Gk a) (Gk b):Int),0) else (0,13)
def Hg (s:WR):Int×Int:=match pcs 32 s with
 | [a,b]=>KO s a b
 | _=>(0,13)
theorem RT {s:WR} (h:(32:UInt8)∈s):Hj s=false:=by
 cases hh:Hj s with
 | false=>rfl
 | true=>
  have:=List.all_eq_true.1 (Mg hh).2.2.2 _ h
  revert this;decide
theorem SR:Hj []=false:=rfl
theorem SM (s t:WR) (e:Int):((e !=0)||(t !=s))= !decide ((t,e)=(s,0)):=by
 by_cases h1:e=0
 ·by_cases h2:t=s
  ·subst h1;subst h2;simp
  ·rw [decide_eq_false (fun h=>h2 (by injection h))];simp [h2]
 ·rw [decide_eq_false (fun h=>h1 (by injection h))];simp [h1]
theorem Ob (s a b:WR) (ha:a.length < N) (hb:b.length < N):
  ((Cc N a).bind fun r9=>((Cc N b).bind fun h0=>(bif ((decide (r9 < 1))||((decide (r9 > 20000))||(decide (h0 < 0)))) then some ((0:Int),(13:Int)) else ((Cy N (W64 ((W64 ((W64 ((W64 (r9 - 1)) * 1440)) + (W64 ((W64 (Int.tdiv h0 100)) * 60)))) + (Int.tmod h0 100)))).bind fun h4=>(bif ((h4.2 !=0)||(h4.1 !=s)) then some (0,13) else some ((W64 ((W64 ((W64 ((W64 (r9 - 1)) * 1440)) + (W64 ((W64 (Int.tdiv h0 100)) * 60)))) + (Int.tmod h0 100))),0))))))=some (KO s a b):=by
 rw [MW ha,MW hb,oS,oS]
 unfold RR KO
 cases hA:Hj a with
 | false=>
  simp only [Bool.false_eq_true,if_false,Bool.false_and]
  rfl
 | true=>
  cases hB:Hj b with
  | false=>
   simp only [Bool.false_eq_true,if_false,if_true,Bool.and_false,Bool.false_and]
   rw [show decide ((-1:Int) < 0)=true from rfl,Bool.or_true,Bool.or_true];rfl
  | true=>
   simp only [if_true,Bool.and_self,Bool.true_and]
   have hp:=Mg hA
   have hq:=Mg hB
   generalize Gk a=p at hp ⊢
   generalize Gk b=q at hq ⊢
   by_cases h1:1<=p
   ·rw [decide_eq_false (show ¬ (p:Int) < 1 by omega),decide_eq_true h1,decide_eq_false (show ¬ (q:Int) < 0 by omega),Bool.false_or,Bool.or_false,Bool.true_and,TN h1 hp.1 hq.1]
    by_cases h2:p<=20000
    ·rw [decide_eq_false (show ¬ (p:Int) > 20000 by omega),cF,Lm,oS,SM]
     have:((EQ (LI p q:Int)).1,(EQ (LI p q:Int)).2)=EQ (LI p q:Int):=rfl
     rw [this]
     by_cases h3:EQ (LI p q:Int)=(s,0)
     ·rw [decide_eq_true h3,if_pos rfl];rfl
     ·rw [decide_eq_false h3];rfl
    ·rw [decide_eq_true (show (p:Int) > 20000 by omega),cT]
     have h3:¬ EQ (LI p q:Int)=(s,0):=by
      unfold EQ LI
      rw [if_neg (by omega)]
      intro h;injection h with h1 h2;exact absurd h2 (by decide)
     rw [decide_eq_false h3];rfl
   ·rw [decide_eq_true (show (p:Int) < 1 by omega),decide_eq_false h1];rfl
theorem MP {s a b:WR} (h:Hj b=false):KO s a b=(0,13):=by unfold KO;rw [h];simp
theorem Pp (s:WR) (hs:s.length < 4294967281) (hN:4294967300 < N):Gh N s=some (Hg s):=by
 unfold Gh
 have hc:strings_Cut N s [32]=some (Go.Lib.cut s [32]):=by unfold strings_Cut;rw [if_pos hs]
 rw [hc,oS]
 unfold Hg
 by_cases h:(32:UInt8)∈s
 ·obtain ⟨a,t,rfl,ha⟩:=Ew h
  simp only [List.length_append,List.length_cons] at hs
  rw [Nk ha,Gr ha]
  simp only
  rw [Ob _ a t (by omega) (by omega)]
  by_cases ht:(32:UInt8)∈t
  ·obtain ⟨a',t',rfl,ha'⟩:=Ew ht
   rw [Gr ha',MP (RT ht)]
   cases hp:pcs 32 t' with
   | nil=>exact absurd hp (Hf 32 t')
   | cons x l=>rfl
  ·rw [Fc ht]
 ·rw [Nl h,Fc h]
  simp only
  rw [Ob _ s [] (by omega) (by simp;omega),MP SR]
end
theorem SQ (a:Nat) (l:WR):HQ a l=a * 10 ^ l.length + HQ 0 l:=by
 induction l generalizing a with
 | nil=>simp [HQ]
 | cons b l ih=>
  rw [GU,GU,ih (10 * a + (b.toNat - 48)),ih (10 * 0 + (b.toNat - 48)),List.length_cons,Nat.pow_succ,Nat.add_mul,Nat.mul_comm (10 ^ l.length) 10,<-Nat.mul_assoc,Nat.mul_comm a 10,Nat.mul_zero,Nat.zero_add,Nat.add_assoc]
theorem SP (l m:WR):Gk (l++m)=Gk l * 10 ^ m.length + Gk m:=by
 unfold Gk
 rw [show HQ 0 (l++m)=HQ (HQ 0 l) m by unfold HQ;rw [List.foldl_append],SQ]
theorem no32 {l:WR} (h:l.all isD=true):(32:UInt8)∉l:=fun hm=>by
 have:=List.all_eq_true.1 h _ hm
 revert this;decide
theorem JI {u:Nat} (h:u<=20000):Hg (Fv u)=((u:Int),0):=by
 have h2:=OY (u:=u / 1440 + 1) (by omega)
 have h1:=I1 (u:=u / 60 % 24) (by omega)
 have h0:=I1 (u:=u % 60) (by omega)
 have hall:(dP 2 (u / 60 % 24)++dP 2 (u % 60)).all isD=true:=by rw [List.all_append,Is,Is];rfl
 have hp:pcs 32 (Fv u)=[decDigits (u / 1440 + 1),dP 2 (u / 60 % 24)++dP 2 (u % 60)]:=by
  unfold Fv
  rw [Gr (no32 (Iq _)),Fc (no32 hall)]
 unfold Hg
 rw [hp]
 simp only
 unfold KO
 have n1:Hj (decDigits (u / 1440 + 1))=true:=by
  unfold Hj wiB;have:=Ni (u / 1440 + 1);rw [Iq];simp;omega
 have n2:Hj (dP 2 (u / 60 % 24)++dP 2 (u % 60))=true:=by
  unfold Hj wiB;rw [hall];simp [h1,h0]
 have v2:Gk (dP 2 (u / 60 % 24)++dP 2 (u % 60))=u / 60 % 24 * 100 + u % 60:=by
  rw [SP,QK,QK,h0]
 have e:LI (u / 1440 + 1) (u / 60 % 24 * 100 + u % 60)=u:=by unfold LI;omega
 have hpr:EQ (u:Int)=(Fv u,0):=by unfold EQ;rw [if_pos (by omega)];rfl
 rw [n1,n2,KV,v2,e,hpr,decide_eq_true (show 1<=u / 1440 + 1 by omega),decide_eq_true rfl]
 rfl
end
theorem PN {ρ:Type} {body:Int->Option (BF ρ Int)} {n:Nat} (ok:Nat->Bool) (bad:Nat->ρ)
  (hb:∀ i,i < n->body (i:Int)=some (bif ok i then .next ((i + 1:Nat):Int) else .ret (bad i))) (he:body (n:Int)=some (.done (n:Int))) {N:Nat} (hN:n < N):
  ((∀ i,i < n->ok i=true)/\AX body N 0=some (.done (n:Int)))\/(∃ i,i < n/\ok i=false/\(∀ k,k < i->ok k=true)/\AX body N 0=some (.ret (bad i))):=by
 obtain ⟨o,ho,hR⟩:=EE (body:=body) n (fun i s=>s=(i:Int)/\ ∀ k,k < i->ok k=true) (fun o=>((∀ i,i < n->ok i=true)/\o=.done (n:Int))\/(∃ i,i < n/\ok i=false/\(∀ k,k < i->ok k=true)/\o=.ret (bad i))) (by
  rintro i s hi ⟨rfl,hk⟩
  by_cases h:i < n
  ·rw [hb i h]
   cases e:ok i with
   | true=>
    refine .inl ⟨_,rfl,⟨rfl,fun k hk'=>?_⟩,h⟩
    by_cases hki:k=i
    ·subst hki;exact e
    ·exact hk k (by omega)
   | false=>exact .inr ⟨_,rfl,(fun _ h=>by cases h),.inr ⟨i,h,e,hk,rfl⟩⟩
  ·have:i=n:=by omega
   subst this
   rw [he]
   exact .inr ⟨_,rfl,(fun _ h=>by cases h),.inl ⟨hk,rfl⟩⟩) n N 0 0 (by omega) ⟨rfl,fun k hk=>by omega⟩ hN
 rcases hR with ⟨h1,rfl⟩ | ⟨i,h1,h2,h3,rfl⟩
 ·exact .inl ⟨h1,ho⟩
 ·exact .inr ⟨i,h1,h2,h3,ho⟩
theorem U0 (i:Nat) (h:i < 4611686018427387904) (h0:0 < i):W64 ((i:Int) - 1)=((i - 1:Nat):Int):=by
 rw [DY (by omega) (by omega)];omega
section
open Go.Lib (decDigits)
theorem Rh (s:WR):(s !=[])= !decide (s=[]):=by
 cases s <;> rfl
def jn (l:List WR):WR:=Go.Lib.join l [32]
theorem Ta:jn []=[]:=rfl
theorem Eh (x:WR):jn [x]=x:=Go.Lib.join_one x [32]
theorem Qw:∀ (r:List WR) (x:WR),(32:UInt8)∉x->(∀ y,y∈r->(32:UInt8)∉y)->pcs 32 (jn (x::r))=x::r
 | [],x,hx,_=>by rw [Eh,Fc hx]
 | y::r,x,hx,hr=>by
  have ih:=Qw r y (hr y (by simp)) (fun z hz=>hr z (by simp [hz]))
  have:jn (x::y::r)=x++32::jn (y::r):=by
   unfold jn
   rw [Go.Lib.join_cons,Go.Lib.join_cons]
   unfold Go.Lib.joinTail
   simp
  rw [this,Gr hx,ih]
section
variable {N : Nat}
theorem VV (a b:WR) (hN:4294967300 < N):E5 N [a,b]=some (if a=[] then b else a):=by
 obtain ⟨M,rfl⟩:∃ M,N=M + 3:=⟨N - 3,by omega⟩
 unfold E5
 by_cases ha:a=[]
 ·rw [if_pos ha]
  by_cases hb:b=[]
  ·subst ha;subst hb;rfl
  ·have e1:CN (M + 3) [a,b] 0=some (.next 1):=by subst ha;rfl
   have e2:CN (M + 3) [a,b] 1=some (.ret b):=by
    show (bif (b !=([]:WR)) then some (.ret b) else some (.next (W64 (1 + 1))))=some (BF.ret b)
    rw [Rh,decide_eq_false hb];rfl
   rw [AX,e1]
   simp only
   rw [AX,e2]
   rfl
 ·rw [if_neg ha]
  have e1:CN (M + 3) [a,b] 0=some (.ret a):=by
   show (bif (a !=([]:WR)) then some (.ret a) else some (.next (W64 (0 + 1))))=some (BF.ret a)
   rw [Rh,decide_eq_false ha];rfl
  rw [AX,e1]
  rfl
theorem LK {l:List AG} {p:AG->Option Bool} (F:AG->Bool) (hp:∀ x,x∈l->p x=some (F x)) (hl:l.length < 4000000000) (hN:4294967300 < N):AZ N l p=some (l.any F):=by
 unfold AZ BB
 rcases PN (body:=AF N l p) (n:=l.length) (fun i=>!((l[i]?.map F).getD false)) (fun i=>(i:Int)) (by
   intro i hi
   unfold AF
   rw [ET hi,cT,CC hi,oS,hp _ (List.getElem_mem hi),oS,Gj i (by omega),List.getElem?_eq_getElem hi]
   simp only [Option.map_some,Option.getD_some]
   cases F l[i] <;> rfl) (by
   unfold AF
   rw [Ez,cF]) (N:=N) (by omega) with ⟨g1,g2⟩ | ⟨i,hi,g1,_,g2⟩
 ·rw [g2]
  have:l.any F=false:=by
   rw [List.any_eq_false]
   intro x hx
   obtain ⟨i,hi,rfl⟩:=List.getElem_of_mem hx
   have:=g1 i hi
   rw [List.getElem?_eq_getElem hi] at this
   simpa using this
  rw [this];rfl
 ·rw [g2]
  have:l.any F=true:=by
   rw [List.any_eq_true]
   rw [List.getElem?_eq_getElem hi] at g1
   exact ⟨l[i],List.getElem_mem hi,by simpa using g1⟩
  rw [this]
  show some (decide ((i:Int)>=0))=some true
  rw [decide_eq_true (by omega)]
def QG (h:Bool) (n m:Int):Bool:=bif h then (decide (1<=n)&&decide (n<=m)) else n==0
def C9 (L:Ac) (E:Ae):Bool:=QG L.Report E.Report 599&&(QG L.Serial E.Serial 99999&&QG L.Zone E.Zone 99)
theorem Ve (P:AG):B4 N P=some (!QG P.has_ P.n_ P.most_):=by
 unfold B4 QG
 rw [MU,oS]
 obtain ⟨h,n,m,d⟩:=P
 simp only
 cases h with
 | true=>cases (decide (1<=n)&&decide (n<=m)) <;> rfl
 | false=>
  by_cases hn:n=0
  ·subst hn
   rw [show (decide ((1:Int)<=0)&&decide (0<=m))=false by rw [decide_eq_false (by omega)];rfl]
   rfl
  ·have e1:(n !=0)=true:=by simpa using hn
   have e2:(n==0)=false:=by simpa using hn
   rw [e1,e2]
   cases (decide (1<=n)&&decide (n<=m)) <;> rfl
theorem ME (L:Ac) (E:Ae) (hN:4294967300 < N):B0 N L E=some (C9 L E):=by
 unfold B0
 unfold CQ
 rw [oS,LK (fun P=>!QG P.has_ P.n_ P.most_) (fun x _=>Ve x) (by simp) hN,oS]
 unfold C9
 simp
def fs (L:Ac) (E:Ae):List WR:=(if L.Report=true then [dP 1 E.Report.toNat] else [])++((if L.Serial=true then [dP 3 E.Serial.toNat] else [])++(if L.Zone=true then [dP 2 E.Zone.toNat] else []))
def Fu (L:Ac) (E:Ae):WR:=if fs L E=[] then [45] else jn (fs L E)
def He (L:Ac) (E:Ae):WR×Int:=if C9 L E=true then (Fu L E,0) else ([],1)
structure OkE (L:Ac) (E:Ae):Prop where
 r:if L.Report=true then 1<=E.Report/\E.Report<=599 else E.Report=0
 s:if L.Serial=true then 1<=E.Serial/\E.Serial<=99999 else E.Serial=0
 z:if L.Zone=true then 1<=E.Zone/\E.Zone<=99 else E.Zone=0
theorem okE {L:Ac} {E:Ae} (h:C9 L E=true):OkE L E:=by
 unfold C9 QG at h
 simp only [Bool.and_eq_true] at h
 obtain ⟨h1,h2,h3⟩:=h
 constructor
 ·cases hL:L.Report <;> rw [hL] at h1 <;> simpa using h1
 ·cases hL:L.Serial <;> rw [hL] at h2 <;> simpa using h2
 ·cases hL:L.Zone <;> rw [hL] at h3 <;> simpa using h3
theorem OkE.le {L:Ac} {E:Ae} (h:OkE L E):(0<=E.Report/\E.Report<=599)/\(0<=E.Serial/\E.Serial<=99999)/\0<=E.Zone/\E.Zone<=99:=by
 obtain ⟨h1,h2,h3⟩:=h
 refine ⟨?_,?_,?_⟩
 ·split at h1 <;> omega
 ·split at h2 <;> omega
 ·split at h3 <;> omega
theorem Mn {L:Ac} {E:Ae} (h:OkE L E):∀ w,w∈fs L E->w.length<=5/\w.all isD=true/\1<=w.length:=by
 obtain ⟨h1,h2,h3⟩:=h.le
 intro w hw
 unfold fs at hw
 simp only [List.mem_append] at hw
 have l1:=Ir (k:=1) (j:=2) (u:=E.Report.toNat) (by omega)
 have l2:=Ir (k:=3) (j:=4) (u:=E.Serial.toNat) (by omega)
 have l3:=Ir (k:=2) (j:=1) (u:=E.Zone.toNat) (by omega)
 rcases hw with hw | hw | hw
 ·split at hw
  ·simp at hw;subst hw;exact ⟨by omega,Is _ _,(Nj _ _).2⟩
  ·cases hw
 ·split at hw
  ·simp at hw;subst hw;exact ⟨by omega,Is _ _,(Nj _ _).2⟩
  ·cases hw
 ·split at hw
  ·simp at hw;subst hw;exact ⟨by omega,Is _ _,(Nj _ _).2⟩
  ·cases hw
theorem OT (L:Ac) (E:Ae):(fs L E).length<=3:=by
 unfold fs
 split <;> split <;> split <;> simp
theorem Tb:∀ l:List WR,(∀ w,w∈l->w.length<=5)->(jn l).length<=l.length * 6
 | [],_=>by simp [Ta]
 | [x],h=>by rw [Eh];have:=h x (by simp);simp;omega
 | x::y::r,h=>by
  have ih:=Tb (y::r) (fun w hw=>h w (List.mem_cons_of_mem _ hw))
  have hx:=h x (by simp)
  have:jn (x::y::r)=x++32::jn (y::r):=by
   unfold jn
   rw [Go.Lib.join_cons,Go.Lib.join_cons]
   unfold Go.Lib.joinTail
   simp
  rw [this,List.length_append,List.length_cons,List.length_cons (a:=x)]
  omega
theorem V5 {L:Ac} {E:Ae} (h:OkE L E):(jn (fs L E)).length<=18:=by
 have:=Tb (fs L E) (fun w hw=>(Mn h w hw).1)
 have:=OT L E
 omega
theorem VY {l:List WR} (h:∀ w,w∈l->1<=w.length):jn l=[] ↔ l=[]:=by
 constructor
 ·intro hj
  match l,h,hj with
  | [],_,_=>rfl
  | x::r,h,hj=>
   exfalso
   unfold jn at hj
   rw [Go.Lib.join_cons] at hj
   have:=h x (by simp)
   rw [List.append_eq_nil_iff] at hj
   rw [hj.1] at this
   exact absurd this (by decide)
 ·rintro rfl;rfl
theorem U8 {n:Int} {k:Nat} (h0:0<=n) (h1:n<=1000000000) (hk:k<=100):BS N n (k:Int)=some (dP k n.toNat):=by
 obtain ⟨u,rfl⟩:∃ u:Nat,n=u:=⟨n.toNat,by omega⟩
 exact MV u k (by omega) hk
def PW (L:Ac) (E:Ae) (i:Nat):List WR:=if i=0 then (if L.Report=true then [dP 1 E.Report.toNat] else []) else if i=1 then (if L.Serial=true then [dP 3 E.Serial.toNat] else []) else (if L.Zone=true then [dP 2 E.Zone.toNat] else [])
theorem Vy (L:Ac) (E:Ae):cat 3 (PW L E)=fs L E:=by
 rw [IE,IE,IE]
 unfold fs
 rw [<-List.append_assoc]
 rfl
theorem Tp (L:Ac) (E:Ae) (i:Nat):(PW L E i).length<=1:=by
 unfold PW
 split
 ·split <;> simp
 ·split <;> split <;> simp
theorem MF (L:Ac) (E:Ae) (hN:4294967300 < N):Bc N L E=some (He L E):=by
 unfold Bc He
 rw [ME L E hN,oS]
 cases hv:C9 L E with
 | false=>rfl
 | true=>
  have ok:=okE hv
  obtain ⟨h1,h2,h3⟩:=ok.le
  rw [Bool.not_true,cF,if_pos rfl]
  unfold CQ
  rw [oS]
  generalize hP:([_,_,_]:List AG)=P
  have hstep:∀ (i:Nat) (s:List WR),i < 3->s.length + 1<=0 + 3 * 1->BZ N L E true P (s,(i:Int))=some (.next (s++PW L E i,((i + 1:Nat):Int))):=by
   intro i s hi hs
   have p1:BS N E.Report 1=some (dP 1 E.Report.toNat):=U8 (k:=1) h1.1 (by omega) (by omega)
   have p2:BS N E.Serial 3=some (dP 3 E.Serial.toNat):=U8 (k:=3) h2.1 (by omega) (by omega)
   have p3:BS N E.Zone 2=some (dP 2 E.Zone.toNat):=U8 (k:=2) h3.1 (by omega) (by omega)
   have ha:∀ w:WR,DX s [w]=some (s++[w]):=fun w=>UG (by simp;omega)
   unfold BZ
   subst hP
   simp only
   rw [Gj i (by omega)]
   match i,hi with
   | 0,_=>
    show ((bif L.Report then ((BS N E.Report 1).bind fun h0=>((DX s [h0]).bind fun h4=>some h4)) else some s).bind fun h5=>some (BF.next (h5,_)))=_
    rw [p1,oS,ha]
    unfold PW
    cases L.Report <;> simp
   | 1,_=>
    show ((bif L.Serial then ((BS N E.Serial 3).bind fun h0=>((DX s [h0]).bind fun h4=>some h4)) else some s).bind fun h5=>some (BF.next (h5,_)))=_
    rw [p2,oS,ha]
    unfold PW
    cases L.Serial <;> simp
   | 2,_=>
    show ((bif L.Zone then ((BS N E.Zone 2).bind fun h0=>((DX s [h0]).bind fun h4=>some h4)) else some s).bind fun h5=>some (BF.next (h5,_)))=_
    rw [p3,oS,ha]
    unfold PW
    cases L.Zone <;> simp
  have hend:∀ s:List WR,BZ N L E true P (s,((3:Nat):Int))=some (.done (s,((3:Nat):Int))):=by
   intro s
   subst hP
   rfl
  rw [R3 (n:=3) 1 (PW L E) (fun i _=>Tp L E i) (s0:=[]) hstep hend (by omega),Vy]
  simp only [List.nil_append,oS,BF.k]
  have hj:=V5 ok
  have hl:=OT L E
  have e1:strings_Join N (fs L E) [32]=some (jn (fs L E)):=by
   unfold strings_Join
   exact if_pos ⟨by omega,by unfold jn at hj;omega⟩
  rw [e1,oS,VV _ _ hN,oS]
  unfold Fu
  have:=VY (fun w hw=>(Mn ok w hw).2.2)
  by_cases hf:fs L E=[]
  ·rw [if_pos hf,if_pos (this.2 hf)]
  ·rw [if_neg hf,if_neg (fun h=>hf (this.1 h))]
def HG (h:Bool) (ws:List WR):List WR×Int:=match h,ws with
 | true,w::r=>(r,RR w)
 | _,_=>(ws,0)
def Ib (L:Ac) (ws:List WR):Ae:={Report:=(HG L.Report ws).2,Serial:=(HG L.Serial (HG L.Report ws).1).2,Zone:=(HG L.Zone (HG L.Serial (HG L.Report ws).1).1).2}
def B6 (L:Ac) (s:WR):Ae×Int:=if He L (Ib L (pcs 32 s))=(s,0) then (Ib L (pcs 32 s),0) else ({Report:=0,Serial:=0,Zone:=0},1)
theorem N1 (h:Bool) (ws:List WR):∀ w,w∈(HG h ws).1->w∈ws:=by
 intro w hw
 match h,ws,hw with
 | true,x::r,hw=>exact List.mem_cons_of_mem _ hw
 | true,[],hw=>exact hw
 | false,_,hw=>exact hw
theorem Mx (h:Bool) (ws:List WR) (hl:∀ w,w∈ws->w.length < N):(bif (h&&decide ((ws.length:Int) > 0)) then ((idx ws 0).bind fun h0=>((Cc N h0).bind fun h1=>((sub ws 1 (ws.length:Int)).bind fun h2=>some (h2,h1)))) else some (ws,(0:Int)))=some (HG h ws):=by
 match h,ws,hl with
 | false,_,_=>rfl
 | true,[],_=>rfl
 | true,w::r,hl=>
  have e0:idx (w::r) 0=some w:=rfl
  have e1:sub (w::r) 1 ((w::r).length:Int)=some r:=by
   unfold sub
   rw [if_pos ⟨by omega,by simp only [List.length_cons];omega,by omega⟩]
   simp
  rw [decide_eq_true (by simp only [List.length_cons];omega),e0,e1,oS,MW (hl w (by simp))]
  rfl
theorem Sy (L:Ac) (s:WR) (hs:s.length < 4294967281) (hN:4294967300 < N):El N L s=some (B6 L s):=by
 unfold El B6
 rw [Kc 32 hs,oS]
 have hle:=Qv 32 s
 generalize pcs 32 s=ws at hle
 have hn:∀ w,w∈ws->w.length < N:=fun w hw=>by have:=hle w hw;omega
 have c0:∀ (E:Ae) (b:Bool),((CQ N L E).bind fun h0=>((idx h0 0).bind fun h1=>(bif h1.has_ then some b else some false)))=some (L.Report&&b):=by
  intro E b
  show (bif L.Report then some b else some false)=_
  cases L.Report <;> rfl
 have c1:∀ (E:Ae) (b:Bool),((CQ N L E).bind fun h0=>((idx h0 1).bind fun h1=>(bif h1.has_ then some b else some false)))=some (L.Serial&&b):=by
  intro E b
  show (bif L.Serial then some b else some false)=_
  cases L.Serial <;> rfl
 have c2:∀ (E:Ae) (b:Bool),((CQ N L E).bind fun h0=>((idx h0 2).bind fun h1=>(bif h1.has_ then some b else some false)))=some (L.Zone&&b):=by
  intro E b
  show (bif L.Zone then some b else some false)=_
  cases L.Zone <;> rfl
 rw [c0,oS,Mx L.Report ws hn,oS,c1,oS]
 have h2:∀ w,w∈(HG L.Report ws).1->w.length < N:=fun w hw=>hn w (N1 _ _ w hw)
 rw [Mx L.Serial _ h2,oS,c2,oS]
 have h3:∀ w,w∈(HG L.Serial (HG L.Report ws).1).1->w.length < N:=fun w hw=>h2 w (N1 _ _ w hw)
 rw [Mx L.Zone _ h3,oS]
 show ((Bc N L (Ib L ws)).bind _)=_
 rw [MF L _ hN,oS,SM]
 show (bif (!decide (He L (Ib L ws)=(s,0))) then _ else some (Ib L ws,(0:Int)))=_
 by_cases h:He L (Ib L ws)=(s,0)
 ·rw [decide_eq_true h,if_pos h];rfl
 ·rw [decide_eq_false h,if_neg h];rfl
end
theorem OI {k u:Nat} (hk:k<=9) (hu:u < 100000):RR (dP k u)=(u:Int):=by
 have h1:=Ir (k:=k) (j:=4) (u:=u) (by omega)
 have h2:=Nj k u
 have:Hj (dP k u)=true:=by
  unfold Hj wiB
  rw [Is]
  simp
  omega
 unfold RR
 rw [if_pos this,QK]
theorem Gs {L:Ac} {E:Ae} (h:C9 L E=true):B6 L (Fu L E)=(E,0):=by
 have ok:=okE h
 obtain ⟨h1,h2,h3⟩:=ok.le
 have hw:Ib L (pcs 32 (Fu L E))=E:=by
  have n1:=OI (k:=1) (u:=E.Report.toNat) (by omega) (by omega)
  have n2:=OI (k:=3) (u:=E.Serial.toNat) (by omega) (by omega)
  have n3:=OI (k:=2) (u:=E.Zone.toNat) (by omega) (by omega)
  have hp:fs L E≠[]->pcs 32 (Fu L E)=fs L E:=by
   intro hf
   unfold Fu
   rw [if_neg hf]
   have hno:=fun w hw=>no32 (Mn ok w hw).2.1
   revert hf hno
   generalize fs L E=l
   intro hf hno
   match l,hf,hno with
   | x::r,_,hno=>exact Qw r x (hno x (by simp)) (fun y hy=>hno y (by simp [hy]))
  obtain ⟨R,S,Z⟩:=L
  obtain ⟨a,b,c⟩:=E
  obtain ⟨o1,o2,o3⟩:=ok
  simp only at o1 o2 o3 h1 h2 h3 n1 n2 n3
  rw [Int.toNat_of_nonneg h1.1] at n1
  rw [Int.toNat_of_nonneg h2.1] at n2
  rw [Int.toNat_of_nonneg h3.1] at n3
  unfold Ib
  cases R <;> cases S <;> cases Z <;> simp only [Bool.false_eq_true,if_false,if_true] at o1 o2 o3
  ·subst o1;subst o2;subst o3;rfl
  all_goals
   rw [hp (by unfold fs;simp)]
   unfold fs
   simp [HG,n1,n2,n3, *]
 unfold B6
 rw [hw]
 have:He L E=(Fu L E,0):=by unfold He;rw [if_pos h]
 rw [if_pos this]
end
theorem Si {s:WR} (h:C6 s=true):1<=s.length/\s.length<=4:=by
 unfold C6 wiB at h
 simp only [Bool.and_eq_true,decide_eq_true_eq] at h
 omega
theorem Pk {s:WR} (h:BV s=true):1<=s.length/\s.length<=4:=by
 unfold BV wiB at h
 simp only [Bool.and_eq_true,Bool.or_eq_true,decide_eq_true_eq] at h
 omega
theorem UF {s:WR} (h:C6 s=true):s.all isE=true:=by
 unfold C6 at h;simp only [Bool.and_eq_true] at h;exact h.1.1
theorem Rw {s:WR} (h:Bq s=true):s.all isE=true:=by
 unfold Bq at h;simp only [Bool.and_eq_true] at h;exact h.1.1.1
theorem RE {s:WR} (h:BV s=true):s.all isE=true:=by
 unfold BV at h
 simp only [Bool.and_eq_true,Bool.or_eq_true] at h
 rw [List.all_eq_true]
 intro b hb
 unfold isE
 rcases h with h | h
 ·rw [List.all_eq_true.1 h.1 b hb];rfl
 ·rw [List.all_eq_true.1 h.1 b hb];simp
def Ly (t:Tri):WR:=(if t.1=[] then t.2.1 else t.1++47::t.2.1)++(if t.2.2=[] then [] else 47::t.2.2)
def okT (t:Tri):Bool:=(decide (t.1=[])||C6 t.1)&&Bq t.2.1&&(decide (t.2.2=[])||BV t.2.2)&&(decide (t.1=[])|| !decide (t.2.2=[])||decide (t.1.length < t.2.1.length))&&decide ((Ly t).length<=16)
theorem P4 {s:WR} (h:C6 s=true):s≠[]:=by
 rintro rfl;have:=Si h;simp at this
theorem JB {s:WR} (h:BV s=true):s≠[]:=by
 rintro rfl;have:=Pk h;simp at this
theorem UW (w:WR):JY [w]=if Bq w then some ([],w,[]) else none:=rfl
theorem UV (a b:WR):JY [a,b]=if (C6 a&&Bq b&&decide (a.length < b.length))=true then some (a,b,[]) else if (Bq a&&BV b)=true then some ([],a,b) else none:=rfl
theorem UU (a b c:WR):JY [a,b,c]=if (C6 a&&Bq b&&BV c)=true then some (a,b,c) else none:=rfl
theorem QM {s:WR} {t:Tri} (h:callB s=some t):okT t=true/\s=Ly t:=by
 unfold callB at h
 by_cases hl:s.length<=16
 ·rw [if_pos hl] at h
  have hj:=MO 47 s
  suffices hh:s=Ly t/\((decide (t.1=[])||C6 t.1)&&Bq t.2.1&&(decide (t.2.2=[])||BV t.2.2)&&(decide (t.1=[])|| !decide (t.2.2=[])||decide (t.1.length < t.2.1.length)))=true by
   refine ⟨?_,hh.1⟩
   unfold okT
   rw [hh.2,<-hh.1,decide_eq_true hl];rfl
  revert h hj
  generalize pcs 47 s=ws
  intro h hj
  match ws,h,hj with
  | [w],h,hj=>
   rw [UW] at h
   cases hb:Bq w with
   | false=>rw [hb] at h;simp at h
   | true=>
    rw [hb] at h
    simp at h
    subst h
    have:w=s:=by simpa [List.intercalate] using hj
    exact ⟨by simp [Ly,this],by simp [hb]⟩
  | [a,b],h,hj=>
   have hj':a++47::b=s:=by simpa [List.intercalate] using hj
   rw [UV] at h
   by_cases h1:(C6 a&&Bq b&&decide (a.length < b.length))=true
   ·rw [if_pos h1] at h
    simp at h
    subst h
    simp only [Bool.and_eq_true,decide_eq_true_eq] at h1
    exact ⟨by simp [Ly,hj',P4 h1.1.1],by simp [h1]⟩
   ·rw [if_neg h1] at h
    by_cases h2:(Bq a&&BV b)=true
    ·rw [if_pos h2] at h
     simp at h
     subst h
     simp only [Bool.and_eq_true] at h2
     exact ⟨by simp [Ly,hj',JB h2.2],by simp [h2]⟩
    ·rw [if_neg h2] at h;cases h
  | [a,b,c],h,hj=>
   have hj':a++47::(b++47::c)=s:=by simpa [List.intercalate] using hj
   rw [UU] at h
   by_cases h1:(C6 a&&Bq b&&BV c)=true
   ·rw [if_pos h1] at h
    simp at h
    subst h
    simp only [Bool.and_eq_true] at h1
    refine ⟨?_,?_⟩
    ·rw [<-hj'];simp [Ly,P4 h1.1.1,JB h1.2]
    ·simp [h1,JB h1.2]
   ·rw [if_neg h1] at h;cases h
  | [],h,_=>cases h
  | _::_::_::_::_,h,_=>cases h
 ·rw [if_neg hl] at h;cases h
def FL (s:WR):Bool:=(callB s).isSome
section
variable {N : Nat}
theorem TP (s:WR) (hN:4294967300 < N):Gg N s=some (FL s):=by
 unfold Gg FL
 rw [Ue s hN,oS]
 unfold Qe
 cases callB s <;> rfl
end
def E7 (_N:Nat) (s:WR):Option Bool:=some (FL s)
theorem EU:Ai Tryz.prog 79:=Ku
theorem Ft (N:Nat) (w0:World) (F0:Mem) (hF:WT w0 F0) (hG:Bz F0) (x0:WR) (r:Bool) (h:E7 N x0=some r):
  Calls Tryz.prog 79 ([(.string ⟨(x0).toArray⟩)]:List Value).toArray w0 (AA w0 F0 fun F' v=>v=(.bool r)):=by
 exact K9 9223372036854775808 w0 F0 hF hG x0 r ((TP x0 (by decide)).trans h)
def E8 (_N:Nat) (s:WR):Option (Int×Int):=if s.length < 4294967281 then some (Hg s) else none
theorem K3:Ai Tryz.prog 96:=Kv
theorem Ma (N:Nat) (w0:World) (F0:Mem) (hF:WT w0 F0) (hG:Bz F0) (x0:WR) (r:(Int×Int)) (h:E8 N x0=some r):
  Calls Tryz.prog 96 ([(.string ⟨(x0).toArray⟩)]:List Value).toArray w0 (AA w0 F0 fun F' v=>v=(.tuple #[(.int .i64 r.1),(.int .i64 r.2)])):=by
 unfold E8 at h
 split at h
 ·rename_i hs
  exact La 9223372036854775808 w0 F0 hF hG x0 r ((Pp x0 hs (by decide)).trans h)
 ·cases h
def Cv (_N:Nat) (L:Ac) (s:WR):Option (Ae×Int):=if s.length < 4294967281 then some (B6 L s) else none
theorem BD:Ai Tryz.prog 97:=HV
theorem BL (N:Nat) (w0:World) (F0:Mem) (hF:WT w0 F0) (hG:Bz F0) (x0:Ac) (x1:WR) (r:(Ae×Int)) (h:Cv N x0 x1=some r):
  Calls Tryz.prog 97 ([(.agg #[(.bool x0.Report),(.bool x0.Serial),(.bool x0.Zone)]),(.string ⟨(x1).toArray⟩)]:List Value).toArray w0 (AA w0 F0 fun F' v=>v=(.tuple #[(.agg #[(.int .i64 r.1.Report),(.int .i64 r.1.Serial),(.int .i64 r.1.Zone)]),(.int .i64 r.2)])):=by
 unfold Cv at h
 split at h
 ·rename_i hs
  exact IJ 9223372036854775808 w0 F0 hF hG x0 x1 r ((Sy x0 x1 hs (by decide)).trans h)
 ·cases h
section
open Go.Lib (decDigits)
theorem DP {r:List WR} (h:r≠[]) (x:WR):jn (x::r)=x++32::jn r:=by
 match r,h with
 | y::r,_=>
  unfold jn
  rw [Go.Lib.join_cons,Go.Lib.join_cons]
  unfold Go.Lib.joinTail
  simp
theorem Tc:∀ {a b:List WR},a≠[]->b≠[]->jn (a++b)=jn a++32::jn b
 | [],_,h,_=>absurd rfl h
 | [x],b,_,hb=>by rw [List.singleton_append,DP hb,Eh]
 | x::y::a,b,_,hb=>by
  rw [List.cons_append,DP (by simp),DP (by simp),Tc (by simp) hb];simp
theorem Ro:∀ {L:List (List WR)},(∀ l,l∈L->l≠[])->jn (L.map jn)=jn L.flatten
 | [],_=>rfl
 | [l],_=>by simp [Eh]
 | l::m::L,h=>by
  have ih:=Ro (L:=m::L) (fun x hx=>h x (List.mem_cons_of_mem _ hx))
  have hm:(m::L).flatten≠[]:=by
   have:=h m (by simp)
   simp [this]
  rw [List.map_cons,DP (by simp),ih,List.flatten_cons (l:=l),Tc (h l (by simp)) hm]
theorem Ra {l:List WR} (hn:l≠[]) (h:∀ w,w∈l->(32:UInt8)∉w):pcs 32 (jn l)=l:=by
 cases l with
 | nil=>exact absurd rfl hn
 | cons x r=>exact Qw r x (h x (by simp)) fun y hy=>h y (by simp [hy])
theorem QC (s:WR):jn (pcs 32 s)=s:=by
 have:∀ (l:List WR),l≠[]->jn l=[32].intercalate l:=by
  intro l
  induction l with
  | nil=>intro h;exact absurd rfl h
  | cons x r ih=>
   intro _
   cases r with
   | nil=>rw [Eh];simp [List.intercalate]
   | cons y r=>
    rw [DP (by simp),ih (by simp)]
    simp [List.intercalate,List.intersperse]
 rw [this _ (Hf 32 s),MO]
def Se (b:UInt8):Bool:=isL b||isD b||b==47
def Il (s:WR):Bool:=wiB s.length 1 16&&s.all Se
def Do (o:Ac) (x:Line):Bool:=decide (1<=x.Num/\x.Num<=65535)&&(decide (1<=x.Khz/\x.Khz<=10000000)&&(decide (1<=x.Mode/\x.Mode<=3)&&(decide (0<=x.Minute/\x.Minute<=20000)&&(Il x.Call&&(C9 o x.Sent&&C9 o x.Got)))))
structure OkL (o:Ac) (x:Line):Prop where
 n:1<=x.Num/\x.Num<=65535
 k:1<=x.Khz/\x.Khz<=10000000
 m:1<=x.Mode/\x.Mode<=3
 t:0<=x.Minute/\x.Minute<=20000
 c:Il x.Call=true
 s:C9 o x.Sent=true
 g:C9 o x.Got=true
theorem CE {o:Ac} {x:Line}:Do o x=true ↔ OkL o x:=by
 unfold Do
 simp only [Bool.and_eq_true,decide_eq_true_eq]
 exact ⟨fun ⟨a,b,c,d,e,f,g⟩=>⟨a,b,c,d,e,f,g⟩,fun h=>⟨h.n,h.k,h.m,h.t,h.c,h.s,h.g⟩⟩
def KS (m:Int):WR:=if m=1 then [77] else if m=2 then [86] else [68]
def fsw (o:Ac) (E:Ae):List WR:=if fs o E=[] then [[45]] else fs o E
def tW (u:Nat):List WR:=[decDigits (u / 1440 + 1),dP 2 (u / 60 % 24)++dP 2 (u % 60)]
def QSO:WR:=[81,83,79]
def Jr (x:Line):List WR:=[QSO,decDigits x.Num.toNat,decDigits x.Khz.toNat,KS x.Mode]++tW x.Minute.toNat++[x.Call,[62]]
def Fy (o:Ac) (x:Line):List WR:=Jr x++(fsw o x.Sent++[60]::fsw o x.Got)
def B7 (o:Ac) (x:Line):WR:=jn (Fy o x)
theorem Pj (u:Nat):Fv u=jn (tW u):=by unfold Fv tW;rw [DP (by simp),Eh]
theorem H0 (o:Ac) (E:Ae):Fu o E=jn (fsw o E):=by
 unfold Fu fsw
 split
 ·rw [Eh]
 ·rfl
theorem Vx (o:Ac) (E:Ae):fsw o E≠[]:=by
 unfold fsw
 split
 ·simp
 ·assumption
theorem RW (o:Ac) (x:Line):jn [QSO,decDigits x.Num.toNat,decDigits x.Khz.toNat,KS x.Mode,Fv x.Minute.toNat,x.Call,[62],Fu o x.Sent,[60],Fu o x.Got]=B7 o x:=by
 have h:=Ro (L:=[[QSO],[decDigits x.Num.toNat],[decDigits x.Khz.toNat],[KS x.Mode],tW x.Minute.toNat,[x.Call],[[62]],fsw o x.Sent,[[60]],fsw o x.Got]) (by
  intro l hl
  simp only [List.mem_cons,List.not_mem_nil,or_false] at hl
  rcases hl with rfl | rfl | rfl | rfl | rfl | rfl | rfl | rfl | rfl | rfl
  all_goals first | exact Vx _ _ | simp [tW])
 simp only [List.map_cons,List.map_nil,Eh,<-Pj,<-H0] at h
 rw [h]
 unfold B7 Fy Jr
 simp
theorem FX {o:Ac} {E:Ae} (h:C9 o E=true):∀ w,w∈fsw o E->(32:UInt8)∉w/\w≠[60]/\w≠[62]/\w.length<=5:=by
 intro w hw
 unfold fsw at hw
 split at hw
 ·simp at hw;subst hw;decide
 ·obtain ⟨h1,h2,h3⟩:=Mn (okE h) w hw
  refine ⟨no32 h2,?_,?_,h1⟩
  ·rintro rfl;revert h2;decide
  ·rintro rfl;revert h2;decide
theorem Nb {s:WR} (h:Il s=true):(32:UInt8)∉s/\s≠[60]/\s≠[62]/\1<=s.length/\s.length<=16:=by
 unfold Il wiB at h
 simp only [Bool.and_eq_true,decide_eq_true_eq] at h
 obtain ⟨⟨h1,h2⟩,h3⟩:=h
 rw [List.all_eq_true] at h3
 refine ⟨fun hm=>?_,?_,?_,h1,h2⟩
 ·have:=h3 _ hm;revert this;decide
 ·rintro rfl;have:=h3 60 (by simp);revert this;decide
 ·rintro rfl;have:=h3 62 (by simp);revert this;decide
theorem RX (m:Int):(32:UInt8)∉KS m/\KS m≠[60]:=by
 unfold KS;split
 ·decide
 ·split <;> decide
theorem OX (u:Nat):(32:UInt8)∉decDigits u/\decDigits u≠[60]:=by
 refine ⟨no32 (Iq u),fun h=>?_⟩
 have:=Iq u
 rw [h] at this;revert this;decide
theorem Og {o:Ac} {x:Line} (h:OkL o x):∀ w,w∈Jr x->(32:UInt8)∉w/\w≠[60]:=by
 intro w hw
 have hc:=Nb h.c
 have hall:(dP 2 (x.Minute.toNat / 60 % 24)++dP 2 (x.Minute.toNat % 60)).all isD=true:=by rw [List.all_append,Is,Is];rfl
 unfold Jr tW at hw
 simp only [List.mem_append,List.mem_cons,List.not_mem_nil,or_false] at hw
 rcases hw with ((rfl | rfl | rfl | rfl) | (rfl | rfl)) | (rfl | rfl)
 ·decide
 ·exact OX _
 ·exact OX _
 ·exact RX _
 ·exact OX _
 ·refine ⟨no32 hall,fun e=>?_⟩
  rw [e] at hall;revert hall;decide
 ·exact ⟨hc.1,hc.2.1⟩
 ·decide
theorem FU {o:Ac} {x:Line} (h:OkL o x):pcs 32 (B7 o x)=Fy o x:=by
 refine Ra (by unfold Fy Jr;simp) fun w hw=>?_
 unfold Fy at hw
 simp only [List.mem_append,List.mem_cons] at hw
 rcases hw with hw | hw | rfl | hw
 ·exact (Og h w hw).1
 ·exact (FX h.s w hw).1
 ·decide
 ·exact (FX h.g w hw).1
theorem Oh (x:Line):(Jr x).length=8:=rfl
theorem UQ:∀ (l:List WR) (k:Nat),(∀ w,w∈l->w.length<=k)->(jn l).length<=l.length * (k + 1)
 | [],k,_=>by simp [Ta]
 | [x],k,h=>by have:=h x (by simp);rw [Eh];simp;omega
 | x::y::r,k,h=>by
  have:=h x (by simp)
  have:=UQ (y::r) k fun w hw=>h w (List.mem_cons_of_mem _ hw)
  rw [DP (by simp),List.length_append,List.length_cons,List.length_cons,Nat.succ_mul]
  omega
theorem S4 {o:Ac} {x:Line} (h:OkL o x):(B7 o x).length<=300:=by
 have hc:=Nb h.c
 obtain ⟨n1,n2⟩:=h.n
 obtain ⟨k1,k2⟩:=h.k
 have hw:∀ w,w∈Fy o x->w.length<=16:=by
  intro w hw
  have d1:=Ip 4 x.Num.toNat (by omega)
  have d2:=Ip 7 x.Khz.toNat (by omega)
  have d3:=OY (u:=x.Minute.toNat / 1440 + 1) (by have:=h.t;omega)
  have d4:=I1 (u:=x.Minute.toNat / 60 % 24) (by omega)
  have d5:=I1 (u:=x.Minute.toNat % 60) (by omega)
  unfold Fy Jr tW at hw
  simp only [List.mem_append,List.mem_cons,List.not_mem_nil,or_false] at hw
  rcases hw with (((rfl | rfl | rfl | rfl) | (rfl | rfl)) | (rfl | rfl)) | hw | rfl | hw
  ·decide
  ·omega
  ·omega
  ·unfold KS;split
   ·decide
   ·split <;> decide
  ·omega
  ·rw [List.length_append];omega
  ·omega
  ·decide
  ·have:=(FX h.s w hw).2.2.2;omega
  ·decide
  ·have:=(FX h.g w hw).2.2.2;omega
 have hl:(Fy o x).length<=16:=by
  have h1:=OT o x.Sent
  have h2:=OT o x.Got
  have f:∀ E,(fs o E).length<=3->(fsw o E).length<=3:=fun E hE=>by
   unfold fsw;split
   ·simp
   ·exact hE
  have:=f _ h1
  have:=f _ h2
  unfold Fy
  rw [List.length_append,Oh,List.length_append,List.length_cons];omega
 have:=UQ _ 16 hw
 have:(Fy o x).length * 17<=16 * 17:=Nat.mul_le_mul_right _ hl
 unfold B7;omega
noncomputable def Hh (o:Ac) (s:WR):Option Line:=@dite _ (∃ x,Do o x=true/\B7 o x=s) (Classical.propDecidable _) (fun h=>some (Classical.choose h)) (fun _=>none)
theorem I0 {a b:Int} (ha:0<=a) (hb:0<=b) (h:decDigits a.toNat=decDigits b.toNat):a=b:=by
 have:=KV a.toNat
 rw [h,KV] at this;omega
theorem S6 {a b:Int} (ha:1<=a/\a<=3) (hb:1<=b/\b<=3) (h:KS a=KS b):a=b:=by
 have h1:a=1\/a=2\/a=3:=by omega
 have h2:b=1\/b=2\/b=3:=by omega
 rcases h1 with rfl | rfl | rfl <;> rcases h2 with rfl | rfl | rfl <;> first | rfl | exact absurd h (by decide)
theorem Rq {o:Ac} {E G:Ae} (hE:C9 o E=true) (hG:C9 o G=true) (h:fsw o E=fsw o G):E=G:=by
 have e:Fu o E=Fu o G:=by rw [H0,H0,h]
 have h1:=Gs hE
 rw [e,Gs hG] at h1
 exact (congrArg Prod.fst h1).symm
theorem MA {a b c d:List WR} (ha:∀ w,w∈a->w≠[60]) (hc:∀ w,w∈c->w≠[60]) (h:a++[60]::b=c++[60]::d):a=c/\b=d:=by
 induction a generalizing c with
 | nil=>
  cases c with
  | nil=>simp at h;exact ⟨rfl,h⟩
  | cons y c=>simp at h;exact absurd h.1.symm (hc y (by simp))
 | cons x a ih=>
  cases c with
  | nil=>simp at h;exact absurd h.1 (ha x (by simp))
  | cons y c=>
   simp only [List.cons_append,List.cons.injEq] at h
   obtain ⟨h1,h2⟩:=ih (fun w hw=>ha w (by simp [hw])) (fun w hw=>hc w (by simp [hw])) h.2
   exact ⟨by rw [h.1,h1],h2⟩
theorem S5 {o:Ac} {x y:Line} (hx:OkL o x) (hy:OkL o y) (h:B7 o x=B7 o y):x=y:=by
 have hw:Fy o x=Fy o y:=by rw [<-FU hx,<-FU hy,h]
 unfold Fy at hw
 obtain ⟨h1,h2⟩:=List.append_inj hw rfl
 obtain ⟨h3,h4⟩:=MA (fun w hw=>(FX hx.s w hw).2.1) (fun w hw=>(FX hy.s w hw).2.1) h2
 unfold Jr tW at h1
 simp only [List.cons_append,List.nil_append,List.cons.injEq,and_true,true_and] at h1
 obtain ⟨e1,e2,e3,e4,e5,e6⟩:=h1
 have t:x.Minute=y.Minute:=by
  have h1:Fv x.Minute.toNat=Fv y.Minute.toNat:=by unfold Fv;rw [e4,e5]
  have h2:=JI (u:=x.Minute.toNat) (by have:=hx.t;omega)
  rw [h1,JI (u:=y.Minute.toNat) (by have:=hy.t;omega)] at h2
  have:=congrArg Prod.fst h2
  simp only at this
  have:=hx.t;have:=hy.t
  omega
 have a1:=I0 (by have:=hx.n;omega) (by have:=hy.n;omega) e1
 have a2:=I0 (by have:=hx.k;omega) (by have:=hy.k;omega) e2
 have a3:=S6 hx.m hy.m e3
 have a4:=Rq hx.s hy.s h3
 have a5:=Rq hx.g hy.g h4
 cases x;cases y
 simp only at a1 a2 a3 a4 a5 t e6
 subst a1 a2 a3 a4 a5 t e6
 rfl
theorem Ep {o:Ac} {s:WR} {x:Line}:Hh o s=some x ↔ Do o x=true/\B7 o x=s:=by
 unfold Hh
 constructor
 ·intro h
  split at h
  ·rename_i hx
   cases h
   exact Classical.choose_spec hx
  ·cases h
 ·rintro ⟨h1,h2⟩
  have hex:∃ x,Do o x=true/\B7 o x=s:=⟨x,h1,h2⟩
  rw [dif_pos hex]
  have h3:=Classical.choose_spec hex
  rw [S5 (CE.1 h3.1) (CE.1 h1) (h3.2.trans h2.symm)]
theorem PB {o:Ac} {s:WR}:Hh o s=none ↔ ∀ x,Do o x=true->B7 o x≠s:=by
 constructor
 ·intro h x hx e
  rw [Ep.2 ⟨hx,e⟩] at h;cases h
 ·intro h
  cases hp:Hh o s with
  | none=>rfl
  | some x=>exact absurd (Ep.1 hp).2 (h x (Ep.1 hp).1)
end
def up (b:UInt8):UInt8:=if 97<=b.toNat/\b.toNat<=122 then b - 32 else b
def wsF (b:UInt8):Bool:=b==32||(b==9||b==13)
def rfS (st:WR×Bool) (b:UInt8):WR×Bool:=if wsF b=true then (st.1,true) else ((if st.2=true/\st.1≠[] then st.1++[32] else st.1)++[up b],false)
def EF (s:WR):WR:=(s.foldl rfS ([],false)).1
set_option maxRecDepth 100000 in
theorem UJ {b:UInt8} (h:wsF b=false):up b≠9/\up b≠13/\up b≠32:=by
 have:∀ n:Fin 256,wsF (UInt8.ofNat n.val)=false->up (UInt8.ofNat n.val)≠9/\up (UInt8.ofNat n.val)≠13/\up (UInt8.ofNat n.val)≠32:=by decide
 have h2:=this ⟨b.toNat,b.toNat_lt⟩
 simp only [UInt8.ofNat_toNat] at h2
 exact h2 h
theorem KT (s:WR):(EF s).length<=s.length:=by
 have:∀ (s:WR) (st:WR×Bool),(s.foldl rfS st).1.length + 0<=st.1.length + s.length + (if st.2=true/\st.1≠[] then 1 else 0):=by
  intro s
  induction s with
  | nil=>intro st;simp
  | cons b s ih=>
   intro st
   rw [List.foldl_cons]
   have h:=ih (rfS st b)
   refine Nat.le_trans h ?_
   unfold rfS
   by_cases hw:wsF b=true
   ·rw [if_pos hw]
    simp only [List.length_cons]
    split <;> split <;> omega
   ·rw [if_neg hw]
    simp only [List.length_append,List.length_cons,List.length_nil]
    by_cases hg:st.2=true/\st.1≠[]
    ·simp only [if_pos hg,List.length_append,List.length_cons,List.length_nil,Bool.false_eq_true,false_and,if_false];omega
    ·simp only [if_neg hg,List.length_append,List.length_cons,List.length_nil,Bool.false_eq_true,false_and,if_false];omega
 have:=this s ([],false)
 unfold EF
 simpa using this
section
open Go.Lib (decDigits)
def Sm:WR:=[67,65,76,76]
def UZ:WR:=[67,65,84,69,71,79,82,89]
def UX:WR:=[80,79,87,69,82]
def UY:WR:=[67,76,65,73,77,69,68]
def HO:WR:=[74,85,77,80,83]
def HP:WR:=[69,78,68]
def R6:List Int->Bool
 | []=>true
 | [_]=>true
 | a::b::r=>decide (a < b)&&R6 (b::r)
def Kj (l:List Int):Bool:=l.all (fun n=>decide (1<=n/\n<=20000))&&(R6 l&&decide (l.length<=16))
def hdW (l:Log) (k:Nat):List WR:=match k with
 | 0=>[Sm,l.Call]
 | 1=>[UZ,decDigits l.Category.toNat]
 | 2=>[UX,decDigits l.Power.toNat]
 | 3=>[UY,decDigits l.Claimed.toNat]
 | _=>HO::l.Jumps.map fun n=>decDigits n.toNat
def hdT (l:Log) (k:Nat):WR:=jn (hdW l k)
def hdV (l:Log) (k:Nat):Bool:=match k with
 | 0=>FL l.Call
 | 1=>decide (1<=l.Category/\l.Category<=9)
 | 2=>decide (1<=l.Power/\l.Power<=9999)
 | 3=>decide (0<=l.Claimed/\l.Claimed<=1000000)
 | _=>Kj l.Jumps
def hdS (k:Nat) (v l:Log):Log:=match k with
 | 0=>{l with Call:=v.Call}
 | 1=>{l with Category:=v.Category}
 | 2=>{l with Power:=v.Power}
 | 3=>{l with Claimed:=v.Claimed}
 | _=>{l with Jumps:=v.Jumps}
theorem Sf {s:WR} (h:FL s=true):∀ b,b∈s->isL b=true\/isD b=true\/b=47:=by
 unfold FL at h
 cases hc:callB s with
 | none=>rw [hc] at h;cases h
 | some t=>
  obtain ⟨h1,h2⟩:=QM hc
  have e:∀ {l:WR},l.all isE=true->∀ b,b∈l->isL b=true\/isD b=true\/b=47:=fun hl b hb=>by
   have:=List.all_eq_true.1 hl b hb
   unfold isE at this
   rw [Bool.or_eq_true] at this
   rcases this with h | h
   ·exact .inl h
   ·exact .inr (.inl h)
  unfold okT at h1
  simp only [Bool.and_eq_true,Bool.or_eq_true,decide_eq_true_eq] at h1
  obtain ⟨⟨⟨⟨a1,a2⟩,a3⟩,_⟩,_⟩:=h1
  intro b hb
  rw [h2] at hb
  unfold Ly at hb
  rcases List.mem_append.1 hb with hb | hb
  ·by_cases ht:t.1=[]
   ·rw [if_pos ht] at hb;exact e (Rw a2) b hb
   ·rw [if_neg ht] at hb
    rcases List.mem_append.1 hb with hb | hb
    ·rcases a1 with a1 | a1
     ·exact absurd a1 ht
     ·exact e (UF a1) b hb
    ·rcases List.mem_cons.1 hb with rfl | hb
     ·exact .inr (.inr rfl)
     ·exact e (Rw a2) b hb
  ·by_cases ht:t.2.2=[]
   ·rw [if_pos ht] at hb;cases hb
   ·rw [if_neg ht] at hb
    rcases List.mem_cons.1 hb with rfl | hb
    ·exact .inr (.inr rfl)
    ·rcases a3 with a3 | a3
     ·exact absurd a3 ht
     ·exact e (RE a3) b hb
def plB (b:UInt8):Bool:=decide (33<=b.toNat)&&decide (b.toNat<=95)
theorem U7 {b:UInt8} (h:plB b=true):b≠32/\b≠10/\b≠9/\b≠13/\ ¬ (97<=b.toNat/\b.toNat<=122):=by
 unfold plB at h
 simp only [Bool.and_eq_true,decide_eq_true_eq] at h
 refine ⟨?_,?_,?_,?_,by omega⟩ <;> · rintro rfl;revert h;decide
theorem Vo {b:UInt8} (h:isL b=true):plB b=true:=by unfold isL at h;unfold plB;simp at h ⊢;omega
theorem Tf {b:UInt8} (h:isD b=true):plB b=true:=by unfold isD at h;unfold plB;simp at h ⊢;omega
theorem V6 (u:Nat):(decDigits u).all plB=true:=by
 rw [List.all_eq_true]
 exact fun b hb=>Tf (List.all_eq_true.1 (Iq u) b hb)
def Wd (w:WR):Prop:=w≠[]/\w.all plB=true
theorem QT (u:Nat):Wd (decDigits u):=⟨by have:=Ni u;intro e;rw [e] at this;simp at this,V6 u⟩
theorem Wd.no32 {w:WR} (h:Wd w):(32:UInt8)∉w:=fun hm=>(U7 (List.all_eq_true.1 h.2 _ hm)).1 rfl
theorem PS {l:Log} {k:Nat} (h:hdV l k=true):hdW l k≠[]/\ ∀ w,w∈hdW l k->Wd w:=by
 match k,h with
 | 0,h=>
  refine ⟨by simp [hdW],fun w hw=>?_⟩
  simp only [hdW,List.mem_cons,List.not_mem_nil,or_false] at hw
  rcases hw with rfl | rfl
  ·exact ⟨by decide,by decide⟩
  ·refine ⟨?_,?_⟩
   ·rintro e
    have h:FL l.Call=true:=h
    rw [e] at h;revert h;decide
   ·rw [List.all_eq_true]
    intro b hb
    rcases Sf h b hb with h | h | rfl
    ·exact Vo h
    ·exact Tf h
    ·decide
 | 1,h=>
  refine ⟨by simp [hdW],fun w hw=>?_⟩
  simp only [hdW,List.mem_cons,List.not_mem_nil,or_false] at hw
  rcases hw with rfl | rfl
  ·exact ⟨by decide,by decide⟩
  ·exact QT _
 | 2,h=>
  refine ⟨by simp [hdW],fun w hw=>?_⟩
  simp only [hdW,List.mem_cons,List.not_mem_nil,or_false] at hw
  rcases hw with rfl | rfl
  ·exact ⟨by decide,by decide⟩
  ·exact QT _
 | 3,h=>
  refine ⟨by simp [hdW],fun w hw=>?_⟩
  simp only [hdW,List.mem_cons,List.not_mem_nil,or_false] at hw
  rcases hw with rfl | rfl
  ·exact ⟨by decide,by decide⟩
  ·exact QT _
 | k + 4,h=>
  refine ⟨by simp [hdW],fun w hw=>?_⟩
  simp only [hdW,List.mem_cons,List.mem_map] at hw
  rcases hw with rfl | ⟨n,_,rfl⟩
  ·exact ⟨by decide,by decide⟩
  ·exact QT _
theorem Nc {l:Log} {k:Nat} (h:hdV l k=true):pcs 32 (hdT l k)=hdW l k:=Ra (PS h).1 fun w hw=>((PS h).2 w hw).no32
def fw (s:WR):WR:=(pcs 32 s).headD []
def fwK (k:Nat):WR:=match k with | 0=>Sm | 1=>UZ | 2=>UX | 3=>UY | _=>HO
theorem Rp {l:Log} {k:Nat} (h:hdV l k=true):fw (hdT l k)=fwK k:=by
 unfold fw
 rw [Nc h]
 match k with
 | 0=>rfl
 | 1=>rfl
 | 2=>rfl
 | 3=>rfl
 | k + 4=>rfl
theorem Uz {o:Ac} {x:Line} (h:OkL o x):fw (B7 o x)=QSO:=by unfold fw;rw [FU h];rfl
theorem Vw:fw HP=HP:=rfl
theorem Uv {u v:Log} {j k:Nat} (hj:j<=4) (hk:k<=4) (hu:hdV u j=true) (hv:hdV v k=true) (h:hdT u j=hdT v k):j=k:=by
 have e:=Rp hu
 rw [h,Rp hv] at e
 have a:j=0\/j=1\/j=2\/j=3\/j=4:=by omega
 have b:k=0\/k=1\/k=2\/k=3\/k=4:=by omega
 rcases a with rfl | rfl | rfl | rfl | rfl <;> rcases b with rfl | rfl | rfl | rfl | rfl <;> first | rfl | exact absurd e (by decide)
theorem PT {u:Log} {k:Nat} {o:Ac} {x:Line} (hu:hdV u k=true) (hx:OkL o x):hdT u k≠B7 o x:=by
 intro h
 have e:=Rp hu
 rw [h,Uz hx] at e
 match k with
 | 0=>exact absurd e (by decide)
 | 1=>exact absurd e (by decide)
 | 2=>exact absurd e (by decide)
 | 3=>exact absurd e (by decide)
 | k + 4=>exact absurd e (by show ¬ _=HO;decide)
theorem Nd {u:Log} {k:Nat} (hu:hdV u k=true):hdT u k≠HP:=by
 intro h
 have e:=Rp hu
 rw [h,Vw] at e
 match k with
 | 0=>exact absurd e (by decide)
 | 1=>exact absurd e (by decide)
 | 2=>exact absurd e (by decide)
 | 3=>exact absurd e (by decide)
 | k + 4=>exact absurd e (by show ¬ _=HO;decide)
theorem IY {l:List Int} (h:Kj l=true):∀ n,n∈l->1<=n/\n<=20000:=by
 unfold Kj at h
 simp only [Bool.and_eq_true,List.all_eq_true,decide_eq_true_eq] at h
 exact h.1
theorem Ls:∀ {a b:List Int},(∀ n,n∈a->0<=n)->(∀ n,n∈b->0<=n)->(a.map fun n=>decDigits n.toNat)=(b.map fun n=>decDigits n.toNat)->a=b
 | [],[],_,_,_=>rfl
 | [],_::_,_,_,h=>by simp at h
 | _::_,[],_,_,h=>by simp at h
 | x::a,y::b,ha,hb,h=>by
  simp only [List.map_cons,List.cons.injEq] at h
  rw [I0 (ha x (by simp)) (hb y (by simp)) h.1,Ls (fun n hn=>ha n (by simp [hn])) (fun n hn=>hb n (by simp [hn])) h.2]
theorem Vt {u v:Log} {k:Nat} (hu:hdV u k=true) (hv:hdV v k=true) (h:hdT u k=hdT v k):∀ l,hdS k u l=hdS k v l:=by
 have e:hdW u k=hdW v k:=by rw [<-Nc hu,<-Nc hv,h]
 intro l
 match k,hu,hv,e with
 | 0,hu,hv,e=>
  simp only [hdW,List.cons.injEq,and_true,true_and] at e
  simp only [hdS,e]
 | 1,hu,hv,e=>
  simp only [hdW,List.cons.injEq,and_true,true_and] at e
  simp only [hdV,decide_eq_true_eq] at hu hv
  simp only [hdS,I0 (by omega) (by omega) e]
 | 2,hu,hv,e=>
  simp only [hdW,List.cons.injEq,and_true,true_and] at e
  simp only [hdV,decide_eq_true_eq] at hu hv
  simp only [hdS,I0 (by omega) (by omega) e]
 | 3,hu,hv,e=>
  simp only [hdW,List.cons.injEq,and_true,true_and] at e
  simp only [hdV,decide_eq_true_eq] at hu hv
  simp only [hdS,I0 (by omega) (by omega) e]
 | k + 4,hu,hv,e=>
  simp only [hdW,List.cons.injEq,true_and] at e
  have:=Ls (fun n hn=>by have:=IY (show Kj u.Jumps=true from hu) n hn;omega) (fun n hn=>by have:=IY (show Kj v.Jumps=true from hv) n hn;omega) e
  simp only [hdS,this]
end
section
open Go.Lib (decDigits)
def lnE (s:WR):List (WR×Bool):=match (pcs 10 s).getLast?,(pcs 10 s).dropLast with
 | some [],l=>l.map fun x=>(x,true)
 | some x,l=>l.map (fun x=>(x,true))++[(x,false)]
 | none,l=>l.map fun x=>(x,true)
theorem PA {c:UInt8}:∀ {L:List WR} {x:WR},(∀ y,y∈L->c∉y)->c∉x->pcs c (L.flatMap (fun y=>y++[c])++x)=L++[x]
 | [],x,_,hx=>by simpa using Fc hx
 | y::L,x,hL,hx=>by
  have ih:=PA (L:=L) (x:=x) (fun z hz=>hL z (by simp [hz])) hx
  rw [List.flatMap_cons]
  have:y++[c]++L.flatMap (fun y=>y++[c])++x=y++c::(L.flatMap (fun y=>y++[c])++x):=by simp
  rw [this,Gr (hL y (by simp)),ih];rfl
theorem Uq {L:List WR} (h:∀ y,y∈L->(10:UInt8)∉y):lnE (L.flatMap fun y=>y++[10])=L.map fun x=>(x,true):=by
 have:=PA (c:=10) (L:=L) (x:=[]) h (by simp)
 rw [List.append_nil] at this
 unfold lnE
 rw [this]
 simp
def Wc (o:Ac) (l:List Line) (i:Nat):Bool:=match l[i]? with
 | some x=>Do o x&&(decide (i=0)||match l[i - 1]? with
  | some y=>decide (y.Num < x.Num)&&decide (y.Minute<=x.Minute)
  | none=>true)
 | none=>true
end
def AP (N:Nat) (x0 x1 x2:Int):Option Bool:=
 some ((decide (x1<=x0))&&(decide (x0<=x2)))
theorem AC:Ai Tryz.prog 73:=fun _ _=>by kernel_rfl
theorem AH (N:Nat) (w0:World) (F0:Mem) (hF:WT w0 F0) (x0 x1 x2:Int) (r:Bool) (h:AP N x0 x1 x2=some r):
  Calls Tryz.prog 73 ([(vi x0),(vi x1),(vi x2)]:List Value).toArray w0 (AA w0 F0 fun F' v=>v=(.bool r)):=by
 have h1:=Wx hF
 refine Go 15 Tryz.func73<|Sq (Rg [0] ?_)
 refine Vs 1<|Nss (Rg (rG 9) ?_)
 refine WB (fun f w=>∃ (F1:Mem),HS w0 F0 w F1 []/\Wv F0 F1/\FI f [] [(6,(.bool ((decide (x1<=x0))&&(decide (x0<=x2)))))]) ?_ ?_
 ·refine Vs 4 ?_
  refine WA (decide (x1<=x0)) (fun h0=>?_) (fun h0=>?_)
  ·refine Vgs h0 3 ?_
   refine Pk1 h0<|Vs 1 ?_
   exact Wr ⟨rfl,F0,h1,(Ww _),(fJ ⟨(congrArg Value.bool (Es h0 rfl)),trivial⟩)⟩
  ·refine Ss h0 3 ?_
   refine Pk0 h0<|Vs 1 ?_
   exact Wr ⟨rfl,F0,h1,(Ww _),(fJ ⟨(congrArg Value.bool (IM h0 rfl)),trivial⟩)⟩
 ·rintro f h3 ⟨F1,h2,h4,⟨_,rfl⟩⟩
  refine Ab<|Rt ?_
  obtain rfl:=Aa h
  exact Re [(.bool ((decide (x1<=x0))&&(decide (x0<=x2))))] h2 rfl
def D5 (N:Nat) (x0:WR) (h5:Bool):(Bool×Int)->Option (BF Bool (Bool×Int)):=fun h0=>
 (bif (decide (h0.2 < (x0.length:Int))) then ((RF x0 h0.2).bind fun h1=>((bif h0.1 then ((AP N (W64 h1) 65 90).bind fun h2=>(bif h2 then some true else ((AP N (W64 h1) 48 57).bind fun h3=>(bif h3 then some true else some (h1==47))))) else some false).bind fun h4=>some (.next (h4,(W64 (h0.2 + 1)))))) else some (.done (h0.1,h0.2)))
def Hl (N:Nat) (x0:WR):Option Bool:=
 ((AP N (x0.length:Int) 1 16).bind fun h0=>((AX (D5 N x0 h0) N (h0,0)).bind fun o=>o.k (fun r=>some r) (fun h1=>some h1.1)))
theorem NP:Ai Tryz.prog 74:=fun _ _=>by kernel_rfl
theorem O9 (N:Nat) (w0:World) (F0:Mem) (hF:WT w0 F0) (x0:WR) (r:Bool) (h:Hl N x0=some r):
  Calls Tryz.prog 74 ([(sv x0)]:List Value).toArray w0 (AA w0 F0 fun F' v=>v=(.bool r)):=by
 have h9:=Wx hF
 refine Go 34 Tryz.func74<|Sq (Rg [0] ?_)
 refine Vs 1<|Nss (Rg (rG 4) ?_)
 refine Vs 2 ?_
 obtain ⟨ha,hh,hl⟩:=bS h
 refine Cl' AC h9 (AH N w0 F0 h9.pers ((x0.length:Int)) 1 16 _ hh) ?_
 rintro _ F1 bi hm bj rfl
 refine Vs 1<|Nss<|Sq (Rg [0,1,2] ?_)
 refine Vs 3<|Nt ?_
 obtain ⟨hb,hn,ho⟩:=bS hl
 refine WC (fun f w=>∃ (h4:(Bool×Int)) (F3:Mem),hb=.done h4/\HS w0 F0 w F3 []/\Wv F1 F3/\FI f [] [(3,(.bool h4.1))]) ?_ ?_
 ·refine Bk ?_
  refine Wu (by kernel_rfl) (fun m f w=>∃ (h1:(Bool×Int)) (F2:Mem),AX (D5 N x0 ha) m h1=some hb/\HS w0 F0 w F2 []/\Wv F1 F2/\FI f [] [(0,(sv x0)),(3,(.bool h1.1)),(10,(vi (x0.length:Int))),(11,(vi h1.2))]) N ⟨(ha,0),F1,hn,hm,(Ww _),fI⟩ ?_
  rintro bk f hp ⟨h1,F2,hq,h5,hc,⟨_,rfl⟩⟩
  obtain ⟨hr,bl,rfl,ht,hd⟩:=AU hq
  refine Sq (Rg [0] ?_)
  refine Vs 1<|Nss<|Cd ht (fun hu hv=>?_) (fun hu hw=>?_)
  ·refine Sc ?_
   refine Ab<|Sq<|Bk<|Sq (Rg [0,1] ?_)
   refine Vs 2<|Nss (Rg (rG 4) ?_)
   refine Vs 2 ?_
   obtain ⟨h6,hx,hy⟩:=bS hv
   refine V 16 5 (Pq (t:=9) (x:=(.tmp 14)) (y:=(.tmp 15)) (a:=x0) (k:=.i64) (i:=h1.2) (v:=h6) rfl rfl (by kernel_rfl) hx)<|Vs 1<|Nt<|Rg (rG 16) ?_
   obtain ⟨he,hz,b0⟩:=bS hy
   refine WB (fun f w=>∃ (F4:Mem),HS w0 F0 w F4 []/\Wv F2 F4/\FI f [] [(0,(sv x0)),(3,(.bool he)),(10,(vi (x0.length:Int))),(11,(vi h1.2))]) ?_ ?_
   ·refine Vs 2 ?_
    refine Sp hz (fun h0 b1=>?_) (fun h0 b2=>?_)
    ·refine Vgs h0 2 ?_
     obtain ⟨bm,b3,b4⟩:=bS b1
     refine Cg h0 AC h5 (AH N hp F2 h5.pers ((W64 h6)) 65 90 _ b3) ?_
     rintro _ F5 b5 h7 h8 rfl
     refine Vgs h0 1<|Sp b4 (fun h2 b6=>?_) (fun h2 b7=>?_)
     ·refine Ss h2 3 ?_
      refine Pg1 h0 h2<|Vgs h0 1<|Ss (rfl:true=true) 2<|Pg1 h0 (rfl:true=true)<|Pk1 h0<|Vs 1 ?_
      obtain rfl:=Aa b6
      exact Wr ⟨rfl,F5,h7,h8,fI⟩
     ·refine Vgs h2 2 ?_
      obtain ⟨bn,b8,b9⟩:=bS b7
      refine Cg h2 AC h7 (AH N b5 F5 h7.pers ((W64 h6)) 48 57 _ b8) ?_
      rintro _ F6 bo hf hg rfl
      refine Pg0 h0 h2<|Vgs h0 1<|Sp b9 (fun h3 ba=>?_) (fun h3 bb=>?_)
      ·refine Ss h3 2 ?_
       refine Pg1 h0 h3<|Pk1 h0<|Vs 1 ?_
       obtain rfl:=Aa ba
       exact Wr ⟨rfl,F6,hf,(h8.t hg),fI⟩
      ·refine Vgs h3 2 ?_
       refine Pg0 h0 h3<|Pk1 h0<|Vs 1 ?_
       obtain rfl:=Aa bb
       exact Wr ⟨rfl,F6,hf,(h8.t hg),fI⟩
    ·refine Ss h0 4 ?_
     refine Su' 3<|Ss h0 2<|Su' 2<|Ss h0 1<|Pk0 h0<|Vs 1 ?_
     obtain rfl:=Aa b2
     exact Wr ⟨rfl,F2,h5,(Ww _),fI⟩
   ·rintro f bp ⟨F4,bc,bd,⟨_,rfl⟩⟩
    refine Av<|Ab<|Rg [0,1]<|Vs 2<|Wr ?_
    have be:=AV b0 hd
    exact ⟨hr,Nat.lt_succ_self _,(he,(W64 (h1.2 + 1))),F4,be,bc,(hc.t bd),fI⟩
  ·refine Ex ?_
   refine Au<|Au<|AB rfl ?_
   have bf:=AW hw hd
   exact .inl ⟨rfl,(h1.1,h1.2),F2,bf,h5,hc,fI⟩
 ·rintro f bq ⟨h4,F3,rfl,bg,br,⟨_,rfl⟩⟩
  have bh:=B2 ho
  refine Ab<|Sq (Rg [0,1] ?_)
  refine Vs 2<|Nt<|Rt ?_
  obtain rfl:=Aa bh
  exact Re [(.bool h4.1)] bg rfl
end Go.Proofs.YthljkpeimofbbaaGreatDoor
