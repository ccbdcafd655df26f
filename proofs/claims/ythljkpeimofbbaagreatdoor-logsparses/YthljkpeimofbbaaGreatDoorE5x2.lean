/- Lemmas of the claim LogsParses, printed by a program of the claimant and by hand. No statement of the seat is proved here. -/
import Derived.Test.YthljkpeimofbbaaGreatDoorE5x1
set_option linter.unusedVariables false
set_option linter.unusedSimpArgs false
set_option linter.unusedSectionVars false
set_option maxHeartbeats 4000000
set_option maxRecDepth 100000
namespace Go.Proofs.YthljkpeimofbbaaGreatDoor
def ups (g:Fr) (d:List Deferred):List (Nat×Value)->Fr
 | []=>⟨g.v,d⟩
 | (i,v)::l=>upd (ups g d l) i v
def FI (f:Fr) (d:List Deferred) (l:List (Nat×Value)):Prop:=∃ g,f=ups g d l
theorem UI {f:Fr} {i:Nat} {v:Value} (h:f i=v):upd f i v=f:=by
 subst h
 cases f with
 | mk fv fd=>
  simp only [upd,Fr.mk.injEq,and_true]
  funext j
  cases hb:Nat.beq j i with
  | false=>rfl
  | true=>rw [Nat.eq_of_beq_eq_true hb];rfl
def Eqs (f:Fr):List (Nat×Value)->Prop
 | []=>True
 | (i,v)::l=>f i=v/\Eqs f l
theorem Ou {f:Fr} {d:List Deferred} (hd:f.d=d):∀ {l:List (Nat×Value)},Eqs f l->f=ups f d l
 | [],_=>by subst hd;rfl
 | (i,v)::l,h=>by
  show f=upd (ups f d l) i v
  rw [<-Ou hd h.2];exact (UI h.1).symm
theorem Vu {f:Fr}:∀ {l:List (Nat×Value)},l.map (fun p=>f p.1)=l.map (·.2)->Eqs f l
 | [],_=>trivial
 | (i,v)::l,h=>by
  simp only [List.map_cons,List.cons.injEq] at h
  exact ⟨h.1,Vu h.2⟩
theorem kq {α:Type} {a:α} (b:α) {c:α} (h:b=c) (k:a=b:=by kernel_rfl):a=c:=k.trans h
theorem fI {f:Fr} {d:List Deferred} {l:List (Nat×Value)} (h:l.map (fun p=>f p.1)=l.map (·.2):=by kernel_rfl) (hd:f.d=d:=by kernel_rfl):FI f d l:=⟨f,Ou hd (Vu h)⟩
theorem fJ {f:Fr} {d:List Deferred} {l:List (Nat×Value)} (h:Eqs f l) (hd:f.d=d:=by kernel_rfl):FI f d l:=⟨f,Ou hd h⟩
def pkC:Op->Operand | .pick c _ _=>c | _=>.tmp 0
def pkA:Op->Operand | .pick _ a _=>a | _=>.tmp 0
def pkB:Op->Operand | .pick _ _ b=>b | _=>.tmp 0
def Uo:Op->Bool | .pick _ _ _=>true | _=>false
theorem Kv {op:Op} (h:Uo op=true):op=.pick (pkC op) (pkA op) (pkB op):=by cases op <;> simp_all [Uo,pkC,pkA,pkB]
def ldX:Op->Operand | .load _ x=>x | _=>.tmp 0
def ldT:Op->TypeId | .load t _=>t | _=>0
def RZ:Op->Bool | .load _ _=>true | _=>false
theorem G1 {op:Op} (h:RZ op=true):op=.load (ldT op) (ldX op):=by cases op <;> simp_all [RZ,ldX,ldT]
def pO:Value->Nat | .pointer (some ⟨_,o,_⟩)=>o | _=>0
def sB:Value->Nat | .slice (some ⟨b,_,_⟩) _ _=>b | _=>0
def sO:Value->Nat | .slice (some ⟨_,o,_⟩) _ _=>o | _=>0
def sC:Value->Nat | .slice _ _ c=>c | _=>0
def iK:Value->IntKind | .int k _=>k | _=>.i64
def ixX:Op->Operand | .indexAddr _ x _=>x | _=>.tmp 0
def ixY:Op->Operand | .indexAddr _ _ y=>y | _=>.tmp 0
def ixT:Op->TypeId | .indexAddr t _ _=>t | _=>0
def S8:Op->Bool | .indexAddr _ _ _=>true | _=>false
theorem Ir {op:Op} (h:S8 op=true):op=.indexAddr (ixT op) (ixX op) (ixY op):=by cases op <;> simp_all [S8,ixT,ixX,ixY]
def stX:Op->Operand | .store _ x _=>x | _=>.tmp 0
def stY:Op->Operand | .store _ _ y=>y | _=>.tmp 0
def stT:Op->TypeId | .store t _ _=>t | _=>0
def Jv:Op->Bool | .store _ _ _=>true | _=>false
theorem Es {op:Op} (h:Jv op=true):op=.store (stT op) (stX op) (stY op):=by cases op <;> simp_all [Jv,stT,stX,stY]
def WB (t:TypeId):Op->Bool | .alloc t'=>Nat.beq t t' | _=>false
theorem Qp {t:TypeId} {op:Op} (h:WB t op=true):op=.alloc t:=by
 cases op <;> simp only [WB,Bool.false_eq_true] at h
 rw [Nat.eq_of_beq_eq_true h]
def bxX:Op->Operand | .box _ x=>x | _=>.tmp 0
def WA (t:TypeId):Op->Bool | .box t' _=>Nat.beq t t' | _=>false
theorem Qo {t:TypeId} {op:Op} (h:WA t op=true):op=.box t (bxX op):=by
 cases op <;> simp only [WA,Bool.false_eq_true] at h
 rw [Nat.eq_of_beq_eq_true h];rfl
def bsV (P:Program) (f:Fr):Op->Option (TypeId×List Value) | .buildSlice t len parts=>Mz P t len (parts.toList.map fun p=>(p.1,fev f p.2)) | _=>none
def bsL:Op->Nat | .buildSlice _ len _=>len | _=>0
def clV (f:Fr):Op->Option (FuncId×List Value)
 | .call c=>(match c.callee with
  | .value f0=>(match fev f f0 with
   | .func (.func g) fi ca=>some (g,fi.toList++c.args.toList.map (fev f)++ca.toList)
   | _=>none)
  | _=>none)
 | _=>none
theorem Mm {P:Program} {w:World} {f:Fr} {op:Op} {ty:TypeId} {g:FuncId} {args:List Value} (h:clV f op=some (g,args)) (hok:Af P g):(An (fev f) op ty).run P w=.ok (.enter g args.toArray) w:=by
 unfold clV at h
 split at h
 ·rename_i c
  obtain ⟨callee,aos,ats⟩:=c
  simp only at h
  split at h
  ·split at h
   ·rename_i hf
    simp only [Option.some.injEq,Prod.mk.injEq] at h
    obtain ⟨rfl,rfl⟩:=h
    exact EF hf hok rfl
   ·cases h
  ·cases h
 ·cases h
section
variable {P : Program} {ro : Option Nat} {n : Nat} {R : Array Oper} {Q : Exit -> Fr -> World -> Prop} {i : Nat} {rest : List Nat} {f : Fr} {w w' w0 : World} {F0 F : Mem} {L : List (Option Nat × Obj)}
theorem RWP.valU {v:Value} (ho:ung R i=true) (hy:(An (fev f) (Aj R i) (G4 R i)).run P w=.ok (.value v) w') (k:RWP P ro n R Q rest (A6 f (Bd R i) v) w'):RWP P ro n R Q (i::rest) f w:=Yo (Bj ho) rfl hy k
theorem Pk1 {t:Bool} (ht:t=true) (k:RWP P ro n R Q rest (A6 f (Bd R i) (fev f (pkA (Aj R i)))) w) (hc:fev f (pkC (Aj R i))=.bool t:=by kernel_rfl) (ho:(ung R i&&Uo (Aj R i))=true:=by kernel_rfl):RWP P ro n R Q (i::rest) f w:=by
 simp only [Bool.and_eq_true] at ho
 refine RWP.valU ho.1 ?_ k
 have:=Kv ho.2
 rw [this] at hc ⊢;exact MG hc ht rfl
theorem Pk0 {t:Bool} (ht:t=false) (k:RWP P ro n R Q rest (A6 f (Bd R i) (fev f (pkB (Aj R i)))) w) (hc:fev f (pkC (Aj R i))=.bool t:=by kernel_rfl) (ho:(ung R i&&Uo (Aj R i))=true:=by kernel_rfl):RWP P ro n R Q (i::rest) f w:=by
 simp only [Bool.and_eq_true] at ho
 refine RWP.valU ho.1 ?_ k
 have:=Kv ho.2
 rw [this] at hc ⊢;exact MH hc ht rfl
def ldV (P:Program) (t:TypeId) (C:Array Value) (o:Nat):Value:=match FJ P t with | some (g,s)=>mkV g (Au C o s) | none=>undef
def ldK (P:Program) (t:TypeId) (C:Array Value) (o:Nat):Bool:=match FJ P t with | some (g,s)=>Nat.beq (Au C o s).length s&&(g||s==1) | none=>false
theorem SJ {ρ:Operand->Value} {t ty:TypeId} {x:Operand} {b o:Nat} {C:Array Value} {E:TypeId} {fz:Nat×Nat} (hx:ρ x=.pointer (some ⟨b,o,none⟩)) (hp:w.heap[b]? =some (.cells C E fz)) (hk:ldK P t C o=true):
  (An ρ (.load t x) ty).run P w=.ok (.value (ldV P t C o)) w:=by
 unfold ldK at hk;unfold ldV
 split at hk
 ·rename_i g s ht
  simp only [Bool.and_eq_true] at hk
  exact B1 hx ht hp (Nat.eq_of_beq_eq_true hk.1) hk.2 rfl
 ·cases hk
theorem Ld {b:Nat} {C:Array Value} {E:TypeId} {fz:Nat×Nat} (hp:w.heap[b]? =some (.cells C E fz)) (k:RWP P ro n R Q rest (A6 f (Bd R i) (ldV P (ldT (Aj R i)) C (pO (fev f (ldX (Aj R i)))))) w)
  (hx:fev f (ldX (Aj R i))=.pointer (some ⟨b,pO (fev f (ldX (Aj R i))),none⟩):=by kernel_rfl) (ho:(ung R i&&(RZ (Aj R i)&&ldK P (ldT (Aj R i)) C (pO (fev f (ldX (Aj R i))))))=true:=by kernel_rfl):RWP P ro n R Q (i::rest) f w:=by
 simp only [Bool.and_eq_true] at ho
 refine RWP.valU ho.1 ?_ k
 have:=G1 ho.2.1
 rw [this];exact SJ hx hp ho.2.2
def lxV (P:Program) (t:TypeId) (cs:List Value) (j:Nat):Value:=match FJ P t with | some (g,s)=>mkV g ((cs.drop j).take s) | none=>undef
def lxK (P:Program) (t:TypeId) (cs:List Value) (j kk:Nat):Bool:=match FJ P t with | some (g,s)=>decide (j + s<=kk)&&(Nat.beq ((cs.drop j).take s).length s&&(g||s==1)) | none=>false
theorem SH {ρ:Operand->Value} {t ty:TypeId} {x:Operand} {j b o kk:Nat} {C:Array Value} {E:TypeId} {fz:Nat×Nat} {cs:List Value} (hx:ρ x=.pointer (some ⟨b,o + j,none⟩)) (hp:w.heap[b]? =some (.cells C E fz)) (hc:Au C o kk=cs) (hk:lxK P t cs j kk=true):
  (An ρ (.load t x) ty).run P w=.ok (.value (lxV P t cs j)) w:=by
 unfold lxK at hk;unfold lxV
 split at hk
 ·rename_i g s ht
  simp only [Bool.and_eq_true] at hk
  exact MI hx ht hp hc hk.1 ⟨Nat.eq_of_beq_eq_true hk.2.1,trivial⟩ hk.2.2 rfl
 ·cases hk
theorem Lx (j:Nat) {b o kk:Nat} {C:Array Value} {E:TypeId} {fz:Nat×Nat} {cs:List Value} (hp:w.heap[b]? =some (.cells C E fz)) (hc:Au C o kk=cs) (k:RWP P ro n R Q rest (A6 f (Bd R i) (lxV P (ldT (Aj R i)) cs j)) w)
  (hx:fev f (ldX (Aj R i))=.pointer (some ⟨b,o + j,none⟩):=by kernel_rfl) (ho:(ung R i&&(RZ (Aj R i)&&lxK P (ldT (Aj R i)) cs j kk))=true:=by kernel_rfl):RWP P ro n R Q (i::rest) f w:=by
 simp only [Bool.and_eq_true] at ho
 refine RWP.valU ho.1 ?_ k
 have:=G1 ho.2.1
 rw [this];exact SH hx hp hc ho.2.2
def elS (P:Program) (t:TypeId):Nat:=match BP P t with | some (_,s,_)=>s | none=>0
theorem Ix {m:Nat} {y:Int} (hi:0<=y/\y < (m:Int)) (k:RWP P ro n R Q rest (A6 f (Bd R i) (.pointer (some ⟨sB (fev f (ixX (Aj R i))),sO (fev f (ixX (Aj R i))) + y.toNat * elS P (ixT (Aj R i)),none⟩))) w)
  (hx:fev f (ixX (Aj R i))=.slice (some ⟨sB (fev f (ixX (Aj R i))),sO (fev f (ixX (Aj R i))),none⟩) m (sC (fev f (ixX (Aj R i)))):=by kernel_rfl) (hy:fev f (ixY (Aj R i))=.int (iK (fev f (ixY (Aj R i)))) y:=by kernel_rfl)
  (ho:(ung R i&&(S8 (Aj R i)&&slQ P (ixT (Aj R i))))=true:=by kernel_rfl):RWP P ro n R Q (i::rest) f w:=by
 simp only [Bool.and_eq_true] at ho
 obtain ⟨h1,h2,h3⟩:=ho
 refine RWP.valU h1 ?_ k
 unfold slQ at h3
 split at h3
 ·rename_i q hq;obtain ⟨E,s,by_⟩:=q
  have es:elS P (ixT (Aj R i))=s:=by simp [elS,hq]
  rw [es]
  have e:=Ir h2
  have:=B2 (P:=P) (w:=w) (ty:=G4 R i) hx hy hq hi
  rw [<-e] at this;exact this
 ·cases h3
theorem Ix0 {m:Nat} {y:Int} (hi:0<=y/\y < (m:Int)) (k:RWP P ro n R Q rest (A6 f (Bd R i) (.pointer (some ⟨sB (fev f (ixX (Aj R i))),y.toNat * elS P (ixT (Aj R i)),none⟩))) w)
  (hx:fev f (ixX (Aj R i))=.slice (some ⟨sB (fev f (ixX (Aj R i))),0,none⟩) m (sC (fev f (ixX (Aj R i)))):=by kernel_rfl) (hy:fev f (ixY (Aj R i))=.int (iK (fev f (ixY (Aj R i)))) y:=by kernel_rfl)
  (ho:(ung R i&&(S8 (Aj R i)&&slQ P (ixT (Aj R i))))=true:=by kernel_rfl):RWP P ro n R Q (i::rest) f w:=by
 simp only [Bool.and_eq_true] at ho
 obtain ⟨h1,h2,h3⟩:=ho
 refine RWP.valU h1 ?_ k
 unfold slQ at h3
 split at h3
 ·rename_i q hq;obtain ⟨E,s,by_⟩:=q
  have es:elS P (ixT (Aj R i))=s:=by simp [elS,hq]
  rw [es]
  have e:=Ir h2
  have:=Do (P:=P) (w:=w) (ty:=G4 R i) hx hy hq hi
  rw [<-e] at this;exact this
 ·cases h3
theorem UQ {ρ:Operand->Value} {t ty:TypeId} {x y:Operand} {m:Nat} {q:Int} (hi:0<=q/\q < (m:Int)) (hx:ρ x=.slice (some ⟨sB (ρ x),sO (ρ x),none⟩) m (sC (ρ x))) (hy:ρ y=.int (iK (ρ y)) q) (h3:slQ P t=true):
  (An ρ (.indexAddr t x y) ty).run P w=.ok (.value (.pointer (some ⟨sB (ρ x),sO (ρ x) + q.toNat * elS P t,none⟩))) w:=by
 unfold slQ at h3
 split at h3
 ·rename_i a hq;obtain ⟨E,s,by_⟩:=a
  have es:elS P t=s:=by simp [elS,hq]
  rw [es];exact B2 hx hy hq hi
 ·cases h3
theorem V2 {t ty:TypeId} {x y:Operand} {m:Nat} {q:Int} (hi:0<=q/\q < (m:Int)) (hx:fev f x=.slice (some ⟨sB (fev f x),0,none⟩) m (sC (fev f x))) (hy:fev f y=.int (iK (fev f y)) q) (h3:slQ P t=true):
  (An (fev f) (.indexAddr t x y) ty).run P w=.ok (.value (.pointer (some ⟨sB (fev f x),q.toNat * elS P t,none⟩))) w:=by
 unfold slQ at h3
 split at h3
 ·rename_i a hq;obtain ⟨E,s,by_⟩:=a
  have es:elS P t=s:=by simp [elS,hq]
  rw [es];exact Do hx hy hq hi
 ·cases h3
theorem RWP.valG {gb' gc:Bool} (hg:gc=gb') {v:Value} (hy:(An (fev f) (Aj R i) (G4 R i)).run P w=.ok (.value v) w') (k:RWP P ro n R Q rest (A6 f (Bd R i) v) w')
  (h0:Ov R (gj R [i]) gb' i=true) (hj:Gx R (gj R [i])=some (gq R [i])) (hf:f (gq R [i])=.bool gc):RWP P ro n R Q (i::rest) f w:=by
 rcases OP h0 with e | e
 ·exact Yo e rfl hy k
 ·exact Yo e (IY hj hf hg) hy k
theorem Pg1 {gb' gc:Bool} (hg:gc=gb') {t:Bool} (ht:t=true) (k:RWP P ro n R Q rest (A6 f (Bd R i) (fev f (pkA (Aj R i)))) w) (hc:fev f (pkC (Aj R i))=.bool t:=by kernel_rfl) (ho:Uo (Aj R i)=true:=by kernel_rfl)
  (h0:Ov R (gj R [i]) gb' i=true:=by kernel_rfl) (hj:Gx R (gj R [i])=some (gq R [i]):=by kernel_rfl) (hf:f (gq R [i])=.bool gc:=by kernel_rfl):RWP P ro n R Q (i::rest) f w:=by
 refine RWP.valG hg ?_ k h0 hj hf
 have:=Kv ho
 rw [this] at hc ⊢;exact MG hc ht rfl
theorem Pg0 {gb' gc:Bool} (hg:gc=gb') {t:Bool} (ht:t=false) (k:RWP P ro n R Q rest (A6 f (Bd R i) (fev f (pkB (Aj R i)))) w) (hc:fev f (pkC (Aj R i))=.bool t:=by kernel_rfl) (ho:Uo (Aj R i)=true:=by kernel_rfl)
  (h0:Ov R (gj R [i]) gb' i=true:=by kernel_rfl) (hj:Gx R (gj R [i])=some (gq R [i]):=by kernel_rfl) (hf:f (gq R [i])=.bool gc:=by kernel_rfl):RWP P ro n R Q (i::rest) f w:=by
 refine RWP.valG hg ?_ k h0 hj hf
 have:=Kv ho
 rw [this] at hc ⊢;exact MH hc ht rfl
theorem Lg {gb' gc:Bool} (hg:gc=gb') {b:Nat} {C:Array Value} {E:TypeId} {fz:Nat×Nat} (hp:w.heap[b]? =some (.cells C E fz)) (k:RWP P ro n R Q rest (A6 f (Bd R i) (ldV P (ldT (Aj R i)) C (pO (fev f (ldX (Aj R i)))))) w)
  (hx:fev f (ldX (Aj R i))=.pointer (some ⟨b,pO (fev f (ldX (Aj R i))),none⟩):=by kernel_rfl) (ho:(RZ (Aj R i)&&ldK P (ldT (Aj R i)) C (pO (fev f (ldX (Aj R i)))))=true:=by kernel_rfl)
  (h0:Ov R (gj R [i]) gb' i=true:=by kernel_rfl) (hj:Gx R (gj R [i])=some (gq R [i]):=by kernel_rfl) (hf:f (gq R [i])=.bool gc:=by kernel_rfl):RWP P ro n R Q (i::rest) f w:=by
 simp only [Bool.and_eq_true] at ho
 refine RWP.valG hg ?_ k h0 hj hf
 have:=G1 ho.1
 rw [this];exact SJ hx hp ho.2
theorem Lxg {gb' gc:Bool} (hg:gc=gb') (j:Nat) {b o kk:Nat} {C:Array Value} {E:TypeId} {fz:Nat×Nat} {cs:List Value} (hp:w.heap[b]? =some (.cells C E fz)) (hcs:Au C o kk=cs) (k:RWP P ro n R Q rest (A6 f (Bd R i) (lxV P (ldT (Aj R i)) cs j)) w)
  (hx:fev f (ldX (Aj R i))=.pointer (some ⟨b,o + j,none⟩):=by kernel_rfl) (ho:(RZ (Aj R i)&&lxK P (ldT (Aj R i)) cs j kk)=true:=by kernel_rfl)
  (h0:Ov R (gj R [i]) gb' i=true:=by kernel_rfl) (hj:Gx R (gj R [i])=some (gq R [i]):=by kernel_rfl) (hf:f (gq R [i])=.bool gc:=by kernel_rfl):RWP P ro n R Q (i::rest) f w:=by
 simp only [Bool.and_eq_true] at ho
 refine RWP.valG hg ?_ k h0 hj hf
 have:=G1 ho.1
 rw [this];exact SH hx hp hcs ho.2
theorem Ixg {gb' gc:Bool} (hg:gc=gb') {m:Nat} {y:Int} (hi:0<=y/\y < (m:Int)) (k:RWP P ro n R Q rest (A6 f (Bd R i) (.pointer (some ⟨sB (fev f (ixX (Aj R i))),sO (fev f (ixX (Aj R i))) + y.toNat * elS P (ixT (Aj R i)),none⟩))) w)
  (hx:fev f (ixX (Aj R i))=.slice (some ⟨sB (fev f (ixX (Aj R i))),sO (fev f (ixX (Aj R i))),none⟩) m (sC (fev f (ixX (Aj R i)))):=by kernel_rfl) (hy:fev f (ixY (Aj R i))=.int (iK (fev f (ixY (Aj R i)))) y:=by kernel_rfl)
  (ho:(S8 (Aj R i)&&slQ P (ixT (Aj R i)))=true:=by kernel_rfl)
  (h0:Ov R (gj R [i]) gb' i=true:=by kernel_rfl) (hj:Gx R (gj R [i])=some (gq R [i]):=by kernel_rfl) (hf:f (gq R [i])=.bool gc:=by kernel_rfl):RWP P ro n R Q (i::rest) f w:=by
 simp only [Bool.and_eq_true] at ho
 refine RWP.valG hg ?_ k h0 hj hf
 have e:=Ir ho.1
 have:=UQ (P:=P) (w:=w) (ty:=G4 R i) hi hx hy ho.2
 rw [<-e] at this;exact this
theorem Yk {gb' gc:Bool} (hg:gc=gb') {m:Nat} {y:Int} (hi:0<=y/\y < (m:Int)) (k:RWP P ro n R Q rest (A6 f (Bd R i) (.pointer (some ⟨sB (fev f (ixX (Aj R i))),y.toNat * elS P (ixT (Aj R i)),none⟩))) w)
  (hx:fev f (ixX (Aj R i))=.slice (some ⟨sB (fev f (ixX (Aj R i))),0,none⟩) m (sC (fev f (ixX (Aj R i)))):=by kernel_rfl) (hy:fev f (ixY (Aj R i))=.int (iK (fev f (ixY (Aj R i)))) y:=by kernel_rfl)
  (ho:(S8 (Aj R i)&&slQ P (ixT (Aj R i)))=true:=by kernel_rfl)
  (h0:Ov R (gj R [i]) gb' i=true:=by kernel_rfl) (hj:Gx R (gj R [i])=some (gq R [i]):=by kernel_rfl) (hf:f (gq R [i])=.bool gc:=by kernel_rfl):RWP P ro n R Q (i::rest) f w:=by
 simp only [Bool.and_eq_true] at ho
 refine RWP.valG hg ?_ k h0 hj hf
 have e:=Ir ho.1
 have:=V2 (P:=P) (w:=w) (ty:=G4 R i) hi hx hy ho.2
 rw [<-e] at this;exact this
theorem Al' (t:TypeId) (C:Array Value) (hs:HS w0 F0 w F L) (k:∀ b w',HS w0 F0 w' F ((some b,.cells C t (0,0))::L)->RWP P ro n R Q rest (A6 f (Bd R i) (.pointer (some ⟨b,0,none⟩))) w')
  (hC:(B9 P t).map Value.cells=some C:=by kernel_rfl) (ho:(ung R i&&WB t (Aj R i))=true:=by kernel_rfl):RWP P ro n R Q (i::rest) f w:=by
 simp only [Bool.and_eq_true] at ho
 cases hz:B9 P t with
 | none=>rw [hz] at hC;cases hC
 | some z=>
  rw [hz] at hC;simp only [Option.map_some,Option.some.injEq] at hC
  have e:=Qp ho.2
  have:=Bj ho.1
  rw [e] at this
  exact RWP.alloc this rfl hz hC hs k
theorem Bx' (t:TypeId) (C:Array Value) (hs:HS w0 F0 w F L) (k:∀ b w',HS w0 F0 w' F ((some b,.cells C t (0,0))::L)->RWP P ro n R Q rest (A6 f (Bd R i) (.pointer (some ⟨b,0,none⟩))) w')
  (hC:(fev f (bxX (Aj R i))).cells=C:=by kernel_rfl) (ho:(ung R i&&WA t (Aj R i))=true:=by kernel_rfl):RWP P ro n R Q (i::rest) f w:=by
 simp only [Bool.and_eq_true] at ho
 have e:=Qo ho.2
 have:=Bj ho.1
 rw [e] at this
 exact RWP.box this rfl rfl hC hs k
theorem Bs (E:TypeId) (cs:List Value) (hs:HS w0 F0 w F L) (k:∀ b w',HS w0 F0 w' F ((some b,.cells cs.toArray E (0,0))::L)->RWP P ro n R Q rest (A6 f (Bd R i) (.slice (some ⟨b,0,none⟩) (bsL (Aj R i)) (bsL (Aj R i)))) w')
  (hb:bsV P f (Aj R i)=some (E,cs):=by kernel_rfl) (ho:ung R i=true:=by kernel_rfl):RWP P ro n R Q (i::rest) f w:=by
 have:=Bj ho
 cases e:Aj R i with
 | buildSlice t len parts=>
  rw [e] at hb this k
  exact RWP.buildSlice this rfl rfl hb hs k
 | _=>rw [e] at hb;simp [bsV] at hb
def DM (P:Program) (t:TypeId) (v:Value) (o:Nat) (C:Array Value):Bool:=match FJ P t with | some (_,s)=>Nat.beq v.cells.size s&&(decide (o + s<=C.size)&&v.cells.toList.all (·.oneCell')) | none=>false
theorem IJ {ρ:Operand->Value} {t ty:TypeId} {x y:Operand} {b o:Nat} {C C':Array Value} {E:TypeId} (hx:ρ x=.pointer (some ⟨b,o,none⟩)) (hp:w.heap[b]? =some (.cells C E (0,0))) (hk:DM P t (ρ y) o C=true) (hC:DJ C o (ρ y).cells.toList=C'):
  (An ρ (.store t x y) ty).run P w=.ok .skip (CA w b (.cells C' E (0,0))):=by
 unfold DM at hk
 split at hk
 ·rename_i g s ht
  simp only [Bool.and_eq_true] at hk
  exact SC hx rfl ht hp (Nat.eq_of_beq_eq_true hk.1) hk.2.1 hk.2.2 hC
 ·cases hk
theorem LL {b:Nat} {C C':Array Value} {E:TypeId} (hp:w.heap[b]? =some (.cells C E (0,0))) (k:RWP P ro n R Q rest f (CA w b (.cells C' E (0,0))))
  (hx:fev f (stX (Aj R i))=.pointer (some ⟨b,pO (fev f (stX (Aj R i))),none⟩)) (hC:DJ C (pO (fev f (stX (Aj R i)))) (fev f (stY (Aj R i))).cells.toList=C')
  (ho:(ung R i&&(Jv (Aj R i)&&(DM P (stT (Aj R i)) (fev f (stY (Aj R i))) (pO (fev f (stX (Aj R i)))) C&&(match Bd R i with | none=>true | some _=>false))))=true):RWP P ro n R Q (i::rest) f w:=by
 simp only [Bool.and_eq_true] at ho
 obtain ⟨h1,h2,h3,h4⟩:=ho
 have e:=Es h2
 have:=Bj h1
 cases hd:Bd R i with
 | some d=>rw [hd] at h4;cases h4
 | none=>
  rw [hd] at this
  refine RWP.unit this rfl ?_ k
  rw [e];exact IJ hx hp h3 hC
theorem Cl' {fid:FuncId} {args:List Value} {post:Mem->Value->Prop} (hok:Af P fid) (hs:HS w0 F0 w F L) (hc:Calls P fid args.toArray w (AC w F post))
  (k:∀ v F1 w1,HS w0 F0 w1 F1 L->Yr F F1->post F1 v->RWP P ro n R Q rest (A6 f (Bd R i) v) w1) (ha:clV f (Aj R i)=some (fid,args):=by kernel_rfl) (ho:ung R i=true:=by kernel_rfl):RWP P ro n R Q (i::rest) f w:=by
 refine Yp (Bj ho) rfl (Mm ha hok) hc ?_
 rintro e w' ⟨r,F',rfl,h1,h2⟩
 exact k r F' w' (hs.call h1) h1.le h2
theorem Cg {fid:FuncId} {args:List Value} {post:Mem->Value->Prop} {b c:Bool} (hg:c=b) (hok:Af P fid) (hs:HS w0 F0 w F L) (hc:Calls P fid args.toArray w (AC w F post))
  (k:∀ v F1 w1,HS w0 F0 w1 F1 L->Yr F F1->post F1 v->RWP P ro n R Q rest (A6 f (Bd R i) v) w1) (ha:clV f (Aj R i)=some (fid,args):=by kernel_rfl)
  (ho:Ov R (gj R [i]) b i=true:=by kernel_rfl) (hj:Gx R (gj R [i])=some (gq R [i]):=by kernel_rfl) (hf:f (gq R [i])=.bool c:=by kernel_rfl):RWP P ro n R Q (i::rest) f w:=by
 have hE:∀ e w',AC w F post e w'->match e with
   | .returned v=>RWP P ro n R Q rest (A6 f (Bd R i) v) w'
   | .panicked chain=>Q (.panic chain) f w'
   | .outgrown=>False:=by
  rintro e w' ⟨r,F',rfl,h1,h2⟩
  exact k r F' w' (hs.call h1) h1.le h2
 rcases OP ho with e | e
 ·exact Yp e rfl (Mm ha hok) hc hE
 ·exact Yp e (IY hj hf hg) (Mm ha hok) hc hE
theorem CB {fid:FuncId} {args:List Value} {wb:World} {Fb:Mem} {post:Mem->Value->Own->Prop} (hok:Af P fid) (hc:Calls P fid args.toArray w (FY wb Fb F post))
  (k:∀ v F1 w1 L',HS wb Fb w1 F1 L'->Yr F F1->post F1 v L'->RWP P ro n R Q rest (A6 f (Bd R i) v) w1) (ha:clV f (Aj R i)=some (fid,args):=by kernel_rfl) (ho:ung R i=true:=by kernel_rfl):RWP P ro n R Q (i::rest) f w:=by
 refine Yp (Bj ho) rfl (Mm ha hok) hc ?_
 rintro e w' ⟨F',r,L',rfl,h1,h2,h3⟩
 exact k r F' w' L' h1 h2 h3
def clQ (f:Fr):Op->Option (FuncId×List Value)
 | .call c=>(match c.callee with
  | .value f0=>(match fev f f0 with
   | .func (.func g) fi ca=>some (g,fi.toList++(c.args.toList.map (fev f)++ca.toList))
   | _=>none)
  | _=>none)
 | _=>none
theorem XF (f:Fr) (op:Op):clQ f op=clV f op:=by
 unfold clQ clV
 split <;> try rfl
 split <;> try rfl
 split <;> try rfl
 simp [List.append_assoc]
theorem Cq {fid:FuncId} {args:List Value} {post:Mem->Value->Prop} (hok:Af P fid) (hs:HS w0 F0 w F L) (hc:Calls P fid args.toArray w (AC w F post))
  (k:∀ v F1 w1,HS w0 F0 w1 F1 L->Yr F F1->post F1 v->RWP P ro n R Q rest (A6 f (Bd R i) v) w1) (ha:clQ f (Aj R i)=some (fid,args):=by kernel_rfl) (ho:ung R i=true:=by kernel_rfl):RWP P ro n R Q (i::rest) f w:=Cl' hok hs hc k (XF f _ ▸ ha) ho
theorem Go (m:Nat) {fid:FuncId} {fn:Func} {args:List Value} {S:Ending->World->Prop} (hf:P.funcs[fid]? =some fn) (h:CWP P none m (Pw fn) (XN P fn.results S) (f0 args) w)
  (hk:(Nat.beq fn.ntmps m&&(decide (args.length<=m)&&isS fn.body))=true:=by kernel_rfl):Calls P fid args.toArray w S:=by
 simp only [Bool.and_eq_true] at hk
 have h1:=JQ (d:=.skip) hk.2.2
 exact Pp hf h1 (Nat.eq_of_beq_eq_true hk.1) hk.2.1 h
theorem Sd {α:Type} {t:Bool} {x y r:α} (h:(bif t then x else y)=r) {PQ:List PanicEntry->List Deferred->World->Prop} {Post:Fr->World->Prop} {z:Nat} {Sw:Bool->World->Prop} {fuel:Nat} {l:List Bool}
  (ht:t=true->x=r->DWP P n R PQ Post z Sw fuel l f w) (hf:t=false->y=r->DWP P n R PQ Post z Sw fuel l f w):DWP P n R PQ Post z Sw fuel l f w:=
 DWP.split t (fun e=>ht e (Q7 h e)) (fun e=>hf e (Q8 h e))
variable {c : Code} {Q' : Exit -> Fr -> World -> Prop}
theorem Cd {α:Type} {t:Bool} {x y r:α} (h:(bif t then x else y)=r) (ht:t=true->x=r->CWP P ro n (Vz c) Q f w) (hf:t=false->y=r->CWP P ro n (VA c) Q f w) (hc:fev f (Td c)=.bool t:=by kernel_rfl) (hk:kin c=4:=by kernel_rfl):CWP P ro n c Q f w:=
 CWP.cond hk hc (fun e=>ht e (Q7 h e)) (fun e=>hf e (Q8 h e))
theorem Cp (t:Bool) (ht:t=true->CWP P ro n (Vz c) Q f w) (hf:t=false->CWP P ro n (VA c) Q f w) (hc:fev f (Td c)=.bool t:=by kernel_rfl) (hk:kin c=4:=by kernel_rfl):CWP P ro n c Q f w:=CWP.cond hk hc ht hf
theorem C1 {t:Bool} (e:t=true) (h:CWP P ro n (Vz c) Q f w) (hc:fev f (Td c)=.bool t:=by kernel_rfl) (hk:kin c=4:=by kernel_rfl):CWP P ro n c Q f w:=CWP.cond1 hk hc e h
theorem C0 {t:Bool} (e:t=false) (h:CWP P ro n (VA c) Q f w) (hc:fev f (Td c)=.bool t:=by kernel_rfl) (hk:kin c=4:=by kernel_rfl):CWP P ro n c Q f w:=CWP.cond0 hk hc e h
theorem Sp {α:Type} {t:Bool} {x y r:α} (h:(bif t then x else y)=r) {l:List Nat} (ht:t=true->x=r->RWP P ro n R Q l f w) (hf:t=false->y=r->RWP P ro n R Q l f w):RWP P ro n R Q l f w:=
 Yw t (fun e=>ht e (Q7 h e)) (fun e=>hf e (Q8 h e))
theorem Rt (h:Q .ret f w) (hk:kin c=8:=by kernel_rfl):CWP P ro n c Q f w:=CWP.ret hk h
theorem Ex (h:Q (.exit (cid c)) f w) (hk:kin c=7:=by kernel_rfl):CWP P ro n c Q f w:=CWP.exit hk h
end
def T6 (f:Fr):List ResultVar->Option (List Value)
 | []=>some []
 | .tmp t::rs=>(match T6 f rs with | some l=>some (f t::l) | none=>none)
 | _=>none
theorem MJ {P:Program} {w:World} {f:Fr}:∀ {rs:List ResultVar} {vs:List Value},T6 f rs=some vs->VJ P w f rs vs
 | [],_,h=>by cases h;trivial
 | .tmp t::rs,vs,h=>by
  unfold T6 at h
  split at h
  ·rename_i l hl;cases h;exact ⟨rfl,MJ hl⟩
  ·cases h
 | .cell _ _::rs,vs,h=>by simp [T6] at h
theorem Re {P:Program} {rs:Array ResultVar} {w w0:World} {F0 F:Mem} {f:Fr} {L:List (Option Nat×Obj)} {post:Mem->Value->Prop} (vs:List Value) (hs:HS w0 F0 w F L) (hp:post F (Lb vs)) (hr:T6 f rs.toList=some vs:=by kernel_rfl) (hd:f.d=[]:=by kernel_rfl):
  f.d=[]/\ ∃ v,(D4 rs f).run P w=.ok v w/\AC w0 F0 post (.returned v) w:=
 ⟨hd,Lb vs,AJ rfl (MJ hr),Lb vs,F,rfl,hs.clear,hp⟩
theorem ReB {P:Program} {rs:Array ResultVar} {w wb:World} {Fb F0 F:Mem} {f:Fr} {L:Own} {post:Mem->Value->Own->Prop} (vs:List Value) (hs:HS wb Fb w F L) (hl:Yr F0 F) (hp:post F (Lb vs) L) (hr:T6 f rs.toList=some vs:=by kernel_rfl) (hd:f.d=[]:=by kernel_rfl):
  f.d=[]/\ ∃ v,(D4 rs f).run P w=.ok v w/\FY wb Fb F0 post (.returned v) w:=
 ⟨hd,Lb vs,AJ rfl (MJ hr),F,Lb vs,L,rfl,hs,hl,hp⟩
section
variable {w0 w : World} {F0 F : Mem} {L : List (Option Nat × Obj)} {e : Option Nat × Obj}
theorem HS.dr0 (h:HS w0 F0 w F (e::L)):HS w0 F0 w F (L):=h.drop 0
theorem HS.at0 {b:Nat} {o:Obj} (h:HS w0 F0 w F ((some b,o)::L)):w.heap[b]? =some o:=h.ownAt (k:=0) rfl
theorem HS.fc0 {b:Nat} {o:Obj} (h:HS w0 F0 w F ((some b,o)::L)):∃ F1,HS w0 F0 w F1 (L)/\Yr F F1/\F1 b=some o:=h.freezeC (k:=0) rfl
theorem HS.fr0 {α:Type} {T:Ty α} {E:TypeId} {a:YM} {cap:Nat} {l:List α} (h:HS w0 F0 w F (e::L)) (hr:Ap T E F a cap l e):∃ F1,HS w0 F0 w F1 (L)/\Yr F F1/\SlA T F1 a l:=h.freezeRow (k:=0) rfl hr
theorem HS.rd0 {α:Type} {T:Ty α} {E:TypeId} {a:YM} {cap:Nat} {l:List α} (h:HS w0 F0 w F (e::L)) (hr:Ap T E F a cap l e):Rd T F w a l:=Ap.rd h (k:=0) rfl hr
theorem HS.dr1 {e0:Option Nat×Obj} (h:HS w0 F0 w F (e0::e::L)):HS w0 F0 w F (e0::L):=h.drop 1
theorem HS.pk1 {e0:Option Nat×Obj} (h:HS w0 F0 w F (e0::e::L)):HS w0 F0 w F (e::e0::L):=h.pick (k:=1) rfl
theorem HS.at1 {e0:Option Nat×Obj} {b:Nat} {o:Obj} (h:HS w0 F0 w F (e0::(some b,o)::L)):w.heap[b]? =some o:=h.ownAt (k:=1) rfl
theorem HS.fc1 {e0:Option Nat×Obj} {b:Nat} {o:Obj} (h:HS w0 F0 w F (e0::(some b,o)::L)):∃ F1,HS w0 F0 w F1 (e0::L)/\Yr F F1/\F1 b=some o:=h.freezeC (k:=1) rfl
theorem HS.fr1 {e0:Option Nat×Obj} {α:Type} {T:Ty α} {E:TypeId} {a:YM} {cap:Nat} {l:List α} (h:HS w0 F0 w F (e0::e::L)) (hr:Ap T E F a cap l e):∃ F1,HS w0 F0 w F1 (e0::L)/\Yr F F1/\SlA T F1 a l:=h.freezeRow (k:=1) rfl hr
theorem HS.dr2 {e0 e1:Option Nat×Obj} (h:HS w0 F0 w F (e0::e1::e::L)):HS w0 F0 w F (e0::e1::L):=h.drop 2
theorem HS.pk2 {e0 e1:Option Nat×Obj} (h:HS w0 F0 w F (e0::e1::e::L)):HS w0 F0 w F (e::e0::e1::L):=h.pick (k:=2) rfl
theorem HS.at2 {e0 e1:Option Nat×Obj} {b:Nat} {o:Obj} (h:HS w0 F0 w F (e0::e1::(some b,o)::L)):w.heap[b]? =some o:=h.ownAt (k:=2) rfl
theorem HS.dr3 {e0 e1 e2:Option Nat×Obj} (h:HS w0 F0 w F (e0::e1::e2::e::L)):HS w0 F0 w F (e0::e1::e2::L):=h.drop 3
theorem HS.pk3 {e0 e1 e2:Option Nat×Obj} (h:HS w0 F0 w F (e0::e1::e2::e::L)):HS w0 F0 w F (e::e0::e1::e2::L):=h.pick (k:=3) rfl
theorem HS.at3 {e0 e1 e2:Option Nat×Obj} {b:Nat} {o:Obj} (h:HS w0 F0 w F (e0::e1::e2::(some b,o)::L)):w.heap[b]? =some o:=h.ownAt (k:=3) rfl
theorem HS.dr4 {e0 e1 e2 e3:Option Nat×Obj} (h:HS w0 F0 w F (e0::e1::e2::e3::e::L)):HS w0 F0 w F (e0::e1::e2::e3::L):=h.drop 4
theorem HS.pk4 {e0 e1 e2 e3:Option Nat×Obj} (h:HS w0 F0 w F (e0::e1::e2::e3::e::L)):HS w0 F0 w F (e::e0::e1::e2::e3::L):=h.pick (k:=4) rfl
theorem HS.at4 {e0 e1 e2 e3:Option Nat×Obj} {b:Nat} {o:Obj} (h:HS w0 F0 w F (e0::e1::e2::e3::(some b,o)::L)):w.heap[b]? =some o:=h.ownAt (k:=4) rfl
theorem HS.dr5 {e0 e1 e2 e3 e4:Option Nat×Obj} (h:HS w0 F0 w F (e0::e1::e2::e3::e4::e::L)):HS w0 F0 w F (e0::e1::e2::e3::e4::L):=h.drop 5
theorem HS.pk5 {e0 e1 e2 e3 e4:Option Nat×Obj} (h:HS w0 F0 w F (e0::e1::e2::e3::e4::e::L)):HS w0 F0 w F (e::e0::e1::e2::e3::e4::L):=h.pick (k:=5) rfl
theorem HS.at5 {e0 e1 e2 e3 e4:Option Nat×Obj} {b:Nat} {o:Obj} (h:HS w0 F0 w F (e0::e1::e2::e3::e4::(some b,o)::L)):w.heap[b]? =some o:=h.ownAt (k:=5) rfl
theorem HS.pk6 {e0 e1 e2 e3 e4 e5:Option Nat×Obj} (h:HS w0 F0 w F (e0::e1::e2::e3::e4::e5::e::L)):HS w0 F0 w F (e::e0::e1::e2::e3::e4::e5::L):=h.pick (k:=6) rfl
theorem HS.at6 {e0 e1 e2 e3 e4 e5:Option Nat×Obj} {b:Nat} {o:Obj} (h:HS w0 F0 w F (e0::e1::e2::e3::e4::e5::(some b,o)::L)):w.heap[b]? =some o:=h.ownAt (k:=6) rfl
theorem HS.pk7 {e0 e1 e2 e3 e4 e5 e6:Option Nat×Obj} (h:HS w0 F0 w F (e0::e1::e2::e3::e4::e5::e6::e::L)):HS w0 F0 w F (e::e0::e1::e2::e3::e4::e5::e6::L):=h.pick (k:=7) rfl
variable {P : Program} {ro : Option Nat} {n : Nat} {R : Array Oper} {Q : Exit -> Fr -> World -> Prop} {i : Nat} {rest : List Nat} {f : Fr} {α : Type} {T : Ty α} {E : TypeId} {a : YM} {cap : Nat} {l m : List α}
def apX:Op->Operand | .call c=>c.args[0]?.getD (.tmp 0) | _=>.tmp 0
def apY:Op->Operand | .call c=>c.args[1]?.getD (.tmp 0) | _=>.tmp 0
def apK (P:Program) (E:TypeId) (sz:Nat):Op->Bool
 | .call c=>(match c.callee with
  | .builtin .append=>(match c.args.toList,c.argTypes.toList with
   | [_,_],[t,t2]=>(match BP P t,B9 P E with
    | some (E',s,by_),some z=>Nat.beq E E'&&(Nat.beq s sz&&(decide (by_<=1024)&&(OY P t2&&Nat.beq z.cells.size sz)))
    | _,_=>false)
   | _,_=>false)
  | _=>false)
 | _=>false
theorem Hn {op:Op} {sz:Nat} (h:apK P E sz op=true):∃ t t2 by_ z,op=.call {callee:=.builtin .append,args:=#[apX op,apY op],argTypes:=#[t,t2]}/\BP P t=some (E,sz,by_)/\decide (by_<=1024)=true/\OY P t2=true/\B9 P E=some z/\z.cells.size=sz:=by
 unfold apK at h
 split at h
 ·rename_i c
  obtain ⟨callee,aos,ats⟩:=c
  simp only at h
  split at h
  ·split at h
   ·rename_i x y t t2 h1 h2
    split at h
    ·rename_i E' s by_ z he hz
     simp only [Bool.and_eq_true] at h
     obtain ⟨e1,e2,e3,e4,e5⟩:=h
     have e1:=Nat.eq_of_beq_eq_true e1
     have e2:=Nat.eq_of_beq_eq_true e2
     subst e1;subst e2
     have ha:aos=#[x,y]:=by cases aos;simpa using h1
     have hb:ats=#[t,t2]:=by cases ats;simpa using h2
     subst ha;subst hb
     exact ⟨t,t2,by_,z,rfl,he,e3,e4,hz,Nat.eq_of_beq_eq_true e5⟩
    ·cases h
   ·cases h
  ·cases h
 ·cases h
theorem St0 {b:Nat} {C:Array Value} {E:TypeId} (C':Array Value) (hs:HS w0 F0 w F ((some b,.cells C E (0,0))::L)) (k:∀ w',HS w0 F0 w' F ((some b,.cells C' E (0,0))::L)->RWP P ro n R Q rest f w')
  (hx:fev f (stX (Aj R i))=.pointer (some ⟨b,pO (fev f (stX (Aj R i))),none⟩):=by kernel_rfl) (hC:DJ C (pO (fev f (stX (Aj R i)))) (fev f (stY (Aj R i))).cells.toList=C':=by kernel_rfl)
  (ho:(ung R i&&(Jv (Aj R i)&&(DM P (stT (Aj R i)) (fev f (stY (Aj R i))) (pO (fev f (stX (Aj R i)))) C&&(match Bd R i with | none=>true | some _=>false))))=true:=by kernel_rfl):RWP P ro n R Q (i::rest) f w:=
 LL (hs.ownAt (k:=0) rfl) (k _ (hs.put (k:=0) rfl _)) hx hC ho
theorem Ap0 {a2:YM} (h1:T.One) (hs:HS w0 F0 w F (e::L)) (hr:Ap T E F a cap l e) (hm:Rd T F w a2 m) {r:List α} (hap:CD l m=some r)
  (k:∀ a' cap' e' w',HS w0 F0 w' F (e'::L)->Ap T E F a' cap' r e'->RWP P ro n R Q rest (A6 f (Bd R i) (.slice a' r.length cap')) w')
  (hx:fev f (apX (Aj R i))=.slice a l.length cap:=by kernel_rfl) (hy:fev f (apY (Aj R i))=.slice a2 m.length (sC (fev f (apY (Aj R i)))):=by kernel_rfl) (ho:(ung R i&&apK P E T.sz (Aj R i))=true:=by kernel_rfl):RWP P ro n R Q (i::rest) f w:=by
 simp only [Bool.and_eq_true] at ho
 obtain ⟨t,t2,by_,z,e1,he,hb,hni,hz,hzs⟩:=Hn ho.2
 have:=Bj ho.1
 rw [e1] at this
 exact RWP.append this rfl hx hy he hb hni hz hzs h1 hs (k:=0) rfl hr hm hap k
theorem St1 {e0:Option Nat×Obj} {b:Nat} {C:Array Value} {E:TypeId} (C':Array Value) (hs:HS w0 F0 w F (e0::(some b,.cells C E (0,0))::L)) (k:∀ w',HS w0 F0 w' F (e0::(some b,.cells C' E (0,0))::L)->RWP P ro n R Q rest f w')
  (hx:fev f (stX (Aj R i))=.pointer (some ⟨b,pO (fev f (stX (Aj R i))),none⟩):=by kernel_rfl) (hC:DJ C (pO (fev f (stX (Aj R i)))) (fev f (stY (Aj R i))).cells.toList=C':=by kernel_rfl)
  (ho:(ung R i&&(Jv (Aj R i)&&(DM P (stT (Aj R i)) (fev f (stY (Aj R i))) (pO (fev f (stX (Aj R i)))) C&&(match Bd R i with | none=>true | some _=>false))))=true:=by kernel_rfl):RWP P ro n R Q (i::rest) f w:=
 LL (hs.ownAt (k:=1) rfl) (k _ (hs.put (k:=1) rfl _)) hx hC ho
theorem Ap1 {e0:Option Nat×Obj} {a2:YM} (h1:T.One) (hs:HS w0 F0 w F (e0::e::L)) (hr:Ap T E F a cap l e) (hm:Rd T F w a2 m) {r:List α} (hap:CD l m=some r)
  (k:∀ a' cap' e' w',HS w0 F0 w' F (e0::e'::L)->Ap T E F a' cap' r e'->RWP P ro n R Q rest (A6 f (Bd R i) (.slice a' r.length cap')) w')
  (hx:fev f (apX (Aj R i))=.slice a l.length cap:=by kernel_rfl) (hy:fev f (apY (Aj R i))=.slice a2 m.length (sC (fev f (apY (Aj R i)))):=by kernel_rfl) (ho:(ung R i&&apK P E T.sz (Aj R i))=true:=by kernel_rfl):RWP P ro n R Q (i::rest) f w:=by
 simp only [Bool.and_eq_true] at ho
 obtain ⟨t,t2,by_,z,e1,he,hb,hni,hz,hzs⟩:=Hn ho.2
 have:=Bj ho.1
 rw [e1] at this
 exact RWP.append this rfl hx hy he hb hni hz hzs h1 hs (k:=1) rfl hr hm hap k
theorem St2 {e0 e1:Option Nat×Obj} {b:Nat} {C:Array Value} {E:TypeId} (C':Array Value) (hs:HS w0 F0 w F (e0::e1::(some b,.cells C E (0,0))::L)) (k:∀ w',HS w0 F0 w' F (e0::e1::(some b,.cells C' E (0,0))::L)->RWP P ro n R Q rest f w')
  (hx:fev f (stX (Aj R i))=.pointer (some ⟨b,pO (fev f (stX (Aj R i))),none⟩):=by kernel_rfl) (hC:DJ C (pO (fev f (stX (Aj R i)))) (fev f (stY (Aj R i))).cells.toList=C':=by kernel_rfl)
  (ho:(ung R i&&(Jv (Aj R i)&&(DM P (stT (Aj R i)) (fev f (stY (Aj R i))) (pO (fev f (stX (Aj R i)))) C&&(match Bd R i with | none=>true | some _=>false))))=true:=by kernel_rfl):RWP P ro n R Q (i::rest) f w:=
 LL (hs.ownAt (k:=2) rfl) (k _ (hs.put (k:=2) rfl _)) hx hC ho
theorem Ap2 {e0 e1:Option Nat×Obj} {a2:YM} (h1:T.One) (hs:HS w0 F0 w F (e0::e1::e::L)) (hr:Ap T E F a cap l e) (hm:Rd T F w a2 m) {r:List α} (hap:CD l m=some r)
  (k:∀ a' cap' e' w',HS w0 F0 w' F (e0::e1::e'::L)->Ap T E F a' cap' r e'->RWP P ro n R Q rest (A6 f (Bd R i) (.slice a' r.length cap')) w')
  (hx:fev f (apX (Aj R i))=.slice a l.length cap:=by kernel_rfl) (hy:fev f (apY (Aj R i))=.slice a2 m.length (sC (fev f (apY (Aj R i)))):=by kernel_rfl) (ho:(ung R i&&apK P E T.sz (Aj R i))=true:=by kernel_rfl):RWP P ro n R Q (i::rest) f w:=by
 simp only [Bool.and_eq_true] at ho
 obtain ⟨t,t2,by_,z,e1,he,hb,hni,hz,hzs⟩:=Hn ho.2
 have:=Bj ho.1
 rw [e1] at this
 exact RWP.append this rfl hx hy he hb hni hz hzs h1 hs (k:=2) rfl hr hm hap k
theorem St3 {e0 e1 e2:Option Nat×Obj} {b:Nat} {C:Array Value} {E:TypeId} (C':Array Value) (hs:HS w0 F0 w F (e0::e1::e2::(some b,.cells C E (0,0))::L)) (k:∀ w',HS w0 F0 w' F (e0::e1::e2::(some b,.cells C' E (0,0))::L)->RWP P ro n R Q rest f w')
  (hx:fev f (stX (Aj R i))=.pointer (some ⟨b,pO (fev f (stX (Aj R i))),none⟩):=by kernel_rfl) (hC:DJ C (pO (fev f (stX (Aj R i)))) (fev f (stY (Aj R i))).cells.toList=C':=by kernel_rfl)
  (ho:(ung R i&&(Jv (Aj R i)&&(DM P (stT (Aj R i)) (fev f (stY (Aj R i))) (pO (fev f (stX (Aj R i)))) C&&(match Bd R i with | none=>true | some _=>false))))=true:=by kernel_rfl):RWP P ro n R Q (i::rest) f w:=
 LL (hs.ownAt (k:=3) rfl) (k _ (hs.put (k:=3) rfl _)) hx hC ho
theorem St5 {e0 e1 e2 e3 e4:Option Nat×Obj} {b:Nat} {C:Array Value} {E:TypeId} (C':Array Value) (hs:HS w0 F0 w F (e0::e1::e2::e3::e4::(some b,.cells C E (0,0))::L)) (k:∀ w',HS w0 F0 w' F (e0::e1::e2::e3::e4::(some b,.cells C' E (0,0))::L)->RWP P ro n R Q rest f w')
  (hx:fev f (stX (Aj R i))=.pointer (some ⟨b,pO (fev f (stX (Aj R i))),none⟩):=by kernel_rfl) (hC:DJ C (pO (fev f (stX (Aj R i)))) (fev f (stY (Aj R i))).cells.toList=C':=by kernel_rfl)
  (ho:(ung R i&&(Jv (Aj R i)&&(DM P (stT (Aj R i)) (fev f (stY (Aj R i))) (pO (fev f (stX (Aj R i)))) C&&(match Bd R i with | none=>true | some _=>false))))=true:=by kernel_rfl):RWP P ro n R Q (i::rest) f w:=
 LL (hs.ownAt (k:=5) rfl) (k _ (hs.put (k:=5) rfl _)) hx hC ho
theorem Ap5 {e0 e1 e2 e3 e4:Option Nat×Obj} {a2:YM} (h1:T.One) (hs:HS w0 F0 w F (e0::e1::e2::e3::e4::e::L)) (hr:Ap T E F a cap l e) (hm:Rd T F w a2 m) {r:List α} (hap:CD l m=some r)
  (k:∀ a' cap' e' w',HS w0 F0 w' F (e0::e1::e2::e3::e4::e'::L)->Ap T E F a' cap' r e'->RWP P ro n R Q rest (A6 f (Bd R i) (.slice a' r.length cap')) w')
  (hx:fev f (apX (Aj R i))=.slice a l.length cap:=by kernel_rfl) (hy:fev f (apY (Aj R i))=.slice a2 m.length (sC (fev f (apY (Aj R i)))):=by kernel_rfl) (ho:(ung R i&&apK P E T.sz (Aj R i))=true:=by kernel_rfl):RWP P ro n R Q (i::rest) f w:=by
 simp only [Bool.and_eq_true] at ho
 obtain ⟨t,t2,by_,z,e1,he,hb,hni,hz,hzs⟩:=Hn ho.2
 have:=Bj ho.1
 rw [e1] at this
 exact RWP.append this rfl hx hy he hb hni hz hzs h1 hs (k:=5) rfl hr hm hap k
theorem St6 {e0 e1 e2 e3 e4 e5:Option Nat×Obj} {b:Nat} {C:Array Value} {E:TypeId} (C':Array Value) (hs:HS w0 F0 w F (e0::e1::e2::e3::e4::e5::(some b,.cells C E (0,0))::L)) (k:∀ w',HS w0 F0 w' F (e0::e1::e2::e3::e4::e5::(some b,.cells C' E (0,0))::L)->RWP P ro n R Q rest f w')
  (hx:fev f (stX (Aj R i))=.pointer (some ⟨b,pO (fev f (stX (Aj R i))),none⟩):=by kernel_rfl) (hC:DJ C (pO (fev f (stX (Aj R i)))) (fev f (stY (Aj R i))).cells.toList=C':=by kernel_rfl)
  (ho:(ung R i&&(Jv (Aj R i)&&(DM P (stT (Aj R i)) (fev f (stY (Aj R i))) (pO (fev f (stX (Aj R i)))) C&&(match Bd R i with | none=>true | some _=>false))))=true:=by kernel_rfl):RWP P ro n R Q (i::rest) f w:=
 LL (hs.ownAt (k:=6) rfl) (k _ (hs.put (k:=6) rfl _)) hx hC ho
theorem Ap6 {e0 e1 e2 e3 e4 e5:Option Nat×Obj} {a2:YM} (h1:T.One) (hs:HS w0 F0 w F (e0::e1::e2::e3::e4::e5::e::L)) (hr:Ap T E F a cap l e) (hm:Rd T F w a2 m) {r:List α} (hap:CD l m=some r)
  (k:∀ a' cap' e' w',HS w0 F0 w' F (e0::e1::e2::e3::e4::e5::e'::L)->Ap T E F a' cap' r e'->RWP P ro n R Q rest (A6 f (Bd R i) (.slice a' r.length cap')) w')
  (hx:fev f (apX (Aj R i))=.slice a l.length cap:=by kernel_rfl) (hy:fev f (apY (Aj R i))=.slice a2 m.length (sC (fev f (apY (Aj R i)))):=by kernel_rfl) (ho:(ung R i&&apK P E T.sz (Aj R i))=true:=by kernel_rfl):RWP P ro n R Q (i::rest) f w:=by
 simp only [Bool.and_eq_true] at ho
 obtain ⟨t,t2,by_,z,e1,he,hb,hni,hz,hzs⟩:=Hn ho.2
 have:=Bj ho.1
 rw [e1] at this
 exact RWP.append this rfl hx hy he hb hni hz hzs h1 hs (k:=6) rfl hr hm hap k
theorem St7 {e0 e1 e2 e3 e4 e5 e6:Option Nat×Obj} {b:Nat} {C:Array Value} {E:TypeId} (C':Array Value) (hs:HS w0 F0 w F (e0::e1::e2::e3::e4::e5::e6::(some b,.cells C E (0,0))::L)) (k:∀ w',HS w0 F0 w' F (e0::e1::e2::e3::e4::e5::e6::(some b,.cells C' E (0,0))::L)->RWP P ro n R Q rest f w')
  (hx:fev f (stX (Aj R i))=.pointer (some ⟨b,pO (fev f (stX (Aj R i))),none⟩):=by kernel_rfl) (hC:DJ C (pO (fev f (stX (Aj R i)))) (fev f (stY (Aj R i))).cells.toList=C':=by kernel_rfl)
  (ho:(ung R i&&(Jv (Aj R i)&&(DM P (stT (Aj R i)) (fev f (stY (Aj R i))) (pO (fev f (stX (Aj R i)))) C&&(match Bd R i with | none=>true | some _=>false))))=true:=by kernel_rfl):RWP P ro n R Q (i::rest) f w:=
 LL (hs.ownAt (k:=7) rfl) (k _ (hs.put (k:=7) rfl _)) hx hC ho
end
section
variable {P : Program} {n : Nat} {R : Array Oper} {Q : Exit -> Fr -> World -> Prop} {PQ : List PanicEntry -> List Deferred -> World -> Prop} {Post : Fr -> World -> Prop} {z fuel : Nat} {Sw : Bool -> World -> Prop} {i : Nat} {f : Fr} {w w' w0 : World} {F0 F Fs : Mem} {l : List Bool} {L Lc Lz : List (Option Nat × Obj)} {e : Option Nat × Obj}
def rdy (R:Array Oper) (z i:Nat) (l:List Bool):Bool:=Region.free .any R l.toArray i&&((Region.ready .any R l.toArray).contains i&&KQ R z i)
def dvf (P:Program) (R:Array Oper):List Nat->Fr->Fr
 | [],f=>f
 | i::is,f=>dvf P R is (A6 f (Bd R i) ((pv P (fev f) (Aj R i)).getD undef))
def dvl:List Nat->List Bool->List Bool
 | [],l=>l
 | i::is,l=>dvl is (l.set i true)
def Vy (P:Program) (R:Array Oper) (z:Nat):List Nat->List Bool->Fr->Bool
 | [],_,_=>true
 | i::is,l,f=>ung R i&&(isS (pv P (fev f) (Aj R i))&&(rdy R z i l&&Vy P R z is (l.set i true) (A6 f (Bd R i) ((pv P (fev f) (Aj R i)).getD undef))))
theorem VP:∀ (is:List Nat) {l:List Bool} {f:Fr} {fuel:Nat},DWP P n R PQ Post z Sw fuel (dvl is l) (dvf P R is f) w->Vy P R z is l f=true->DWP P n R PQ Post z Sw (fuel + is.length) l f w
 | [],_,_,_,k,_=>k
 | i::is,l,f,fuel,k,h=>by
  simp only [Vy,rdy,Bool.and_eq_true] at h
  obtain ⟨h1,h2,⟨h3,h4,h5⟩,h6⟩:=h
  exact DWP.take (Bj h1) h3 h4 h5 rfl rfl (fun _ _=>QO (JQ h2)) rfl (VP is k h6)
theorem Dv (is:List Nat) {fu:Nat} (k:DWP P n R PQ Post z Sw (fu - is.length) (dvl is l) (dvf P R is f) w) (h:Vy P R z is l f=true:=by kernel_rfl) (hfu:Nat.beq fu ((fu - is.length) + is.length)=true:=by kernel_rfl):DWP P n R PQ Post z Sw fu l f w:=by
 have:=Nat.eq_of_beq_eq_true hfu;rw [this]
 exact VP is k h
theorem Dvl (is:List Nat) (l':List Bool) {fu:Nat} (k:DWP P n R PQ Post z Sw (fu - is.length) l' (dvf P R is f) w) (h:Vy P R z is l f=true:=by kernel_rfl) (hl:dvl is l=l':=by kernel_rfl) (hfu:Nat.beq fu ((fu - is.length) + is.length)=true:=by kernel_rfl):DWP P n R PQ Post z Sw fu l f w:=by
 subst hl;exact Dv is k h hfu
theorem DWP.tk {v:Value} (i:Nat) {fu:Nat} (hy:∀ w',Sw (l.toArray.getD z true) w'->(An (fev f) (Aj R i) (G4 R i)).run P w'=.ok (.value v) w') (k:DWP P n R PQ Post z Sw (fu - 1) (l.set i true) (A6 f (Bd R i) v) w) (ho:ung R i=true) (hr:rdy R z i l=true)
  (hfu:Nat.beq fu ((fu - 1) + 1)=true):DWP P n R PQ Post z Sw fu l f w:=by
 simp only [rdy,Bool.and_eq_true] at hr
 have:=Nat.eq_of_beq_eq_true hfu;rw [this]
 exact DWP.take (Bj ho) hr.1 hr.2.1 hr.2.2 rfl rfl hy rfl k
theorem Dl (i:Nat) {fu b:Nat} {C:Array Value} {E:TypeId} {fz:Nat×Nat} (hp:∀ w',Sw (l.toArray.getD z true) w'->w'.heap[b]? =some (.cells C E fz)) (k:DWP P n R PQ Post z Sw (fu - 1) (l.set i true) (A6 f (Bd R i) (ldV P (ldT (Aj R i)) C (pO (fev f (ldX (Aj R i)))))) w)
  (hx:fev f (ldX (Aj R i))=.pointer (some ⟨b,pO (fev f (ldX (Aj R i))),none⟩):=by kernel_rfl) (ho:(ung R i&&(RZ (Aj R i)&&ldK P (ldT (Aj R i)) C (pO (fev f (ldX (Aj R i))))))=true:=by kernel_rfl) (hr:rdy R z i l=true:=by kernel_rfl)
  (hfu:Nat.beq fu ((fu - 1) + 1)=true:=by kernel_rfl):DWP P n R PQ Post z Sw fu l f w:=by
 simp only [Bool.and_eq_true] at ho
 refine DWP.tk i (fun w' hw=>?_) k ho.1 hr hfu
 have:=G1 ho.2.1
 rw [this];exact SJ hx (hp w' hw) ho.2.2
theorem Dx (i j:Nat) {fu b o kk:Nat} {C:Array Value} {E:TypeId} {fz:Nat×Nat} {cs:List Value} (hp:∀ w',Sw (l.toArray.getD z true) w'->w'.heap[b]? =some (.cells C E fz)) (hc:Au C o kk=cs) (k:DWP P n R PQ Post z Sw (fu - 1) (l.set i true) (A6 f (Bd R i) (lxV P (ldT (Aj R i)) cs j)) w)
  (hx:fev f (ldX (Aj R i))=.pointer (some ⟨b,o + j,none⟩):=by kernel_rfl) (ho:(ung R i&&(RZ (Aj R i)&&lxK P (ldT (Aj R i)) cs j kk))=true:=by kernel_rfl) (hr:rdy R z i l=true:=by kernel_rfl)
  (hfu:Nat.beq fu ((fu - 1) + 1)=true:=by kernel_rfl):DWP P n R PQ Post z Sw fu l f w:=by
 simp only [Bool.and_eq_true] at ho
 refine DWP.tk i (fun w' hw=>?_) k ho.1 hr hfu
 have:=G1 ho.2.1
 rw [this];exact SH hx (hp w' hw) hc ho.2.2
theorem Di (i:Nat) {fu m:Nat} {q:Int} (hi:0<=q/\q < (m:Int)) (k:DWP P n R PQ Post z Sw (fu - 1) (l.set i true) (A6 f (Bd R i) (.pointer (some ⟨sB (fev f (ixX (Aj R i))),sO (fev f (ixX (Aj R i))) + q.toNat * elS P (ixT (Aj R i)),none⟩))) w)
  (hx:fev f (ixX (Aj R i))=.slice (some ⟨sB (fev f (ixX (Aj R i))),sO (fev f (ixX (Aj R i))),none⟩) m (sC (fev f (ixX (Aj R i)))):=by kernel_rfl) (hy:fev f (ixY (Aj R i))=.int (iK (fev f (ixY (Aj R i)))) q:=by kernel_rfl)
  (ho:(ung R i&&(S8 (Aj R i)&&slQ P (ixT (Aj R i))))=true:=by kernel_rfl) (hr:rdy R z i l=true:=by kernel_rfl) (hfu:Nat.beq fu ((fu - 1) + 1)=true:=by kernel_rfl):DWP P n R PQ Post z Sw fu l f w:=by
 simp only [Bool.and_eq_true] at ho
 refine DWP.tk i (fun w' hw=>?_) k ho.1 hr hfu
 have e:=Ir ho.2.1
 have:=UQ (P:=P) (w:=w') (ty:=G4 R i) hi hx hy ho.2.2
 rw [<-e] at this;exact this
theorem D1 (i:Nat) {fu:Nat} (h:Az P n R PQ Post z Sw (fu - 1) l i f w) (hr:Region.ready .any R l.toArray=[i]:=by kernel_rfl) (hfu:Nat.beq fu ((fu - 1) + 1)=true:=by kernel_rfl):DWP P n R PQ Post z Sw fu l f w:=by
 have:=Nat.eq_of_beq_eq_true hfu;rw [this]
 exact DWP.one hr h
theorem zdT {zd:Bool} {A:Prop} (h:zd=true):zd=false->A:=fun e=>by rw [h] at e;cases e
theorem DCl {fid:FuncId} {args:List Value} {post:Mem->Value->Prop} (hok:Af P fid) (hs:HS w0 F0 w F L) (hc:Calls P fid args.toArray w (AC w F post))
  (k:∀ v F1 w1,HS w0 F0 w1 F1 L->Yr F F1->post F1 v->DWP P n R PQ Post z (DZ Fs Lc Lz) fuel (l.set i true) (A6 f (Bd R i) v) w1) (ha:clV f (Aj R i)=some (fid,args):=by kernel_rfl) (ho:ung R i=true:=by kernel_rfl)
  (hz:((l.set i true).toArray.getD z true==l.toArray.getD z true)=true:=by kernel_rfl):Az P n R PQ Post z (DZ Fs Lc Lz) fuel l i f w:=by
 cases e:Aj R i with
 | call c=>
  obtain ⟨callee,aos,ats⟩:=c
  have ho':=Bj ho
  rw [e] at ha ho'
  unfold clV at ha
  simp only at ha
  split at ha
  ·split at ha
   ·rename_i hf
    simp only [Option.some.injEq,Prod.mk.injEq] at ha
    obtain ⟨rfl,rfl⟩:=ha
    exact YD rfl (by simpa using hz) rfl ho' rfl hf hok rfl hs hc k
   ·cases ha
  ·cases ha
 | _=>rw [e] at ha;simp [clV] at ha
theorem DBs (E:TypeId) (cs:List Value) (hs:HS w0 F0 w F L) (hle:Yr Fs F) (k:∀ b w',HS w0 F0 w' F ((some b,.cells cs.toArray E (0,0))::L)->DWP P n R PQ Post z (DZ Fs Lc Lz) fuel (l.set i true) (A6 f (Bd R i) (.slice (some ⟨b,0,none⟩) (bsL (Aj R i)) (bsL (Aj R i)))) w')
  (hb:bsV P f (Aj R i)=some (E,cs):=by kernel_rfl) (ho:ung R i=true:=by kernel_rfl) (hL:∀ p,p∈Lc->p∈L:=by simp) (hLz:(l.set i true).toArray.getD z true=false->∀ p,p∈Lz->p∈L:=by first | (intro _;simp;done) | exact zdT (by kernel_rfl)):Az P n R PQ Post z (DZ Fs Lc Lz) fuel l i f w:=by
 have:=Bj ho
 cases e:Aj R i with
 | buildSlice t len parts=>
  rw [e] at hb this k
  exact Az.buildSlice rfl rfl this rfl rfl hb hs hle hL hLz k
 | _=>rw [e] at hb;simp [bsV] at hb
theorem DAl (t:TypeId) (C:Array Value) (hs:HS w0 F0 w F L) (hle:Yr Fs F) (k:∀ b w',HS w0 F0 w' F ((some b,.cells C t (0,0))::L)->DWP P n R PQ Post z (DZ Fs Lc Lz) fuel (l.set i true) (A6 f (Bd R i) (.pointer (some ⟨b,0,none⟩))) w')
  (hC:(B9 P t).map Value.cells=some C:=by kernel_rfl) (ho:(ung R i&&WB t (Aj R i))=true:=by kernel_rfl) (hL:∀ p,p∈Lc->p∈L:=by simp) (hLz:(l.set i true).toArray.getD z true=false->∀ p,p∈Lz->p∈L:=by first | (intro _;simp;done) | exact zdT (by kernel_rfl)):Az P n R PQ Post z (DZ Fs Lc Lz) fuel l i f w:=by
 simp only [Bool.and_eq_true] at ho
 cases hz:B9 P t with
 | none=>rw [hz] at hC;cases hC
 | some z=>
  rw [hz] at hC;simp only [Option.map_some,Option.some.injEq] at hC
  have e:=Qp ho.2
  have:=Bj ho.1
  rw [e] at this
  exact Az.alloc rfl rfl this rfl hz hC hs hle hL hLz k
theorem DBx (t:TypeId) (C:Array Value) (hs:HS w0 F0 w F L) (hle:Yr Fs F) (k:∀ b w',HS w0 F0 w' F ((some b,.cells C t (0,0))::L)->DWP P n R PQ Post z (DZ Fs Lc Lz) fuel (l.set i true) (A6 f (Bd R i) (.pointer (some ⟨b,0,none⟩))) w')
  (hC:(fev f (bxX (Aj R i))).cells=C:=by kernel_rfl) (ho:(ung R i&&WA t (Aj R i))=true:=by kernel_rfl) (hL:∀ p,p∈Lc->p∈L:=by simp) (hLz:(l.set i true).toArray.getD z true=false->∀ p,p∈Lz->p∈L:=by first | (intro _;simp;done) | exact zdT (by kernel_rfl)):Az P n R PQ Post z (DZ Fs Lc Lz) fuel l i f w:=by
 simp only [Bool.and_eq_true] at ho
 have e:=Qo ho.2
 have:=Bj ho.1
 rw [e] at this
 exact Az.box rfl rfl this rfl rfl hC hs hle hL hLz k
theorem DCB {fid:FuncId} {args:List Value} {wb:World} {Fb:Mem} {post:Mem->Value->Own->Prop} (hok:Af P fid) (hc:Calls P fid args.toArray w (FY wb Fb F post))
  (k:∀ v F1 w1 L',HS wb Fb w1 F1 L'->Yr F F1->post F1 v L'->DZ Fs Lc Lz ((l.set i true).toArray.getD z true) w1/\DWP P n R PQ Post z (DZ Fs Lc Lz) fuel (l.set i true) (A6 f (Bd R i) v) w1) (ha:clV f (Aj R i)=some (fid,args):=by kernel_rfl) (ho:ung R i=true:=by kernel_rfl):Az P n R PQ Post z (DZ Fs Lc Lz) fuel l i f w:=by
 cases e:Aj R i with
 | call c=>
  obtain ⟨callee,aos,ats⟩:=c
  have ho':=Bj ho
  rw [e] at ha ho'
  unfold clV at ha
  simp only at ha
  split at ha
  ·split at ha
   ·rename_i hf
    simp only [Option.some.injEq,Prod.mk.injEq] at ha
    obtain ⟨rfl,rfl⟩:=ha
    exact Az.callB rfl rfl ho' rfl hf hok rfl hc k
   ·cases ha
  ·cases ha
 | _=>rw [e] at ha;simp [clV] at ha
def fls:Nat->List Bool
 | 0=>[]
 | n + 1=>false::fls n
variable {c : Code}
def Wm (R:Array Oper):Bool:=R.all fun o=>!Ok o.op
def W7 (P:Program) (n m:Nat) (c:Code):Bool:=Nat.beq (kin c) 2&&(okR n (Nc c)&&(Region.noSelect (Nc c)&&(Wm (Nc c)&&Nat.beq (Nc c).size m)))
theorem Xx:∀ n,Array.replicate n false=(fls n).toArray:=fun n=>by
 have:List.replicate n false=fls n:=by induction n with
  | zero=>rfl
  | succ n ih=>rw [List.replicate_succ,ih];rfl
 rw [<-this];simp
theorem Wj {R:Array Oper} (hd:Wm R=true) (ro:Option Nat) {Q:Exit->Act->World->Prop} {i:Nat} {K K':Act->World->Prop} (hK:∀ a w,K a w->K' a w) {a:Act} {w:World} (h:wpOpIn (FW none) 0 P R Q i K a w):wpOpIn (FW ro) 0 P R Q i K' a w:=by
 have h:=wpOpIn_mono hK h
 unfold wpOpIn at h ⊢
 cases ho:R[i]? with
 | none=>simp only [ho] at h ⊢;exact h
 | some o=>
  simp only [ho] at h ⊢
  split
  ·rename_i hw
   simp only [hw,if_true] at h
   have hi:i < R.size:=by
    rcases Nat.lt_or_ge i R.size with h' | h'
    ·exact h'
    ·simp [Array.getElem?_eq_none h'] at ho
   have hnd:Ok o.op=false:=by
    unfold Wm at hd
    rw [Array.all_eq_true] at hd
    have:=hd i hi
    have e:R[i]=o:=by simpa [Array.getElem?_eq_getElem hi] using ho
    rw [e] at this;simpa using this
   unfold Oper.wpIn at h ⊢
   refine ⟨fun _ _=>trivial,?_⟩
   have e:∀ r,Oper.semAt r a.eval o=execOp a.eval o:=fun r=>JD hnd r a.eval o rfl
   have h2:=h.2
   rw [e] at h2 ⊢
   exact h2
  ·rename_i hw
   simp only [hw,if_false] at h
   exact ⟨fun _ _=>trivial,h.2⟩
theorem VF {R:Array Oper} (hd:Wm R=true) (ro:Option Nat) {Q:Exit->Act->World->Prop}:∀ (fuel:Nat) (l:Array Bool) (a:Act) (w:World),wpAnyIn (FW none) 0 P .any R Q fuel l a w->wpAnyIn (FW ro) 0 P .any R Q fuel l a w
 | 0,_,_,_,h=>h
 | fuel + 1,_,_,_,h=>⟨h.1,fun i hi=>Wj hd ro (fun a w=>VF hd ro fuel _ a w) (h.2 i hi)⟩
variable {ro : Option Nat}
theorem RDP (z m:Nat) (Lc Lz:List (Option Nat×Obj)) (hs:HS w0 F0 w F L) (PQ:List PanicEntry->List Deferred->World->Prop) (Post:Fr->World->Prop)
  (h:∀ w',HS w0 F0 w' F L->DWP P n (Nc c) PQ Post z (DZ F Lc Lz) m (fls m) f w') (k:∀ f w,Post f w->Q .normal f w) (kp:∀ c f w,PQ c f.d w->Q (.panic c) f w) (hm:P.follows .mixedOrders=true:=by kernel_rfl) (ho:W7 P n m c=true:=by kernel_rfl) (hc:∀ p,p∈Lc->p∈L:=by simp) (hz:∀ p,p∈Lz->p∈L:=by simp):CWP P ro n c Q f w:=by
 simp only [W7,Bool.and_eq_true] at ho
 obtain ⟨hk,hok,hns,hnd,hfu⟩:=ho
 replace hk:=Nat.eq_of_beq_eq_true hk
 replace hfu:=Nat.eq_of_beq_eq_true hfu
 subst hfu
 cases c <;> simp [kin] at hk
 rename_i id ops d
 cases d <;> simp [kin] at hk
 intro a ha
 have hs':HS w0 F0 {w with drawn:=w.drawn + 1} F L:=hs.heap rfl
 refine wpIn_mono (wpIn_region_any hm (VF hnd ro _ _ _ _ (Oo (z:=z) (S:=DZ F Lc Lz) _ _ _ _ ?_))) (Q:=lq n (nq PQ Post)) ?_
 ·simp only [Nc] at *
  rw [Xx]
  exact h _ hs' hok hns (Bw hs' (Ys F) hc fun _=>hz) a ha
 ·rintro e a w ⟨f,hf,hP⟩
  cases e with
  | normal=>exact ⟨f,hf,k _ _ hP⟩
  | panic c=>exact ⟨f,hf,kp _ _ _ hP⟩
  | _=>exact hP.elim
theorem RD (z m:Nat) (Lc Lz:List (Option Nat×Obj)) (hs:HS w0 F0 w F L) (Post:Fr->World->Prop)
  (h:∀ w',HS w0 F0 w' F L->DWP P n (Nc c) (fun _ _ _=>False) Post z (DZ F Lc Lz) m (fls m) f w') (k:∀ f w,Post f w->Q .normal f w) (hm:P.follows .mixedOrders=true:=by kernel_rfl) (ho:W7 P n m c=true:=by kernel_rfl) (hc:∀ p,p∈Lc->p∈L:=by simp) (hz:∀ p,p∈Lz->p∈L:=by simp):CWP P ro n c Q f w:=
 RDP z m Lc Lz hs (fun _ _ _=>False) Post h k (fun _ _ _ h=>h.elim) hm ho hc hz
variable {α : Type} {T : Ty α} {E : TypeId} {a : YM} {cap : Nat} {ls m : List α}
theorem Em {b:Nat} {C:Array Value} {E:TypeId} (C':Array Value) (hs:HS w0 F0 w F ((some b,.cells C E (0,0))::L)) (hle:Yr Fs F) (k:∀ w',HS w0 F0 w' F ((some b,.cells C' E (0,0))::L)->DWP P n R PQ Post z (DZ Fs Lc Lz) fuel (l.set i true) f w')
  (hx:fev f (stX (Aj R i))=.pointer (some ⟨b,pO (fev f (stX (Aj R i))),none⟩):=by kernel_rfl) (hC:DJ C (pO (fev f (stX (Aj R i)))) (fev f (stY (Aj R i))).cells.toList=C':=by kernel_rfl)
  (ho:(ung R i&&(Jv (Aj R i)&&(DM P (stT (Aj R i)) (fev f (stY (Aj R i))) (pO (fev f (stX (Aj R i)))) C&&(match Bd R i with | none=>true | some _=>false))))=true:=by kernel_rfl)
  (hL:∀ p,p∈Lc->p∈(some b,.cells C' E (0,0))::L:=by simp) (hLz:(l.set i true).toArray.getD z true=false->∀ p,p∈Lz->p∈(some b,.cells C' E (0,0))::L:=by first | (intro _;simp;done) | exact zdT (by kernel_rfl)):Az P n R PQ Post z (DZ Fs Lc Lz) fuel l i f w:=by
 simp only [Bool.and_eq_true] at ho
 obtain ⟨h1,h2,h3,h4⟩:=ho
 have e:=Es h2
 have:=Bj h1
 cases hd:Bd R i with
 | some d=>rw [hd] at h4;cases h4
 | none=>
  rw [hd] at this
  have hp:=hs.put (k:=0) rfl (.cells C' E (0,0))
  refine YC rfl rfl this rfl ?_ (Bw hp hle hL hLz) (k _ hp)
  have hr:=IJ (P:=P) (ty:=G4 R i) (w:=w) hx (hs.ownAt (k:=0) rfl) h3 hC
  rw [<-e] at hr;exact hr
theorem Ob {e0:Option Nat×Obj} {b:Nat} {C:Array Value} {E:TypeId} (C':Array Value) (hs:HS w0 F0 w F (e0::(some b,.cells C E (0,0))::L)) (hle:Yr Fs F) (k:∀ w',HS w0 F0 w' F (e0::(some b,.cells C' E (0,0))::L)->DWP P n R PQ Post z (DZ Fs Lc Lz) fuel (l.set i true) f w')
  (hx:fev f (stX (Aj R i))=.pointer (some ⟨b,pO (fev f (stX (Aj R i))),none⟩):=by kernel_rfl) (hC:DJ C (pO (fev f (stX (Aj R i)))) (fev f (stY (Aj R i))).cells.toList=C':=by kernel_rfl)
  (ho:(ung R i&&(Jv (Aj R i)&&(DM P (stT (Aj R i)) (fev f (stY (Aj R i))) (pO (fev f (stX (Aj R i)))) C&&(match Bd R i with | none=>true | some _=>false))))=true:=by kernel_rfl)
  (hL:∀ p,p∈Lc->p∈e0::(some b,.cells C' E (0,0))::L:=by simp) (hLz:(l.set i true).toArray.getD z true=false->∀ p,p∈Lz->p∈e0::(some b,.cells C' E (0,0))::L:=by first | (intro _;simp;done) | exact zdT (by kernel_rfl)):Az P n R PQ Post z (DZ Fs Lc Lz) fuel l i f w:=by
 simp only [Bool.and_eq_true] at ho
 obtain ⟨h1,h2,h3,h4⟩:=ho
 have e:=Es h2
 have:=Bj h1
 cases hd:Bd R i with
 | some d=>rw [hd] at h4;cases h4
 | none=>
  rw [hd] at this
  have hp:=hs.put (k:=1) rfl (.cells C' E (0,0))
  refine YC rfl rfl this rfl ?_ (Bw hp hle hL hLz) (k _ hp)
  have hr:=IJ (P:=P) (ty:=G4 R i) (w:=w) hx (hs.ownAt (k:=1) rfl) h3 hC
  rw [<-e] at hr;exact hr
theorem X7 {e0:Option Nat×Obj} {a2:YM} (h1:T.One) (hs:HS w0 F0 w F (e0::e::L)) (hr:Ap T E F a cap ls e) (hm:Rd T F w a2 m) {r:List α} (hap:CD ls m=some r) (hle:Yr Fs F)
  (k:∀ a' cap' e' w',HS w0 F0 w' F (e0::e'::L)->Ap T E F a' cap' r e'->DWP P n R PQ Post z (DZ Fs Lc Lz) fuel (l.set i true) (A6 f (Bd R i) (.slice a' r.length cap')) w')
  (hx:fev f (apX (Aj R i))=.slice a ls.length cap:=by kernel_rfl) (hy:fev f (apY (Aj R i))=.slice a2 m.length (sC (fev f (apY (Aj R i)))):=by kernel_rfl) (ho:(ung R i&&apK P E T.sz (Aj R i))=true:=by kernel_rfl)
  (hL:∀ e' p,p∈Lc->p∈e0::e'::L:=by (intro _;simp)) (hLz:(l.set i true).toArray.getD z true=false->∀ e' p,p∈Lz->p∈e0::e'::L:=by first | (intro _ _;simp;done) | exact zdT (by kernel_rfl)):Az P n R PQ Post z (DZ Fs Lc Lz) fuel l i f w:=by
 simp only [Bool.and_eq_true] at ho
 obtain ⟨t,t2,by_,zz,e1,he,hb,hni,hz,hzs⟩:=Hn ho.2
 have:=Bj ho.1
 rw [e1] at this
 exact Az.append rfl rfl this rfl hx hy he hb hni hz hzs h1 hs (k:=1) rfl hr hm hap hle hL hLz k
theorem PB {e0 e1:Option Nat×Obj} {b:Nat} {C:Array Value} {E:TypeId} (C':Array Value) (hs:HS w0 F0 w F (e0::e1::(some b,.cells C E (0,0))::L)) (hle:Yr Fs F) (k:∀ w',HS w0 F0 w' F (e0::e1::(some b,.cells C' E (0,0))::L)->DWP P n R PQ Post z (DZ Fs Lc Lz) fuel (l.set i true) f w')
  (hx:fev f (stX (Aj R i))=.pointer (some ⟨b,pO (fev f (stX (Aj R i))),none⟩):=by kernel_rfl) (hC:DJ C (pO (fev f (stX (Aj R i)))) (fev f (stY (Aj R i))).cells.toList=C':=by kernel_rfl)
  (ho:(ung R i&&(Jv (Aj R i)&&(DM P (stT (Aj R i)) (fev f (stY (Aj R i))) (pO (fev f (stX (Aj R i)))) C&&(match Bd R i with | none=>true | some _=>false))))=true:=by kernel_rfl)
  (hL:∀ p,p∈Lc->p∈e0::e1::(some b,.cells C' E (0,0))::L:=by simp) (hLz:(l.set i true).toArray.getD z true=false->∀ p,p∈Lz->p∈e0::e1::(some b,.cells C' E (0,0))::L:=by first | (intro _;simp;done) | exact zdT (by kernel_rfl)):Az P n R PQ Post z (DZ Fs Lc Lz) fuel l i f w:=by
 simp only [Bool.and_eq_true] at ho
 obtain ⟨h1,h2,h3,h4⟩:=ho
 have e:=Es h2
 have:=Bj h1
 cases hd:Bd R i with
 | some d=>rw [hd] at h4;cases h4
 | none=>
  rw [hd] at this
  have hp:=hs.put (k:=2) rfl (.cells C' E (0,0))
  refine YC rfl rfl this rfl ?_ (Bw hp hle hL hLz) (k _ hp)
  have hr:=IJ (P:=P) (ty:=G4 R i) (w:=w) hx (hs.ownAt (k:=2) rfl) h3 hC
  rw [<-e] at hr;exact hr
theorem WJ {e0 e1 e2:Option Nat×Obj} {b:Nat} {C:Array Value} {E:TypeId} (C':Array Value) (hs:HS w0 F0 w F (e0::e1::e2::(some b,.cells C E (0,0))::L)) (hle:Yr Fs F) (k:∀ w',HS w0 F0 w' F (e0::e1::e2::(some b,.cells C' E (0,0))::L)->DWP P n R PQ Post z (DZ Fs Lc Lz) fuel (l.set i true) f w')
  (hx:fev f (stX (Aj R i))=.pointer (some ⟨b,pO (fev f (stX (Aj R i))),none⟩):=by kernel_rfl) (hC:DJ C (pO (fev f (stX (Aj R i)))) (fev f (stY (Aj R i))).cells.toList=C':=by kernel_rfl)
  (ho:(ung R i&&(Jv (Aj R i)&&(DM P (stT (Aj R i)) (fev f (stY (Aj R i))) (pO (fev f (stX (Aj R i)))) C&&(match Bd R i with | none=>true | some _=>false))))=true:=by kernel_rfl)
  (hL:∀ p,p∈Lc->p∈e0::e1::e2::(some b,.cells C' E (0,0))::L:=by simp) (hLz:(l.set i true).toArray.getD z true=false->∀ p,p∈Lz->p∈e0::e1::e2::(some b,.cells C' E (0,0))::L:=by first | (intro _;simp;done) | exact zdT (by kernel_rfl)):Az P n R PQ Post z (DZ Fs Lc Lz) fuel l i f w:=by
 simp only [Bool.and_eq_true] at ho
 obtain ⟨h1,h2,h3,h4⟩:=ho
 have e:=Es h2
 have:=Bj h1
 cases hd:Bd R i with
 | some d=>rw [hd] at h4;cases h4
 | none=>
  rw [hd] at this
  have hp:=hs.put (k:=3) rfl (.cells C' E (0,0))
  refine YC rfl rfl this rfl ?_ (Bw hp hle hL hLz) (k _ hp)
  have hr:=IJ (P:=P) (ty:=G4 R i) (w:=w) hx (hs.ownAt (k:=3) rfl) h3 hC
  rw [<-e] at hr;exact hr
theorem Ym {e0 e1 e2:Option Nat×Obj} {a2:YM} (h1:T.One) (hs:HS w0 F0 w F (e0::e1::e2::e::L)) (hr:Ap T E F a cap ls e) (hm:Rd T F w a2 m) {r:List α} (hap:CD ls m=some r) (hle:Yr Fs F)
  (k:∀ a' cap' e' w',HS w0 F0 w' F (e0::e1::e2::e'::L)->Ap T E F a' cap' r e'->DWP P n R PQ Post z (DZ Fs Lc Lz) fuel (l.set i true) (A6 f (Bd R i) (.slice a' r.length cap')) w')
  (hx:fev f (apX (Aj R i))=.slice a ls.length cap:=by kernel_rfl) (hy:fev f (apY (Aj R i))=.slice a2 m.length (sC (fev f (apY (Aj R i)))):=by kernel_rfl) (ho:(ung R i&&apK P E T.sz (Aj R i))=true:=by kernel_rfl)
  (hL:∀ e' p,p∈Lc->p∈e0::e1::e2::e'::L:=by (intro _;simp)) (hLz:(l.set i true).toArray.getD z true=false->∀ e' p,p∈Lz->p∈e0::e1::e2::e'::L:=by first | (intro _ _;simp;done) | exact zdT (by kernel_rfl)):Az P n R PQ Post z (DZ Fs Lc Lz) fuel l i f w:=by
 simp only [Bool.and_eq_true] at ho
 obtain ⟨t,t2,by_,zz,e1,he,hb,hni,hz,hzs⟩:=Hn ho.2
 have:=Bj ho.1
 rw [e1] at this
 exact Az.append rfl rfl this rfl hx hy he hb hni hz hzs h1 hs (k:=3) rfl hr hm hap hle hL hLz k
theorem X6 {e0 e1 e2 e3:Option Nat×Obj} {b:Nat} {C:Array Value} {E:TypeId} (C':Array Value) (hs:HS w0 F0 w F (e0::e1::e2::e3::(some b,.cells C E (0,0))::L)) (hle:Yr Fs F) (k:∀ w',HS w0 F0 w' F (e0::e1::e2::e3::(some b,.cells C' E (0,0))::L)->DWP P n R PQ Post z (DZ Fs Lc Lz) fuel (l.set i true) f w')
  (hx:fev f (stX (Aj R i))=.pointer (some ⟨b,pO (fev f (stX (Aj R i))),none⟩):=by kernel_rfl) (hC:DJ C (pO (fev f (stX (Aj R i)))) (fev f (stY (Aj R i))).cells.toList=C':=by kernel_rfl)
  (ho:(ung R i&&(Jv (Aj R i)&&(DM P (stT (Aj R i)) (fev f (stY (Aj R i))) (pO (fev f (stX (Aj R i)))) C&&(match Bd R i with | none=>true | some _=>false))))=true:=by kernel_rfl)
  (hL:∀ p,p∈Lc->p∈e0::e1::e2::e3::(some b,.cells C' E (0,0))::L:=by simp) (hLz:(l.set i true).toArray.getD z true=false->∀ p,p∈Lz->p∈e0::e1::e2::e3::(some b,.cells C' E (0,0))::L:=by first | (intro _;simp;done) | exact zdT (by kernel_rfl)):Az P n R PQ Post z (DZ Fs Lc Lz) fuel l i f w:=by
 simp only [Bool.and_eq_true] at ho
 obtain ⟨h1,h2,h3,h4⟩:=ho
 have e:=Es h2
 have:=Bj h1
 cases hd:Bd R i with
 | some d=>rw [hd] at h4;cases h4
 | none=>
  rw [hd] at this
  have hp:=hs.put (k:=4) rfl (.cells C' E (0,0))
  refine YC rfl rfl this rfl ?_ (Bw hp hle hL hLz) (k _ hp)
  have hr:=IJ (P:=P) (ty:=G4 R i) (w:=w) hx (hs.ownAt (k:=4) rfl) h3 hC
  rw [<-e] at hr;exact hr
theorem UC {e0 e1 e2 e3 e4:Option Nat×Obj} {b:Nat} {C:Array Value} {E:TypeId} (C':Array Value) (hs:HS w0 F0 w F (e0::e1::e2::e3::e4::(some b,.cells C E (0,0))::L)) (hle:Yr Fs F) (k:∀ w',HS w0 F0 w' F (e0::e1::e2::e3::e4::(some b,.cells C' E (0,0))::L)->DWP P n R PQ Post z (DZ Fs Lc Lz) fuel (l.set i true) f w')
  (hx:fev f (stX (Aj R i))=.pointer (some ⟨b,pO (fev f (stX (Aj R i))),none⟩):=by kernel_rfl) (hC:DJ C (pO (fev f (stX (Aj R i)))) (fev f (stY (Aj R i))).cells.toList=C':=by kernel_rfl)
  (ho:(ung R i&&(Jv (Aj R i)&&(DM P (stT (Aj R i)) (fev f (stY (Aj R i))) (pO (fev f (stX (Aj R i)))) C&&(match Bd R i with | none=>true | some _=>false))))=true:=by kernel_rfl)
  (hL:∀ p,p∈Lc->p∈e0::e1::e2::e3::e4::(some b,.cells C' E (0,0))::L:=by simp) (hLz:(l.set i true).toArray.getD z true=false->∀ p,p∈Lz->p∈e0::e1::e2::e3::e4::(some b,.cells C' E (0,0))::L:=by first | (intro _;simp;done) | exact zdT (by kernel_rfl)):Az P n R PQ Post z (DZ Fs Lc Lz) fuel l i f w:=by
 simp only [Bool.and_eq_true] at ho
 obtain ⟨h1,h2,h3,h4⟩:=ho
 have e:=Es h2
 have:=Bj h1
 cases hd:Bd R i with
 | some d=>rw [hd] at h4;cases h4
 | none=>
  rw [hd] at this
  have hp:=hs.put (k:=5) rfl (.cells C' E (0,0))
  refine YC rfl rfl this rfl ?_ (Bw hp hle hL hLz) (k _ hp)
  have hr:=IJ (P:=P) (ty:=G4 R i) (w:=w) hx (hs.ownAt (k:=5) rfl) h3 hC
  rw [<-e] at hr;exact hr
theorem WI {e0 e1 e2 e3 e4 e5:Option Nat×Obj} {b:Nat} {C:Array Value} {E:TypeId} (C':Array Value) (hs:HS w0 F0 w F (e0::e1::e2::e3::e4::e5::(some b,.cells C E (0,0))::L)) (hle:Yr Fs F) (k:∀ w',HS w0 F0 w' F (e0::e1::e2::e3::e4::e5::(some b,.cells C' E (0,0))::L)->DWP P n R PQ Post z (DZ Fs Lc Lz) fuel (l.set i true) f w')
  (hx:fev f (stX (Aj R i))=.pointer (some ⟨b,pO (fev f (stX (Aj R i))),none⟩):=by kernel_rfl) (hC:DJ C (pO (fev f (stX (Aj R i)))) (fev f (stY (Aj R i))).cells.toList=C':=by kernel_rfl)
  (ho:(ung R i&&(Jv (Aj R i)&&(DM P (stT (Aj R i)) (fev f (stY (Aj R i))) (pO (fev f (stX (Aj R i)))) C&&(match Bd R i with | none=>true | some _=>false))))=true:=by kernel_rfl)
  (hL:∀ p,p∈Lc->p∈e0::e1::e2::e3::e4::e5::(some b,.cells C' E (0,0))::L:=by simp) (hLz:(l.set i true).toArray.getD z true=false->∀ p,p∈Lz->p∈e0::e1::e2::e3::e4::e5::(some b,.cells C' E (0,0))::L:=by first | (intro _;simp;done) | exact zdT (by kernel_rfl)):Az P n R PQ Post z (DZ Fs Lc Lz) fuel l i f w:=by
 simp only [Bool.and_eq_true] at ho
 obtain ⟨h1,h2,h3,h4⟩:=ho
 have e:=Es h2
 have:=Bj h1
 cases hd:Bd R i with
 | some d=>rw [hd] at h4;cases h4
 | none=>
  rw [hd] at this
  have hp:=hs.put (k:=6) rfl (.cells C' E (0,0))
  refine YC rfl rfl this rfl ?_ (Bw hp hle hL hLz) (k _ hp)
  have hr:=IJ (P:=P) (ty:=G4 R i) (w:=w) hx (hs.ownAt (k:=6) rfl) h3 hC
  rw [<-e] at hr;exact hr
theorem Yl {e0 e1 e2 e3 e4 e5 e6:Option Nat×Obj} {b:Nat} {C:Array Value} {E:TypeId} (C':Array Value) (hs:HS w0 F0 w F (e0::e1::e2::e3::e4::e5::e6::(some b,.cells C E (0,0))::L)) (hle:Yr Fs F) (k:∀ w',HS w0 F0 w' F (e0::e1::e2::e3::e4::e5::e6::(some b,.cells C' E (0,0))::L)->DWP P n R PQ Post z (DZ Fs Lc Lz) fuel (l.set i true) f w')
  (hx:fev f (stX (Aj R i))=.pointer (some ⟨b,pO (fev f (stX (Aj R i))),none⟩):=by kernel_rfl) (hC:DJ C (pO (fev f (stX (Aj R i)))) (fev f (stY (Aj R i))).cells.toList=C':=by kernel_rfl)
  (ho:(ung R i&&(Jv (Aj R i)&&(DM P (stT (Aj R i)) (fev f (stY (Aj R i))) (pO (fev f (stX (Aj R i)))) C&&(match Bd R i with | none=>true | some _=>false))))=true:=by kernel_rfl)
  (hL:∀ p,p∈Lc->p∈e0::e1::e2::e3::e4::e5::e6::(some b,.cells C' E (0,0))::L:=by simp) (hLz:(l.set i true).toArray.getD z true=false->∀ p,p∈Lz->p∈e0::e1::e2::e3::e4::e5::e6::(some b,.cells C' E (0,0))::L:=by first | (intro _;simp;done) | exact zdT (by kernel_rfl)):Az P n R PQ Post z (DZ Fs Lc Lz) fuel l i f w:=by
 simp only [Bool.and_eq_true] at ho
 obtain ⟨h1,h2,h3,h4⟩:=ho
 have e:=Es h2
 have:=Bj h1
 cases hd:Bd R i with
 | some d=>rw [hd] at h4;cases h4
 | none=>
  rw [hd] at this
  have hp:=hs.put (k:=7) rfl (.cells C' E (0,0))
  refine YC rfl rfl this rfl ?_ (Bw hp hle hL hLz) (k _ hp)
  have hr:=IJ (P:=P) (ty:=G4 R i) (w:=w) hx (hs.ownAt (k:=7) rfl) h3 hC
  rw [<-e] at hr;exact hr
end
theorem YP.mono {P:Program} {l:Nat} {args:List Value} {w:World} {S S':Ending->World->Prop} (h:YP P l args w S) (hi:∀ e w',S e w'->S' e w'):YP P l args w S':=
 let ⟨fn,t,a,b,h1,h2⟩:=h;⟨fn,t,a,b,h1,h2.mono hi⟩
section
variable {P : Program} {w : World} {ρ : Operand -> Value} {ty : TypeId}
def VC (P:Program) (t:TypeId) (parts:List (Nat×Value)):Option (List Value):=
 match P.underlying t,B9 P t with
 | some (.array _ e),some z=>match P.info? e with
  | some i=>match Instr.fill (fun k=>some (k * i.size,i.size)) z.cells parts with
   | some cs=>some cs.toList
   | none=>none
  | none=>none
 | _,_=>none
theorem Lh {t:TypeId} {parts:Array (Nat×Operand)} {vs:List (Nat×Value)} {cs:List Value} (hv:parts.toList.map (fun p=>(p.1,ρ p.2))=vs) (hb:VC P t vs=some cs):
  (An ρ (.build t parts) ty).run P w=.ok (.value (.agg cs.toArray)) w:=by
 subst hv
 unfold VC at hb
 split at hb
 ·rename_i n e z hu hz
  split at hb
  ·rename_i i hi
   split at hb
   ·rename_i cs' hfill
    simp only [Option.some.injEq] at hb
    subst hb
    have e1:An ρ (.build t parts) ty=(do pure (Next.value (<-Instr.build t (parts.map fun (i,x)=>(i,ρ x))))):=rfl
    have hzv:(zeroValue t).run P w=.ok z w:=by
     unfold B9 at hz
     split at hz
     ·rename_i i hi;simp [zeroValue,typeInfo,hi,hz]
     ·cases hz
    rw [e1]
    simp only [Instr.build,Sem.run_bind,hzv,Result.andThen_ok,run_underlying hu,EE hi]
    have hl:(parts.map fun (i,x)=>(i,ρ x)).toList=parts.toList.map (fun p=>(p.1,ρ p.2)):=by simp
    rw [hl,hfill]
    simp
   ·cases hb
  ·cases hb
 ·cases hb
theorem Tp {t E:TypeId} {len:Nat} {x y:Operand} {k:IntKind} {i:Int} {cs:List Value} {v:Value} (hx:ρ x=.agg cs.toArray) (hy:ρ y=.int k i) (hu:P.underlying t=some (.array len E)) (ht:FJ P E=some (false,1)) (hlen:cs.length=len) (hv:idx cs i=some v):
  (An ρ (.index t x y) ty).run P w=.ok (.value v) w:=by
 obtain ⟨⟨h0,h1⟩,h2⟩:=Ah hv
 have hc:Au cs.toArray (i.toNat * 1) 1=[v]:=by
  rw [Nat.mul_one]
  exact J7.2 (by simpa using h2)
 have hp:=Ib (P:=P) (t:=E) (C:=cs.toArray) (o:=i.toNat * 1) ht (by rw [hc];rfl) (.inr rfl) w
 rw [hc] at hp
 simp only [An,execOp,hx,hy,Instr.index,asIntOf,Sem.run_bind,Sem.run_pure,Result.andThen_ok,run_underlying hu,Dj ht]
 rw [if_pos (show 0<=i/\i < (len:Int) by omega)]
 simp only [Sem.run_bind,Dj ht,Result.andThen_ok]
 rw [hp]
 rfl
theorem R3 {α:Type} {f:α->Value} {l:List α} {i:Int} {x:α} (h:idx l i=some x):idx (l.map f) i=some (f x):=by
 obtain ⟨⟨h0,h1⟩,h2⟩:=Ah h
 unfold idx
 rw [if_pos h0,List.getElem?_map,h2];rfl
def toB (l:List Int):YL:=l.map fun n=>UInt8.ofNat n.toNat
theorem O5:∀ (ns:List Int) (A:Array UInt8),ns.foldl (fun r n=>ByteArray.push r (UInt8.ofNat n.toNat)) ⟨A⟩=⟨A++(toB ns).toArray⟩
 | [],A=>by simp [toB]
 | n::ns,A=>by
  rw [List.foldl_cons]
  have:ByteArray.push ⟨A⟩ (UInt8.ofNat n.toNat)=⟨A.push (UInt8.ofNat n.toNat)⟩:=rfl
  rw [this,O5 ns]
  simp [toB]
theorem V4 {w0:World} {F0 F:Mem} {L:Own} {s d E:TypeId} {x:Operand} {a:YM} {cap q:Nat} {l:List Int} {e:Option Nat×Obj} (hx:ρ x=.slice a l.length cap) (hs:P.underlying s=some (.slice E)) (hE:P.underlying E=some (.int .u8)) (hd:P.underlying d=some .string)
  (hh:HS w0 F0 w F L) (hq:L[q]? =some e) (hr:Ap tU8 E F a cap l e):(An ρ (.convert s d x) ty).run P w=.ok (.value (.string ⟨(toB l).toArray⟩)) w:=by
 have e1:An ρ (.convert s d x) ty=(do pure (Next.value (<-convert s d (ρ x)))):=rfl
 rw [e1,hx,Sem.run_bind,run_convert_bytes_string w s d E a l.length cap hs hE hd]
 rcases hr.2 with ⟨rfl,rfl,rfl,_⟩ | ⟨b,C,rfl,rfl,hc,hsz,hR⟩
 ·rfl
 ·have hb:=hh.ownAt hq
  have hl:=run_loadCells_list (P:=P) (w:=w) ⟨b,0,none⟩ (l.map (Value.int .u8)) (fun j v hj=>by
   rw [List.getElem?_map] at hj
   cases hlj:l[j]? with
   | none=>rw [hlj] at hj;cases hj
   | some n=>
    rw [hlj] at hj
    cases hj
    have h1:Au C (j * 1) 1=[.int .u8 n]:=hR j n hlj
    rw [Nat.mul_one] at h1
    have h2:=J7.1 h1
    rw [Addr.add_lit]
    simp [World.cell?,hb,h2])
  rw [List.length_map] at hl
  have h2:=run_bytesToString (P:=P) w ⟨b,0,none⟩ l.length cap l (by rw [hl])
  rw [h2,show ByteArray.empty=⟨#[]⟩ from rfl,O5]
  simp [Result.andThen]
end
section
variable {P : Program} {n : Nat} {R : Array Oper} {f : Fr} {w : World} {PQ : List PanicEntry -> List Deferred -> World -> Prop} {Post : Fr -> World -> Prop} {z : Nat} {fuel : Nat} {l l' : List Bool} {zd : Bool} {i : Nat} {dst : Option Nat} {ty : TypeId} {g : Option (Nat × Bool)}
theorem Az.callO {w0:World} {F0 F Fs:Mem} {L Lc Lz:List (Option Nat×Obj)} {f0:Operand} {aos:Array Operand} {ats:Array TypeId} {fid:FuncId} {first cap:Array Value} {args:List Value} {post:Mem->Value->Own->Prop}
  (hl:l.set i true=l') (hzd:l'.toArray.getD z true=zd) (h0:l.toArray.getD z true=zd)
  (ho:opq R i=some (dst,.call {callee:=.value f0,args:=aos,argTypes:=ats},ty,g)) (hg:gd R f g=true) (hf:fev f f0=.func (.func fid) first cap) (hok:Af P fid)
  (ha:first.toList++aos.toList.map (fev f)++cap.toList=args) (hs:HS w0 F0 w F L) (hc:Calls P fid args.toArray w (PA w F post))
  (k:∀ v F1 w1 L',HS w0 F0 w1 F1 (L'++L)->Yr F F1->post F1 v L'->DWP P n R PQ Post z (DZ Fs Lc Lz) fuel l' (A6 f dst v) w1):Az P n R PQ Post z (DZ Fs Lc Lz) fuel l i f w:=by
 intro hokR hns hS a haf
 obtain ⟨o,hR,hd,hop,hty,hgd⟩:=CS ho
 unfold Hv wpOpIn
 simp only [hR]
 rw [haf.wanted R o,hgd,hg]
 simp only [if_true]
 refine ⟨BH,?_⟩
 show o.uponIn (FW none) 0 P a _ _ ((execOp a.eval o).run P w)
 rw [CJ,haf.evalF,hop,hty,EF hf hok ha]
 simp only [Oper.uponIn]
 refine ⟨(fun h=>by cases h),(E0 hc).mono ?_⟩
 rintro e w' ⟨r,F',L',rfl,h1,h2⟩
 simp only
 rw [h0] at hS
 have hS':DZ Fs Lc Lz zd w':=hS.keep h1.keep
 rw [hl,hd,hzd]
 exact ⟨hS',k r F' w' L' (hs.callO h1) h1.le h2 hokR hns (by rw [hzd];exact hS') _ (haf.put (by rw [<-hd];exact EQ hokR hR) r)⟩
theorem Az.callS {Fs:Mem} {Lc Lz:Own} {f0:Operand} {aos:Array Operand} {ats:Array TypeId} {fid:FuncId} {first cap:Array Value} {args:List Value} {S:Ending->World->Prop}
  (hl:l.set i true=l') (hzd:l'.toArray.getD z true=zd)
  (ho:opq R i=some (dst,.call {callee:=.value f0,args:=aos,argTypes:=ats},ty,g)) (hg:gd R f g=true) (hf:fev f f0=.func (.func fid) first cap) (hok:Af P fid)
  (ha:first.toList++aos.toList.map (fev f)++cap.toList=args) (hc:Calls P fid args.toArray w S)
  (k:∀ e w',S e w'->∃ v,e=.returned v/\DZ Fs Lc Lz zd w'/\DWP P n R PQ Post z (DZ Fs Lc Lz) fuel l' (A6 f dst v) w'):Az P n R PQ Post z (DZ Fs Lc Lz) fuel l i f w:=by
 intro hokR hns hS a haf
 obtain ⟨o,hR,hd,hop,hty,hgd⟩:=CS ho
 unfold Hv wpOpIn
 simp only [hR]
 rw [haf.wanted R o,hgd,hg]
 simp only [if_true]
 refine ⟨BH,?_⟩
 show o.uponIn (FW none) 0 P a _ _ ((execOp a.eval o).run P w)
 rw [CJ,haf.evalF,hop,hty,EF hf hok ha]
 simp only [Oper.uponIn]
 refine ⟨(fun h=>by cases h),(E0 hc).mono ?_⟩
 intro e w' he
 obtain ⟨v,rfl,hS',hk⟩:=k e w' he
 simp only
 rw [hl,hd,hzd]
 exact ⟨hS',hk hokR hns (by rw [hzd];exact hS') _ (haf.put (by rw [<-hd];exact EQ hokR hR) v)⟩
theorem Az.callLentP {w0:World} {F0 F Fs:Mem} {L Lc Lz:List (Option Nat×Obj)} {f0:Operand} {aos:Array Operand} {ats:Array TypeId} {fid:FuncId} {first cap:Array Value} {args:List Value} {q:Nat} {e:Option Nat×Obj} {v0:Value}
  (hl:l.set i true=l') (hzd:l'.toArray.getD z true=zd) (h0:l.toArray.getD z true=zd)
  (ho:opq R i=some (dst,.call {callee:=.value f0,args:=aos,argTypes:=ats},ty,g)) (hg:gd R f g=true) (hf:fev f f0=.func (.func fid) first cap) (hok:Af P fid)
  (ha:first.toList++aos.toList.map (fev f)++cap.toList=args) (hs:HS w0 F0 w F L) (hk:L[q]? =some e) (hc:Calls P fid args.toArray w (AC w (Jc F e) fun _ v=>v=v0))
  (k:∀ F1 w1,HS w0 F0 w1 F1 L->Yr F F1->DWP P n R PQ Post z (DZ Fs Lc Lz) fuel l' (A6 f dst v0) w1):Az P n R PQ Post z (DZ Fs Lc Lz) fuel l i f w:=by
 intro hokR hns hS a haf
 obtain ⟨o,hR,hd,hop,hty,hgd⟩:=CS ho
 unfold Hv wpOpIn
 simp only [hR]
 rw [haf.wanted R o,hgd,hg]
 simp only [if_true]
 refine ⟨BH,?_⟩
 show o.uponIn (FW none) 0 P a _ _ ((execOp a.eval o).run P w)
 rw [CJ,haf.evalF,hop,hty,EF hf hok ha]
 simp only [Oper.uponIn]
 refine ⟨(fun h=>by cases h),(E0 hc).mono ?_⟩
 rintro e' w' ⟨_,F',rfl,h1,rfl⟩
 simp only
 rw [h0] at hS
 have hS':DZ Fs Lc Lz zd w':=hS.keep h1.keep
 obtain ⟨h6,h7⟩:=hs.lentCall hk h1
 rw [hl,hd,hzd]
 exact ⟨hS',k _ w' h6 h7 hokR hns (by rw [hzd];exact hS') _ (haf.put (by rw [<-hd];exact EQ hokR hR) _)⟩
end
section
variable {P : Program} {n : Nat} {R : Array Oper} {Q : Exit -> Fr -> World -> Prop} {w w0 : World} {F0 F : Mem} {L : Own} {f : Fr} {i : Nat} {rest : List Nat} {dst : Option Nat} {ty : TypeId} {g : Option (Nat × Bool)} {ro : Option Nat}
theorem RWP.callLentP {f0:Operand} {aos:Array Operand} {ats:Array TypeId} {fid:FuncId} {first cap:Array Value} {args:List Value} {q:Nat} {e:Option Nat×Obj} {v0:Value}
  (ho:opq R i=some (dst,.call {callee:=.value f0,args:=aos,argTypes:=ats},ty,g)) (hg:gd R f g=true) (hf:fev f f0=.func (.func fid) first cap) (hok:Af P fid)
  (ha:first.toList++aos.toList.map (fev f)++cap.toList=args) (hs:HS w0 F0 w F L) (hk:L[q]? =some e)
  (hc:Calls P fid args.toArray w (AC w (Jc F e) fun _ v=>v=v0))
  (k:∀ F1 w1,HS w0 F0 w1 F1 L->Yr F F1->RWP P ro n R Q rest (A6 f dst v0) w1):RWP P ro n R Q (i::rest) f w:=by
 refine Yp ho hg (EF hf hok ha) hc ?_
 rintro e w' ⟨_,F',rfl,h1,rfl⟩
 obtain ⟨h6,h7⟩:=hs.lentCall hk h1
 exact k _ w' h6 h7
end
section
variable {P : Program} {w : World} {ρ : Operand -> Value} {ty : TypeId}
theorem QJ {mt k vt:TypeId} {d:TypeDesc} {m x:Operand} {b clk:Nat} {es:Array MapEntry} {kv v:Value} {j:Nat} (hm:ρ m=.map (some b)) (hx:ρ x=kv) (hu:P.underlying mt=some (.map k vt)) (hk:P.underlying k=some d) (hkey:MapKept.IsKey d kv)
  (hb:w.heap[b]? =some (.map es clk)) (hf:Instr.findNow d kv es.toList 0=some (some (j,v))):(An ρ (.lookup mt m x true) ty).run P w=.ok (.value (.tuple #[v,.bool true])) w:=by
 have e:An ρ (.lookup mt m x true) ty=(do pure (Next.value (<-Instr.lookup mt (ρ m) (ρ x) true))):=rfl
 rw [e,hm,hx]
 simp [Instr.lookup,run_underlying hu,MapKept.run_getObj_map hb,MapKept.run_checkKey hk hkey,MapKept.run_findKey hk hf,Result.andThen]
theorem Xw {x c:Int} {v:Value} {clk i:Nat} {es:List MapEntry} (h:(x==c)=true):Instr.findNow (.int .i64) (.int .i64 x) (⟨.int .i64 c,v,clk⟩::es) i=some (some (i,v)):=by
 simp [Instr.findNow,Instr.sameNow,h]
end
section
variable {P : Program} {w0 w : World} {F0 F : Mem} {L : List (Option Nat × Obj)} {α : Type} {T : Ty α} {E : TypeId} {l m : List α} {b cap : Nat} {C : Array Value}
theorem Ti {t t2 ty:TypeId} {by_ c2:Nat} {a2:YM} (he:BP P t=some (E,T.sz,by_)) (hni:OY P t2=true)
  (h1:T.One) (hs:HS w0 F0 w F L) {k:Nat} (hk:L[k]? =some (some b,.cells C E (0,0))) (hr:Ap T E F (some ⟨b,0,none⟩) cap l (some b,.cells C E (0,0))) (hm:Rd T F w a2 m) (hfit:l.length + m.length<=cap) (hlen:l.length + m.length < 4398046511104):
  ∃ C',C'.size=C.size/\(Builtin.append_ #[t,t2] ty #[.slice (some ⟨b,0,none⟩) l.length cap,.slice a2 m.length c2]).run P w=.ok (.slice (some ⟨b,0,none⟩) (l++m).length cap) (CA w b (.cells C' E (0,0)))/\Ap T E F (some ⟨b,0,none⟩) cap (l++m) (some b,.cells C' E (0,0)):=by
 obtain ⟨i,hu,hi,his,hib⟩:=HH he
 obtain ⟨new,hnew,hload⟩:=hm.load (P:=P) c2
 have hnl:=hnew.len
 obtain ⟨E2,hd⟩:∃ E2,P.underlying t2=some (.slice E2):=by
  unfold OY at hni
  split at hni
  ·rename_i E2 h;exact ⟨E2,h⟩
  ·cases hni
 unfold Builtin.append_
 simp only [List.getElem?_toArray,List.getElem?_cons_zero,List.getElem?_cons_succ,Sem.run_bind,run_underlying hu,Result.andThen_ok,EE hi,his]
 simp only [run_underlying hd,Result.andThen_ok,Sem.run_pure,Bool.false_eq_true,if_false,Builtin.lenOf]
 simp only [pure_bind]
 rw [if_pos hfit]
 simp only [Bool.not_false,if_true,Sem.run_bind,hload,Result.andThen_ok]
 rcases hr.2 with ⟨h,_⟩ | ⟨b',C0,hb',hc',hlc,hC,hx⟩
 ·cases h
 ·cases hb'
  cases hc'
  have hC1:l.length * T.sz + new.length<=C.size:=by rw [hC,hnl,<-Nat.add_mul];exact Nat.mul_le_mul_right _ hfit
  have hst:=D3 (P:=P) E new w b (l.length * T.sz) 0 C (hs.ownAt hk) (by simpa using hC1) (hnew.one h1)
  refine ⟨DJ C (l.length * T.sz) new,G2 _ _ _,?_,?_⟩
  ·simp only [Addr.add_lit,Nat.zero_add]
   simp only [Nat.add_zero] at hst
   rw [hst]
   simp
  ·have hrow:ED T F l (Au C 0 (l.length * T.sz)):=by
    by_cases hl:l=[]
    ·subst hl;simp [ED,Au]
    ·exact I5 hl (fun i x hi=>by rw [Nat.zero_add];exact hx i x hi)
   have hlr:=hrow.len
   refine ⟨by simpa using hlen,.inr ⟨b,_,rfl,rfl,by simpa using hfit,by rw [G2,hC],fun i x hix=>?_⟩⟩
   have:=(ED.append hrow hnew).get i x hix
   have hii:i < (l++m).length:=by
    rcases Nat.lt_or_ge i (l++m).length with h' | h'
    ·exact h'
    ·rw [List.getElem?_eq_none h'] at hix;cases hix
   have hle:i * T.sz + T.sz<=(Au C 0 (l.length * T.sz)++new).length:=by
    rw [List.length_append,hlr,hnl,<-Nat.add_mul,<-Nat.succ_mul]
    exact Nat.mul_le_mul_right _ (Nat.succ_le_of_lt (by simpa using hii))
   have e1:Au C 0 (l.length * T.sz)=C.toList.take (l.length * T.sz):=by simp [Au]
   unfold Au
   rw [Kx hC1]
   rw [e1] at this hle
   rw [List.drop_append_of_le_length (by omega),List.take_append_of_le_length (by simp only [List.length_drop];omega)]
   exact this
theorem OK {t t2:TypeId} {by_ c2:Nat} {a2:YM} (he:BP P t=some (E,T.sz,by_)) (hni:OY P t2=true)
  (h1:T.One) (hs:HS w0 F0 w F L) {k:Nat} (hk:L[k]? =some (some b,.cells C E (0,0))) (hr:Ap T E F (some ⟨b,0,none⟩) cap l (some b,.cells C E (0,0))) (hm:Rd T F w a2 m) (hfit:l.length + m.length<=cap) (hlen:l.length + m.length < 4398046511104):
  ∃ C',C'.size=C.size/\Ap T E F (some ⟨b,0,none⟩) cap (l++m) (some b,.cells C' E (0,0))/\ ∀ {ρ:Operand->Value} {x y:Operand} {ty:TypeId},ρ x=.slice (some ⟨b,0,none⟩) l.length cap->ρ y=.slice a2 m.length c2->
   (An ρ (.call {callee:=.builtin .append,args:=#[x,y],argTypes:=#[t,t2]}) ty).run P w=.ok (.value (.slice (some ⟨b,0,none⟩) (l++m).length cap)) (CA w b (.cells C' E (0,0))):=by
 have key:=fun ty=>Ti (ty:=ty) (c2:=c2) he hni h1 hs hk hr hm hfit hlen
 obtain ⟨C',h2,h3,h4⟩:=key 0
 refine ⟨C',h2,h4,fun {ρ x y ty} hx hy=>?_⟩
 have h5:(Builtin.append_ #[t,t2] ty #[.slice (some ⟨b,0,none⟩) l.length cap,.slice a2 m.length c2]).run P w=.ok (.slice (some ⟨b,0,none⟩) (l++m).length cap) (CA w b (.cells C' E (0,0))):=h3
 have e1:An ρ (.call {callee:=.builtin .append,args:=#[x,y],argTypes:=#[t,t2]}) ty=(do pure (Next.value (<-Builtin.append_ #[t,t2] ty (Array.map ρ #[x,y])))):=rfl
 rw [e1,map_toArray]
 simp only [List.map_cons,List.map_nil,hx,hy]
 rw [Sem.run_bind,h5]
 rfl
theorem Rc {o i:Nat} {vs:List Value} (ho:o + vs.length<=C.size) (hi:i * T.sz + T.sz<=o):Au (DJ C o vs) (i * T.sz) T.sz=Au C (i * T.sz) T.sz:=by
 unfold Au
 rw [Kx ho,List.append_assoc,List.drop_append_of_le_length (by simp;omega),List.take_append_of_le_length (by simp;omega),List.drop_take,List.take_take,Nat.min_eq_left (by omega)]
theorem QL {t:TypeId} {by_ j k c:Nat} {z:Value} (he:BP P t=some (E,T.sz,by_)) (hz:B9 P E=some z) (hzs:z.cells.size=T.sz) (h0:z.cells.toList.all (·.oneCell')=true)
  (hb:w.heap[b]? =some (.cells C E (0,0))) (hk:0 < k) (hfit:j * T.sz + k * T.sz<=C.size):
  ∃ vs,vs.length=k * T.sz/\ ∀ {ρ:Operand->Value} {x:Operand} {ty:TypeId},ρ x=.slice (some ⟨b,j * T.sz,none⟩) k c->(An ρ (.call {callee:=.builtin .clear,args:=#[x],argTypes:=#[t]}) ty).run P w=.ok (.value (.tuple #[])) (CA w b (.cells (DJ C (j * T.sz) vs) E (0,0))):=by
 obtain ⟨i,hu,hi,his,hib⟩:=HH he
 have hzv:(zeroValue E).run P w=.ok z w:=by
  unfold B9 at hz;rw [hi] at hz
  simp [zeroValue,typeInfo,hi,hz]
 have hsz:(Builtin.zeroCells z.cells k).toList.length=k * T.sz:=by simp [Builtin.zeroCells,hzs]
 have hone:(Builtin.zeroCells z.cells k).toList.all (·.oneCell')=true:=by
  rw [List.all_eq_true] at h0 ⊢
  intro v hv
  simp only [Builtin.zeroCells,Array.toList_map,List.mem_map] at hv
  obtain ⟨q,hq,rfl⟩:=hv
  have hq':q < k * z.cells.size:=by simpa using hq
  have hpos:0 < z.cells.size:=by
   rcases Nat.eq_zero_or_pos z.cells.size with h | h
   ·rw [h] at hq';simp at hq'
   ·exact h
  have hlt:=Nat.mod_lt q hpos
  rw [getElem!_pos z.cells _ hlt]
  exact h0 _ (by simp)
 have hst:=D3 (P:=P) E (Builtin.zeroCells z.cells k).toList w b (j * T.sz) 0 C hb (by rw [hsz];simpa using hfit) hone
 refine ⟨(Builtin.zeroCells z.cells k).toList,hsz,fun {ρ x ty} hx=>?_⟩
 have e:An ρ (.call {callee:=.builtin .clear,args:=#[x],argTypes:=#[t]}) ty=(do pure (Next.value (<-Builtin.clear_ #[t] ty (Array.map ρ #[x])))):=rfl
 rw [e,map_toArray]
 simp only [List.map_cons,List.map_nil,hx]
 obtain ⟨k',rfl⟩:∃ k',k=k' + 1:=⟨k - 1,by omega⟩
 simp only [Nat.add_zero] at hst
 simp [Builtin.clear_,run_underlying hu,hzv,hst,Result.andThen]
end
abbrev Tb (x:(YL×Bool)):List Value:=[(.string ⟨(x.1).toArray⟩),(.bool x.2)]
abbrev U0 (_:Mem) (_:(YL×Bool)):Prop:=True
abbrev US (x:(YL×Bool)):(YL×Bool):=x
theorem kl9:KL Tryz.prog 9 AF:=KL.ofString (by kernel_rfl)
def WP (x:As):Value:=.agg #[(.int .i64 x.at_),(.int .i64 x.stage_),(.int .i64 x.num_),(.int .i64 x.minute_)]
def Vx (x y:As):Bool:=((x.at_==y.at_)&&((x.stage_==y.stage_)&&((x.num_==y.num_)&&((x.minute_==y.minute_)&&true))))
theorem XC (x y:As):Vx x y=decide (x=y):=by
 rw [Bool.eq_iff_iff];unfold Vx
 simp only [Bool.and_eq_true,beq_iff_eq,decide_eq_true_eq,and_true]
 constructor
 ·intro h
  obtain ⟨_,_,_,_⟩:=x;obtain ⟨_,_,_,_⟩:=y
  simp_all [As.mk.injEq]
 ·rintro rfl
  simp
set_option maxRecDepth 100000 in
theorem WS:KL Tryz.prog 143 AE:=KL.ofStruct (d:=8) (by decide) WP (fun h=>by obtain ⟨_,rfl,rfl⟩:=h;rfl) (by kernel_rfl) (fun x=>by kernel_rfl) Vx (fun x y=>by kernel_rfl) XC (fun x=>by simp [WP,Instr.sameBits,beq_toListBytes])
def AQ (N:Nat) (x0:(List AR)) (x1:(AR->Option Bool)):Int->Option (A9 Int Int):=fun h0=>
 (bif (decide (h0 < (x0.length:Int))) then ((idx x0 h0).bind fun h1=>((x1 h1).bind fun h2=>(bif h2 then some (.ret h0) else some (.next (W64 (h0 + 1)))))) else some (.done h0))
def BR (N:Nat) (x0:(List AR)) (x1:(AR->Option Bool)):Option Int:=
 ((AH (AQ N x0 x1) N 0).bind fun o=>o.k (fun r=>some r) (fun h0=>some (-1)))
theorem Et:Af Tryz.prog 183:=fun _ _=>by kernel_rfl
theorem Ez (N:Nat) (w0:World) (F0:Mem) (hF:YN w0 F0) (x0:(List AR)) (h4:YM) (h5:Nat) (b6:LC x0.length h5) (hd:SlA Km F0 h4 x0) (h1:FuncId) (h6 h7:List Value) (x1:AR->Option Bool) (he:Af Tryz.prog h1) (hf:So F0 h1 h6 h7 x1) (r:Int) (h:BR N x0 x1=some r):
  Calls Tryz.prog 183 ([(sL h4 x0 h5),(.func (.func h1) h6.toArray h7.toArray)]:List Value).toArray w0 (AC w0 F0 fun F' v=>v=(vi r)):=by
 have hg:=Yt hF
 refine Go 19 Tryz.func183<|Sq (Rg [0] ?_)
 refine Vs 1<|Nss<|Sq (Rg [0,1,2] ?_)
 refine Vs 3<|Nt ?_
 obtain ⟨h9,hh,ha⟩:=bS h
 refine Yy (fun f w=>∃ (hb:Int) (F2:Mem),h9=.done hb/\HS w0 F0 w F2 []/\Yr F0 F2/\FI f [] []) ?_ ?_
 ·refine Bk ?_
  refine Yq (by kernel_rfl) (fun m f w=>∃ (h0:Int) (F1:Mem),AH (AQ N x0 x1) m h0=some h9/\HS w0 F0 w F1 []/\Yr F0 F1/\FI f [] [(0,(sL h4 x0 h5)),(1,(.func (.func h1) h6.toArray h7.toArray)),(7,(vi (x0.length:Int))),(8,(vi h0))]) N ⟨0,F0,hh,hg,(Ys _),fI⟩ ?_
  rintro b7 f hk ⟨h0,F1,hl,h2,h3,⟨_,rfl⟩⟩
  obtain ⟨hm,b8,rfl,hn,h8⟩:=AD hl
  refine Sq (Rg [0] ?_)
  refine Vs 1<|Nss<|Cd hn (fun ho hp=>?_) (fun ho hq=>?_)
  ·refine Sc ?_
   refine Ab<|Sq<|Bk<|Sq (Rg [0,1] ?_)
   refine Vs 2<|Nss (Rg (rG 6) ?_)
   refine Vs 3 ?_
   obtain ⟨hr,hs,ht⟩:=bS hp
   obtain ⟨hu,hx48'⟩:=Ah hs
   obtain ⟨b9,ba,bb,bc,bd,rfl,hF57,hE58⟩:=Yz (Yu hd h3) hx48'
   have hv:=hE58 _ _ hx48'
   refine Ix hu<|Lx 0 (h2.pers _ _ hF57) hv ?_
   obtain ⟨be,hw,hx⟩:=bS ht
   refine Cq he h2 (hf hk F1 hr _ h3 h2.pers hw) ?_
   rintro _ F3 bf hc hy rfl
   refine Nt<|Cd hx (fun hz b0=>?_) (fun hz b1=>?_)
   ·refine Sq (Rg [0,1] ?_)
    refine Vs 2<|Nt<|Rt<|Aq<|Ad<|Ad<|Aq ?_
    have hret:=Bq b0 h8
    subst hret
    refine .inr<|Ad ?_
    obtain rfl:=Aa ha
    exact Re [(vi h0)] hc rfl
   ·refine Sc ?_
    refine Ao<|Ab<|Rg [0,1]<|Vs 2<|Yn ?_
    have b2:=AA b1 h8
    exact ⟨hm,Nat.lt_succ_self _,(W64 (h0 + 1)),F3,b2,hc,(h3.t hy),fI⟩
  ·refine Ex ?_
   refine Al<|Al<|Av rfl ?_
   have b3:=AB hq h8
   exact .inl ⟨rfl,h0,F1,b3,h2,h3,fI⟩
 ·rintro f bg ⟨hb,F2,rfl,b4,bh,⟨_,rfl⟩⟩
  have b5:=A4 ha
  refine Ab<|Sq (Rg [0] ?_)
  refine Vs 1<|Nt<|Rt ?_
  obtain rfl:=Aa b5
  exact Re [(vi (-1))] b4 rfl
def A5 (N:Nat) (x0:(List AR)) (x1:(AR->Option Bool)):Option Bool:=
 ((BR N x0 x1).bind fun h0=>some (decide (h0>=0)))
theorem DO:Af Tryz.prog 137:=fun _ _=>by kernel_rfl
theorem D0 (N:Nat) (w0:World) (F0:Mem) (hF:YN w0 F0) (x0:(List AR)) (h1:YM) (h2:Nat) (h6:LC x0.length h2) (h7:SlA Km F0 h1 x0) (h0:FuncId) (h3 h4:List Value) (x1:AR->Option Bool) (h8:Af Tryz.prog h0) (h9:So F0 h0 h3 h4 x1) (r:Bool) (h:A5 N x0 x1=some r):
  Calls Tryz.prog 137 ([(sL h1 x0 h2),(.func (.func h0) h3.toArray h4.toArray)]:List Value).toArray w0 (AC w0 F0 fun F' v=>v=(.bool r)):=by
 have h5:=Yt hF
 refine Go 9 Tryz.func137<|Sq (Rg [0] ?_)
 refine Vs 1<|Nss (Rg (rG 5) ?_)
 refine Vs 2 ?_
 obtain ⟨ha,hb,hc⟩:=bS h
 refine Cl' Et h5 (Ez N w0 F0 h5.pers x0 h1 h2 h6 h7 h0 h3 h4 x1 h8 (fun w1 F1 y0 r hd he hf=>h9 w1 F1 y0 r hd he hf) _ hb) ?_
 rintro _ F1 hh hg hk rfl
 refine Vs 2<|Nt<|Rt ?_
 obtain rfl:=Aa hc
 exact Re [(.bool (decide (ha>=0)))] hg rfl
def Df (N:Nat) (x0:Ac) (x1:Ae):Option (List AR):=
 some [({has_:=x0.Report,n_:=x1.Report,most_:=599,digits_:=1}:AR),({has_:=x0.Serial,n_:=x1.Serial,most_:=99999,digits_:=3}:AR),({has_:=x0.Zone,n_:=x1.Zone,most_:=99,digits_:=2}:AR)]
theorem Fy:Af Tryz.prog 138:=fun _ _=>by kernel_rfl
theorem GA (N:Nat) (w0:World) (F0:Mem) (hF:YN w0 F0) (x0:Ac) (x1:Ae) (r:(List AR)) (h:Df N x0 x1=some r):
  Calls Tryz.prog 138 ([(.agg (Ag x0)),(.agg (A3 x1))]:List Value).toArray w0 (AC w0 F0 fun F' v=>∃ (h2:YM) (h3:Nat),v=(sL h2 r h3)/\LC r.length h3/\SlA Km F' h2 r):=by
 have h5:=Yt hF
 refine Go 21 Tryz.func138<|Sq (Rg [0,1,2] ?_)
 refine Bx' 23 (Ag x0) h5 (fun hb hc h6=>?_)
 refine Bx' 32 (A3 x1) h6 (fun hd he h0=>?_)
 refine Vs 1<|Nss (Rg (rG 17) ?_)
 refine Vs 1<|Ld h0.at1<|Vs 1<|Ld h0.at0<|Vs 2<|Ld h0.at1<|Vs 1<|Ld h0.at0<|Vs 2<|Ld h0.at1<|Vs 1<|Ld h0.at0<|Vs 1<|Bs 180 [(.bool x0.Report),(vi x1.Report),(vi 599),(vi 1),(.bool x0.Serial),(vi x1.Serial),(vi 99999),(vi 3),(.bool x0.Zone),(vi x1.Zone),(vi 99),(vi 2)] h0 (fun h1 hf h7=>?_)
 have h4:Ap Km 180 F0 (some ⟨h1,0,none⟩) 3 [({has_:=x0.Report,n_:=x1.Report,most_:=599,digits_:=1}:AR),({has_:=x0.Serial,n_:=x1.Serial,most_:=99999,digits_:=3}:AR),({has_:=x0.Zone,n_:=x1.Zone,most_:=99,digits_:=2}:AR)] (some h1,.cells ([(.bool x0.Report),(vi x1.Report),(vi 599),(vi 1),(.bool x0.Serial),(vi x1.Serial),(vi 99999),(vi 3),(.bool x0.Zone),(vi x1.Zone),(vi 99),(vi 2)]:List Value).toArray 180 (0,0)):=YH ⟨rfl,⟨rfl,⟨rfl,rfl⟩⟩⟩ (by simp)
 refine Vs 1<|Nt<|Rt ?_
 have h8:=YF h4
 obtain ⟨F1,h9,hg,ha⟩:=h7.fr0 h4
 obtain rfl:=Aa h
 exact Re [(.slice (some ⟨h1,0,none⟩) [({has_:=x0.Report,n_:=x1.Report,most_:=599,digits_:=1}:AR),({has_:=x0.Serial,n_:=x1.Serial,most_:=99999,digits_:=3}:AR),({has_:=x0.Zone,n_:=x1.Zone,most_:=99,digits_:=2}:AR)].length 3)] h9 ⟨(some ⟨h1,0,none⟩),3,rfl,h8,ha⟩
def Ho (N:Nat) (x0 x1 x2:Int):Option Bool:=
 some ((decide (x0>=x1))&&(decide (x0<=x2)))
theorem H1:Af Tryz.prog 140:=fun _ _=>by kernel_rfl
theorem I8 (N:Nat) (w0:World) (F0:Mem) (hF:YN w0 F0) (x0 x1 x2:Int) (r:Bool) (h:Ho N x0 x1 x2=some r):
  Calls Tryz.prog 140 ([(vi x0),(vi x1),(vi x2)]:List Value).toArray w0 (AC w0 F0 fun F' v=>v=(.bool r)):=by
 have h1:=Yt hF
 refine Go 15 Tryz.func140<|Sq (Rg [0] ?_)
 refine Vs 1<|Nss (Rg (rG 9) ?_)
 refine Yx (fun f w=>∃ (F1:Mem),HS w0 F0 w F1 []/\Yr F0 F1/\FI f [] [(6,(.bool ((decide (x0>=x1))&&(decide (x0<=x2)))))]) ?_ ?_
 ·refine Vs 4 ?_
  refine Yw (decide (x0>=x1)) (fun h0=>?_) (fun h0=>?_)
  ·refine Vgs h0 3 ?_
   refine Pk1 h0<|Vs 1 ?_
   exact Yn ⟨rfl,F0,h1,(Ys _),(fJ ⟨(congrArg Value.bool (IG h0 rfl)),trivial⟩)⟩
  ·refine Ss h0 3 ?_
   refine Pk0 h0<|Vs 1 ?_
   exact Yn ⟨rfl,F0,h1,(Ys _),(fJ ⟨(congrArg Value.bool (IH h0 rfl)),trivial⟩)⟩
 ·rintro f h3 ⟨F1,h2,h4,⟨_,rfl⟩⟩
  refine Ab<|Rt ?_
  obtain rfl:=Aa h
  exact Re [(.bool ((decide (x0>=x1))&&(decide (x0<=x2))))] h2 rfl
def Cn (N:Nat) (x0:AR):Option Bool:=
 (((Ho N x0.n_ 1 x0.most_).bind fun h0=>(bif (!(x0.has_==h0)) then some true else (bif (!x0.has_) then some (x0.n_ !=0) else some false))).bind fun h1=>some h1)
theorem I4:Af Tryz.prog 139:=fun _ _=>by kernel_rfl
theorem JB (N:Nat) (w0:World) (F0:Mem) (hF:YN w0 F0) (x0:AR) (r:Bool) (h:Cn N x0=some r):
  Calls Tryz.prog 139 ([(.agg (Kt x0))]:List Value).toArray w0 (AC w0 F0 fun F' v=>v=(.bool r)):=by
 have h7:=Yt hF
 refine Go 21 Tryz.func139<|Sq (Rg [0,1] ?_)
 refine Bx' 180 (Kt x0) h7 (fun h1 hl h8=>?_)
 refine Vs 1<|Nss ?_
 obtain ⟨h5,h9,ha⟩:=bS h
 refine RD 19 19 [(sb h1 (Kt x0) 180)] [] h8 (fun f w=>∃ (F1:Mem),HS w0 F0 w F1 []/\Yr F0 F1/\FI f [] [(2,(.bool h5))]) (fun hb h6=>?_) ?_
 ·refine Dvl [0] (tf 1 18) ?_
  refine Dl 1 (fun _ hq=>(hq.1.2 0 _ _ rfl))<|Dvl [2] (tf 3 16)<|Dl 3 (fun _ hq=>(hq.1.2 0 _ _ rfl))<|Dvl [4] (tf 5 14)<|Dl 5 (fun _ hq=>(hq.1.2 0 _ _ rfl))<|D1 6 ?_
  obtain ⟨hm,hc,hd⟩:=bS h9
  refine DCl H1 h6 (I8 N hb F0 h6.pers x0.n_ 1 x0.most_ _ hc) ?_
  rintro _ F2 hn h3 h4 rfl
  refine Dvl [7,8] (tf 9 10)<|Sd hd (fun h0 he=>?_) (fun h0 hf=>?_)
  ·refine Dkl [(9,12),(10,13),(11,14),(12,15)] 8 false 11 h0 (tf 13 6) ?_
   refine Dul [(13,16),(14,17),(15,18)] 12 true 15 (tf 16 3)<|Dkl [(16,19)] 8 false 11 h0 (tf 17 2)<|Dtl 17 20 4 _ (tf 18 1) (fun _ hq=>p1 11 (.const (.bool true)) (.tmp 19) (.bool true) h0)<|Dvl [18] (tf 19 0) ?_
   obtain rfl:=Aa he
   exact YE (by kernel_rfl) ⟨F2,h3.dr0,h4,fI⟩
  ·refine Dgl 9 12 0 (pt h1 0) (tf 10 9) 8 false 11 h0 (fun _ hq=>fa 180 1 0 0 1 h1 0 0) ?_
   refine Dgl 10 13 4 _ (tf 11 8) 8 false 11 h0 (fun _ hq=>ld 4 12 h1 0 false 1 (.bool x0.has_) (hq.1.2 0 _ _ rfl))<|Dgl 11 14 4 (.bool (!x0.has_)) (tf 12 7) 8 false 11 h0 (fun _ hq=>QG (t:=4) (x:=(.tmp 13)) (a:=x0.has_) rfl)<|Dgl 12 15 4 _ (tf 13 6) 8 false 11 h0 (fun _ hq=>mv 14 (.bool (!x0.has_)))<|Sd hf (fun h2 hg=>?_) (fun h2 hh=>?_)
   ·refine Dgl 13 16 0 (pt h1 1) (tf 14 5) 12 true 15 h2 (fun _ hq=>fa 180 1 1 1 1 h1 0 1) ?_
    refine Dgl 14 17 3 _ (tf 15 4) 12 true 15 h2 (fun _ hq=>ld 3 16 h1 1 false 1 (vi x0.n_) (hq.1.2 0 _ _ rfl))<|Dgl 15 18 4 (.bool (x0.n_ !=0)) (tf 16 3) 12 true 15 h2 (fun _ hq=>Oe (t:=3) (t':=3) (x:=(.tmp 17)) (y:=(.const (vi 0))) (k:=.i64) (a:=x0.n_) (b:=0) rfl rfl)<|Dgl 16 19 4 _ (tf 17 2) 8 false 11 h0 (fun _ hq=>p1 15 (.tmp 18) (.const (.bool false)) (.bool (x0.n_ !=0)) h2)<|Dtl 17 20 4 _ (tf 18 1) (fun _ hq=>p0 11 (.const (.bool true)) (.tmp 19) (.bool (x0.n_ !=0)) h0)<|Dvl [18] (tf 19 0) ?_
    obtain rfl:=Aa hg
    exact YE (by kernel_rfl) ⟨F2,h3.dr0,h4,fI⟩
   ·refine Dkl [(13,16),(14,17),(15,18)] 12 true 15 h2 (tf 16 3) ?_
    refine Dgl 16 19 4 _ (tf 17 2) 8 false 11 h0 (fun _ hq=>p0 15 (.tmp 18) (.const (.bool false)) (.bool false) h2)<|Dtl 17 20 4 _ (tf 18 1) (fun _ hq=>p0 11 (.const (.bool true)) (.tmp 19) (.bool false) h0)<|Dvl [18] (tf 19 0) ?_
    obtain rfl:=Aa hh
    exact YE (by kernel_rfl) ⟨F2,h3.dr0,h4,fI⟩
 ·rintro f ho ⟨F1,hk,hp,⟨_,rfl⟩⟩
  refine Ab<|Rt ?_
  obtain rfl:=Aa ha
  exact Re [(.bool h5)] hk rfl
def Cj (N:Nat) (x0:Ac) (x1:Ae):Option Bool:=
 ((Df N ({Report:=x0.Report,Serial:=x0.Serial,Zone:=x0.Zone}:Ac) ({Report:=x1.Report,Serial:=x1.Serial,Zone:=x1.Zone}:Ae)).bind fun h0=>((A5 N h0 (fun y0=>Cn N y0)).bind fun h1=>some (!h1)))
theorem Ed:Af Tryz.prog 75:=fun _ _=>by kernel_rfl
theorem EB (N:Nat) (w0:World) (F0:Mem) (hF:YN w0 F0) (x0:Ac) (x1:Ae) (r:Bool) (h:Cj N x0 x1=some r):
  Calls Tryz.prog 75 ([(.agg (Ag x0)),(.agg (A3 x1))]:List Value).toArray w0 (AC w0 F0 fun F' v=>v=(.bool r)):=by
 have h2:=Yt hF
 refine Go 10 Tryz.func75<|Sq (Rg [0,1,2] ?_)
 refine Bx' 23 (Ag x0) h2 (fun hl hm h3=>?_)
 refine Bx' 32 (A3 x1) h3 (fun hn h4 h0=>?_)
 refine Vs 1<|Nss (Rg (rG 6) ?_)
 refine Ld h0.at1<|Ld h0.at0 ?_
 obtain ⟨h5,h6,h7⟩:=bS h
 refine Cl' Fy h0 (GA N h4 F0 h0.pers (({Report:=x0.Report,Serial:=x0.Serial,Zone:=x0.Zone}:Ac)) (({Report:=x1.Report,Serial:=x1.Serial,Zone:=x1.Zone}:Ae)) _ h6) ?_
 rintro _ F1 h8 h1 ho ⟨h9,ha,rfl,hb,hc⟩
 obtain ⟨hd,he,hf⟩:=bS h7
 refine Cl' DO h1 (D0 N h8 F1 h1.pers h5 h9 ha hb hc 139 [] [] (fun y0=>Cn N y0) I4 (fun w1 F1 y0 r hp hg hh=>JB N w1 F1 hg y0 r hh) _ he) ?_
 rintro _ F2 hq hk hr rfl
 refine Vs 2<|Nt<|Rt ?_
 obtain rfl:=Aa hf
 exact Re [(.bool (!hd))] hk rfl
def CR (N:Nat) (x0 x1 x2:Int):Option Bool:=
 some ((decide (x1<=x0))&&(decide (x0<=x2)))
theorem CL:Af Tryz.prog 150:=fun _ _=>by kernel_rfl
theorem Dd (N:Nat) (w0:World) (F0:Mem) (hF:YN w0 F0) (x0 x1 x2:Int) (r:Bool) (h:CR N x0 x1 x2=some r):
  Calls Tryz.prog 150 ([(vi x0),(vi x1),(vi x2)]:List Value).toArray w0 (AC w0 F0 fun F' v=>v=(.bool r)):=by
 have h1:=Yt hF
 refine Go 15 Tryz.func150<|Sq (Rg [0] ?_)
 refine Vs 1<|Nss (Rg (rG 9) ?_)
 refine Yx (fun f w=>∃ (F1:Mem),HS w0 F0 w F1 []/\Yr F0 F1/\FI f [] [(6,(.bool ((decide (x1<=x0))&&(decide (x0<=x2)))))]) ?_ ?_
 ·refine Vs 4 ?_
  refine Yw (decide (x1<=x0)) (fun h0=>?_) (fun h0=>?_)
  ·refine Vgs h0 3 ?_
   refine Pk1 h0<|Vs 1 ?_
   exact Yn ⟨rfl,F0,h1,(Ys _),(fJ ⟨(congrArg Value.bool (IG h0 rfl)),trivial⟩)⟩
  ·refine Ss h0 3 ?_
   refine Pk0 h0<|Vs 1 ?_
   exact Yn ⟨rfl,F0,h1,(Ys _),(fJ ⟨(congrArg Value.bool (IH h0 rfl)),trivial⟩)⟩
 ·rintro f h3 ⟨F1,h2,h4,⟨_,rfl⟩⟩
  refine Ab<|Rt ?_
  obtain rfl:=Aa h
  exact Re [(.bool ((decide (x1<=x0))&&(decide (x0<=x2))))] h2 rfl
def GY (N:Nat) (x0:Bool) (x1 x2:Int):Option Bool:=
 (bif x0 then ((CR N x1 1 x2).bind fun h0=>some h0) else some (x1==0))
theorem I0:Af Tryz.prog 142:=fun _ _=>by kernel_rfl
theorem Ke (N:Nat) (w0:World) (F0:Mem) (hF:YN w0 F0) (x0:Bool) (x1 x2:Int) (r:Bool) (h:GY N x0 x1 x2=some r):
  Calls Tryz.prog 142 ([(.bool x0),(vi x1),(vi x2)]:List Value).toArray w0 (AC w0 F0 fun F' v=>v=(.bool r)):=by
 have h0:=Yt hF
 refine Go 13 Tryz.func142<|Sq (Rg [0] ?_)
 refine Vs 1<|Nss<|Sq (Rg [0] ?_)
 refine Vs 1<|Nt<|Cd h (fun h1 h2=>?_) (fun h1 h3=>?_)
 ·refine Sq (Rg (rG 4) ?_)
  refine Vs 2 ?_
  obtain ⟨h4,h5,h6⟩:=bS h2
  refine Cl' CL h0 (Dd N w0 F0 h0.pers x1 1 x2 _ h5) ?_
  rintro _ F1 h8 h7 h9 rfl
  refine Vs 1<|Nt<|Rt<|Ad ?_
  obtain rfl:=Aa h6
  exact Re [(.bool h4)] h7 rfl
 ·refine Sc ?_
  refine Ab<|Sq (Rg [0,1,2] ?_)
  refine Vs 3<|Nt<|Rt ?_
  obtain rfl:=Aa h3
  exact Re [(.bool (x1==0))] h0 rfl
def B3 (N:Nat) (x0:Ac) (x1:Ae):Option Bool:=
 (((GY N x0.Report x1.Report 599).bind fun h0=>(bif h0 then ((GY N x0.Serial x1.Serial 99999).bind fun h1=>(bif h1 then ((GY N x0.Zone x1.Zone 99).bind fun h2=>some h2) else some false)) else some false)).bind fun h3=>some h3)
theorem Dr:Af Tryz.prog 78:=fun _ _=>by kernel_rfl
theorem DQ (N:Nat) (w0:World) (F0:Mem) (hF:YN w0 F0) (x0:Ac) (x1:Ae) (r:Bool) (h:B3 N x0 x1=some r):
  Calls Tryz.prog 78 ([(.agg (Ag x0)),(.agg (A3 x1))]:List Value).toArray w0 (AC w0 F0 fun F' v=>v=(.bool r)):=by
 have h8:=Yt hF
 refine Go 24 Tryz.func78<|Sq (Rg [0,1,2] ?_)
 refine Bx' 23 (Ag x0) h8 (fun hu hv h9=>?_)
 refine Bx' 32 (A3 x1) h9 (fun hw ha h4=>?_)
 refine Vs 1<|Nss (Rg (rG 20) ?_)
 obtain ⟨h6,hb,hc⟩:=bS h
 refine Yx (fun f w=>∃ (F1:Mem),HS w0 F0 w F1 []/\Yr F0 F1/\FI f [] [(4,(.bool h6))]) ?_ ?_
 ·refine Vs 1 ?_
  refine Ld h4.at1<|Vs 1<|Ld h4.at0 ?_
  obtain ⟨hx,hd,he⟩:=bS hb
  refine Cl' I0 h4 (Ke N ha F0 h4.pers x0.Report x1.Report 599 _ hd) ?_
  rintro _ F2 hf h2 h5 rfl
  refine Vs 1<|Sp he (fun h0 hg=>?_) (fun h0 hh=>?_)
  ·refine Vgs h0 1 ?_
   refine Lg h0 h2.at1<|Vgs h0 1<|Lg h0 h2.at0 ?_
   obtain ⟨hy,hk,hl⟩:=bS hg
   refine Cg h0 I0 h2 (Ke N hf F2 h2.pers x0.Serial x1.Serial 99999 _ hk) ?_
   rintro _ F3 hm h3 h7 rfl
   refine Pk1 h0<|Vs 1<|Sp hl (fun h1 hn=>?_) (fun h1 ho=>?_)
   ·refine Vgs h1 1 ?_
    refine Lg h1 h3.at1<|Vgs h1 1<|Lg h1 h3.at0 ?_
    obtain ⟨hz,hp,hq⟩:=bS hn
    refine Cg h1 I0 h3 (Ke N hm F3 h3.pers x0.Zone x1.Zone 99 _ hp) ?_
    rintro _ F4 b0 hr hs rfl
    refine Pk1 h1<|Vs 1 ?_
    obtain rfl:=Aa hq
    exact Yn ⟨rfl,F4,hr.dr0.dr0,((h5.t h7).trans hs),fI⟩
   ·refine Ss h1 5 ?_
    refine Pk0 h1<|Vs 1 ?_
    obtain rfl:=Aa ho
    exact Yn ⟨rfl,F3,h3.dr0.dr0,(h5.t h7),fI⟩
  ·refine Ss h0 5 ?_
   refine Pk0 h0<|Vs 1<|Ss (rfl:false=false) 5<|Pk0 (rfl:false=false)<|Vs 1 ?_
   obtain rfl:=Aa hh
   exact Yn ⟨rfl,F2,h2.dr0.dr0,h5,fI⟩
 ·rintro f b1 ⟨F1,ht,b2,⟨_,rfl⟩⟩
  refine Ab<|Rt ?_
  obtain rfl:=Aa hc
  exact Re [(.bool h6)] ht rfl
def GB (N:Nat) (x0:YL) (x1:Int) (x2:(Int->Option Bool)):Nat->Option (A9 Bool Nat):=fun h0=>
 (bif (decide (h0 < (x0).length)) then ((x2 ((Le x0 h0).1:Int)).bind fun h1=>(bif (!h1) then some (.ret false) else some (.next (h0 + (Le x0 h0).2)))) else some (.done h0))
def GD (N:Nat) (x0:YL) (x1:Int) (x2:(Int->Option Bool)):Option Bool:=
 ((AH (GB N x0 x1 x2) N 0).bind fun o=>o.k (fun r=>some r) (fun h1=>((Ho N (x0.length:Int) 1 x1).bind fun h0=>some h0)))
theorem Gy:Af Tryz.prog 198:=fun _ _=>by kernel_rfl
theorem Hm (N:Nat) (w0:World) (F0:Mem) (hF:YN w0 F0) (x0:YL) (x1:Int) (h2:FuncId) (h3 h4:List Value) (x2:Int->Option Bool) (hg:Af Tryz.prog h2) (hh:NP F0 h2 h3 h4 x2) (r:Bool) (h:GD N x0 x1 x2=some r):
  Calls Tryz.prog 198 ([(sv x0),(vi x1),(.func (.func h2) h3.toArray h4.toArray)]:List Value).toArray w0 (AC w0 F0 fun F' v=>v=(.bool r)):=by
 have hk:=Yt hF
 refine Go 22 Tryz.func198<|Sq (Rg [0] ?_)
 refine Vs 1<|Nss<|Sq (Rg [0,1] ?_)
 refine Vs 1<|RWP.srange (dst:=(some 10)) (ty:=0) (g:=none) (by kernel_rfl) rfl (t:=9) (x:=(.tmp 9)) (a:=x0) rfl (by kernel_rfl) hk (fun h1 hl (hm:HS w0 F0 hl F0 [(some h1,(.stringIter ⟨(x0).toArray⟩ 0))])=>?_)
 refine Nt ?_
 obtain ⟨h9,hn,ha⟩:=bS h
 refine Yy (fun f w=>∃ (hb:Nat) (F2:Mem),h9=.done hb/\HS w0 F0 w F2 []/\Yr F0 F2/\FI f [] [(0,(sv x0)),(1,(vi x1))]) ?_ ?_
 ·refine Bk ?_
  refine Yq (by kernel_rfl) (fun m f w=>∃ (h0:Nat) (F1:Mem),AH (GB N x0 x1 x2) m h0=some h9/\HS w0 F0 w F1 [(some h1,(.stringIter ⟨(x0).toArray⟩ h0))]/\Yr F0 F1/\FI f [] [(0,(sv x0)),(1,(vi x1)),(2,(.func (.func h2) h3.toArray h4.toArray)),(10,(pt h1 0))]) N ⟨0,F0,hn,hm,(Ys _),fI⟩ ?_
  rintro b7 f b8 ⟨h0,F1,ho,h5,h6,⟨_,rfl⟩⟩
  obtain ⟨hp,b9,rfl,hq,h7⟩:=AD ho
  refine Sq (Rg [0,1] ?_)
  refine Sp hq (fun h8 hr=>?_) (fun h8 hs=>?_)
  ·refine RWP.snext1 (dst:=(some 11)) (ty:=0) (g:=none) (by kernel_rfl) rfl (x:=(.tmp 10)) (b:=h1) (a:=x0) (pos:=h0) (k:=0) rfl h5 rfl h8 (fun hc (hd:HS w0 F0 hc F1 [(some h1,(.stringIter ⟨(x0).toArray⟩ (h0 + (Le x0 h0).2)))])=>?_)
   refine Vs 1<|Nss<|C1 (rfl:true=true)<|Sc<|Ab<|Bk<|Sq (Rg [0,1] ?_)
   refine Vs 2<|Nss (Rg (rG 4) ?_)
   refine Vs 2 ?_
   obtain ⟨ba,ht,hu⟩:=bS hr
   refine Cq hg hd (hh hc F1 (((Le x0 h0).1:Int)) _ h6 hd.pers ht) ?_
   rintro _ F3 bb he hv rfl
   refine Vs 1<|Nt<|Cd hu (fun hw hx=>?_) (fun hw hy=>?_)
   ·refine Sq (Rg [0] ?_)
    refine Vs 1<|Nt<|Rt<|Aq<|Ad<|Aq ?_
    have hret:=Bq hx h7
    subst hret
    refine .inr<|Ad ?_
    obtain rfl:=Aa ha
    exact Re [(.bool false)] he rfl
   ·refine Sc ?_
    refine Ao ?_
    have hz:=AA hy h7
    exact ⟨hp,Nat.lt_succ_self _,(h0 + (Le x0 h0).2),F3,hz,he,(h6.t hv),fI⟩
  ·refine RWP.snext0 (dst:=(some 11)) (ty:=0) (g:=none) (by kernel_rfl) rfl (x:=(.tmp 10)) (b:=h1) (a:=x0) (pos:=h0) (k:=0) rfl h5 rfl h8 ?_
   refine Vs 1<|Nss<|C0 (rfl:false=false)<|Ex<|Al<|Al<|Av rfl ?_
   have b0:=AB hs h7
   exact .inl ⟨rfl,h0,F1,b0,h5.dr0,h6,fI⟩
 ·rintro f b1 ⟨hb,F2,rfl,hf,bc,⟨_,rfl⟩⟩
  have b2:=A4 ha
  refine Ab<|Sq (Rg (rG 5) ?_)
  refine Vs 3 ?_
  obtain ⟨b3,b4,b5⟩:=bS b2
  refine Cl' H1 hf (I8 N b1 F2 hf.pers ((x0.length:Int)) 1 x1 _ b4) ?_
  rintro _ F4 bd b6 be rfl
  refine Vs 1<|Nt<|Rt ?_
  obtain rfl:=Aa b5
  exact Re [(.bool b3)] b6 rfl
def BF (N:Nat) (x0:Int):Option Bool:=
 some ((decide (x0>=48))&&(decide (x0<=57)))
theorem GS:Af Tryz.prog 199:=fun _ _=>by kernel_rfl
theorem HP (N:Nat) (w0:World) (F0:Mem) (hF:YN w0 F0) (x0:Int) (r:Bool) (h:BF N x0=some r):
  Calls Tryz.prog 199 ([(.int .i32 x0)]:List Value).toArray w0 (AC w0 F0 fun F' v=>v=(.bool r)):=by
 have h1:=Yt hF
 refine Go 9 Tryz.func199<|Sq (Rg [0] ?_)
 refine Vs 1<|Nss (Rg (rG 7) ?_)
 refine Yx (fun f w=>∃ (F1:Mem),HS w0 F0 w F1 []/\Yr F0 F1/\FI f [] [(2,(.bool ((decide (x0>=48))&&(decide (x0<=57)))))]) ?_ ?_
 ·refine Vs 3 ?_
  refine Yw (decide (x0>=48)) (fun h0=>?_) (fun h0=>?_)
  ·refine Vgs h0 2 ?_
   refine Pk1 h0<|Vs 1 ?_
   exact Yn ⟨rfl,F0,h1,(Ys _),(fJ ⟨(congrArg Value.bool (IG h0 rfl)),trivial⟩)⟩
  ·refine Ss h0 2 ?_
   refine Pk0 h0<|Vs 1 ?_
   exact Yn ⟨rfl,F0,h1,(Ys _),(fJ ⟨(congrArg Value.bool (IH h0 rfl)),trivial⟩)⟩
 ·rintro f h3 ⟨F1,h2,h4,⟨_,rfl⟩⟩
  refine Ab<|Rt ?_
  obtain rfl:=Aa h
  exact Re [(.bool ((decide (x0>=48))&&(decide (x0<=57))))] h2 rfl
def Cc (N:Nat) (x0:Int):Option Bool:=
 some ((decide (x0>=65))&&(decide (x0<=90)))
theorem Gi:Af Tryz.prog 264:=fun _ _=>by kernel_rfl
theorem GW (N:Nat) (w0:World) (F0:Mem) (hF:YN w0 F0) (x0:Int) (r:Bool) (h:Cc N x0=some r):
  Calls Tryz.prog 264 ([(.int .i32 x0)]:List Value).toArray w0 (AC w0 F0 fun F' v=>v=(.bool r)):=by
 have h1:=Yt hF
 refine Go 9 Tryz.func264<|Sq (Rg [0] ?_)
 refine Vs 1<|Nss (Rg (rG 7) ?_)
 refine Yx (fun f w=>∃ (F1:Mem),HS w0 F0 w F1 []/\Yr F0 F1/\FI f [] [(2,(.bool ((decide (x0>=65))&&(decide (x0<=90)))))]) ?_ ?_
 ·refine Vs 3 ?_
  refine Yw (decide (x0>=65)) (fun h0=>?_) (fun h0=>?_)
  ·refine Vgs h0 2 ?_
   refine Pk1 h0<|Vs 1 ?_
   exact Yn ⟨rfl,F0,h1,(Ys _),(fJ ⟨(congrArg Value.bool (IG h0 rfl)),trivial⟩)⟩
  ·refine Ss h0 2 ?_
   refine Pk0 h0<|Vs 1 ?_
   exact Yn ⟨rfl,F0,h1,(Ys _),(fJ ⟨(congrArg Value.bool (IH h0 rfl)),trivial⟩)⟩
 ·rintro f h3 ⟨F1,h2,h4,⟨_,rfl⟩⟩
  refine Ab<|Rt ?_
  obtain rfl:=Aa h
  exact Re [(.bool ((decide (x0>=65))&&(decide (x0<=90))))] h2 rfl
def El (N:Nat) (x0:Int):Option Bool:=
 (((Cc N x0).bind fun h0=>(bif h0 then some true else ((BF N x0).bind fun h1=>some h1))).bind fun h2=>some h2)
theorem PP:Af Tryz.prog 265:=fun _ _=>by kernel_rfl
theorem Rj (N:Nat) (w0:World) (F0:Mem) (hF:YN w0 F0) (x0:Int) (r:Bool) (h:El N x0=some r):
  Calls Tryz.prog 265 ([(.int .i32 x0)]:List Value).toArray w0 (AC w0 F0 fun F' v=>v=(.bool r)):=by
 have h2:=Yt hF
 refine Go 9 Tryz.func265<|Sq (Rg [0] ?_)
 refine Vs 1<|Nss (Rg (rG 7) ?_)
 obtain ⟨h3,h5,h6⟩:=bS h
 refine Yx (fun f w=>∃ (F1:Mem),HS w0 F0 w F1 []/\Yr F0 F1/\FI f [] [(2,(.bool h3))]) ?_ ?_
 ·refine Vs 1 ?_
  obtain ⟨hh,h7,h8⟩:=bS h5
  refine Cl' Gi h2 (GW N w0 F0 h2.pers x0 _ h7) ?_
  rintro _ F2 h9 h1 h4 rfl
  refine Vs 1<|Sp h8 (fun h0 ha=>?_) (fun h0 hb=>?_)
  ·refine Ss h0 2 ?_
   refine Pk1 h0<|Vs 1 ?_
   obtain rfl:=Aa ha
   exact Yn ⟨rfl,F2,h1,h4,fI⟩
  ·refine Vgs h0 1 ?_
   obtain ⟨hk,hc,hd⟩:=bS hb
   refine Cg h0 GS h1 (HP N h9 F2 h1.pers x0 _ hc) ?_
   rintro _ F3 hl he hf rfl
   refine Pk0 h0<|Vs 1 ?_
   obtain rfl:=Aa hd
   exact Yn ⟨rfl,F3,he,(h4.t hf),fI⟩
 ·rintro f hm ⟨F1,hg,hn,⟨_,rfl⟩⟩
  refine Ab<|Rt ?_
  obtain rfl:=Aa h6
  exact Re [(.bool h3)] hg rfl
section
open Go.Proofs Go.RowKit Go.Sort Go.Lib
def GF (p:Int->Option Bool) (x:Nat):Bool:=(p (x:Int)).getD false
def Rn (p:Int->Option Bool):Prop:=∀ x:Nat,x<=1114111->(p (x:Int)).isSome=true
def LT (p:Int->Option Bool):Bool:=(List.range 1114112).all fun x=>(p (x:Int)).isSome
theorem JG {p:Int->Option Bool}:LT p=true ↔ Rn p:=by
 unfold LT Rn
 rw [List.all_eq_true]
 exact ⟨fun h x hx=>h x (by rw [List.mem_range];omega),fun h x hx=>h x (by rw [List.mem_range] at hx;omega)⟩
theorem Qh {w:World} {F:Mem} (hF:∀ b o,F b=some o->w.heap[b]? =some o) {gq:FuncId} {k:List Value} {p:Int->Option Bool} (h:NP F gq [] k p) (ha:Rn p):PredGrows Tryz.prog gq k.toArray (GF p) w:=by
 intro W x hx hb
 have hr:=ha x hx
 obtain ⟨r,hr'⟩:=Option.isSome_iff_exists.1 hr
 have:=h W F (x:Int) r (Ys F) (Below.pers hF hb) hr'
 have e:GF p x=r:=by unfold GF;rw [hr'];rfl
 rw [e]
 have he:(#[encR x]++k.toArray:Array Value)=(([]:List Value)++(([.int .i32 (x:Int)]:List Value)++k)).toArray:=by
  apply Array.ext';simp [encR]
 rw [he]
 refine this.mono ?_
 rintro e w' ⟨v,F',rfl,hs,rfl⟩
 exact ⟨rfl,hs.fix.1,hs.fix.2.2,hs.fix.2.1,hs.size,hs.keep⟩
def CP (_N:Nat) (x0:YL) (x1:Int->Option Bool):Option Int:=
 if LT x1=true then some (Go.Lib.idxFunc (GF x1) true ⟨x0.toArray⟩) else none
theorem JY:Af Tryz.prog 266:=fun _ _=>by kernel_rfl
theorem KI (N:Nat) (w0:World) (F0:Mem) (hF:YN w0 F0) (x0:YL) (h0:FuncId) (h1:List Value) (x1:Int->Option Bool) (h2:Af Tryz.prog h0) (h3:NP F0 h0 [] h1 x1) (r:Int) (h:CP N x0 x1=some r):
  Calls Tryz.prog 266 ([(.string ⟨(x0).toArray⟩),(.func (.func h0) ([]:List Value).toArray h1.toArray)]:List Value).toArray w0 (AC w0 F0 fun _ v=>v=(.int .i64 r)):=by
 unfold CP at h
 split at h
 ·rename_i ha
  cases h
  exact YI hF (Tryz.strings_IndexFunc_grows h0 h1.toArray h2 _ _ w0 (Qh hF h3 (JG.1 ha))) rfl
 ·cases h
def Cz (_N:Nat) (x0:YL) (x1:Int->Option Bool) (x2:Bool):Option Int:=
 if LT x1=true/\x0.length<=9223372036854775807 then some (Go.Lib.lastIdxFunc (GF x1) x2 ⟨x0.toArray⟩) else none
theorem HW:Af Tryz.prog 284:=fun _ _=>by kernel_rfl
theorem Iz (N:Nat) (w0:World) (F0:Mem) (hF:YN w0 F0) (hG:BI F0) (x0:YL) (h0:FuncId) (h1:List Value) (x1:Int->Option Bool) (h2:Af Tryz.prog h0) (h3:NP F0 h0 [] h1 x1) (x2:Bool) (r:Int) (h:Cz N x0 x1 x2=some r):
  Calls Tryz.prog 284 ([(.string ⟨(x0).toArray⟩),(.func (.func h0) ([]:List Value).toArray h1.toArray),(.bool x2)]:List Value).toArray w0 (AC w0 F0 fun _ v=>v=(.int .i64 r)):=by
 unfold Cz at h
 split at h
 ·rename_i ha
  cases h
  exact YI hF (Tryz.strings_lastIndexFunc_grows h0 h1.toArray h2 _ _ _ w0 (by simpa [ByteArray.size] using ha.2) (hG w0 hF).2.1 (Qh hF h3 (JG.1 ha.1))) rfl
 ·cases h
def QC (s sep:YL):List YL:=(Go.Lib.splitB ⟨sep.toArray⟩ 0 (Go.Lib.countB ⟨s.toArray⟩ ⟨sep.toArray⟩) ⟨s.toArray⟩).map (·.data.toList)
def strings_Split (_N:Nat) (s sep:YL):Option (List YL):=if s.length < 4294967281/\1<=sep.length then some (QC s sep) else none
theorem C9:Af Tryz.prog 93:=fun _ _=>by kernel_rfl
theorem DH (N:Nat) (w0:World) (F0:Mem) (hF:YN w0 F0) (hG:BI F0) (x0 x1:YL) (r:List YL) (h:strings_Split N x0 x1=some r):
  Calls Tryz.prog 93 ([(.string ⟨(x0).toArray⟩),(.string ⟨(x1).toArray⟩)]:List Value).toArray w0 (AC w0 F0 fun F' v=>∃ (h0:YM) (h2:Nat),v=(.slice h0 r.length h2)/\LC r.length h2/\SlA AF F' h0 r):=by
 unfold strings_Split at h
 split at h
 ·rename_i ha
  cases h
  obtain ⟨m,hm⟩:=(hG w0 hF).2.2.1
  have hs:(⟨x0.toArray⟩:ByteArray).size < 4294967281:=by simpa [ByteArray.size] using ha.1
  have h1:1<=(⟨x1.toArray⟩:ByteArray).size:=by simpa [ByteArray.size] using ha.2
  have hle:=Go.Lib.countB_le ⟨x1.toArray⟩ h1 _ ⟨x0.toArray⟩ (Nat.le_refl _)
  exact AC.strs hF (Tryz.strings_Split _ _ m w0 hs hm h1) (Go.Lib.splitB_all ⟨x1.toArray⟩ h1 0 _ _ rfl) (by omega)
 ·cases h
def strings_Cut (_N:Nat) (s sep:YL):Option (YL×YL×Bool):=if s.length < 4294967281 then some (Go.Lib.cut s sep) else none
theorem JZ:Af Tryz.prog 164:=fun _ _=>by kernel_rfl
theorem K5 (N:Nat) (w0:World) (F0:Mem) (hF:YN w0 F0) (hG:BI F0) (x0 x1:YL) (r:YL×YL×Bool) (h:strings_Cut N x0 x1=some r):
  Calls Tryz.prog 164 ([(.string ⟨(x0).toArray⟩),(.string ⟨(x1).toArray⟩)]:List Value).toArray w0 (AC w0 F0 fun _ v=>v=(.tuple #[(.string ⟨(r.1).toArray⟩),(.string ⟨(r.2.1).toArray⟩),(.bool r.2.2)])):=by
 unfold strings_Cut at h
 split at h
 ·rename_i ha
  cases h
  obtain ⟨m,hm⟩:=(hG w0 hF).2.2.1
  refine YI hF ((Tryz.strings_Cut ⟨x0.toArray⟩ ⟨x1.toArray⟩ m w0 (by simpa [ByteArray.size] using ha) hm).mono ?_) rfl
  rintro e w' ⟨rfl,n,rfl⟩
  exact ⟨rfl,Sk _ _⟩
 ·cases h
def strings_Repeat (_N:Nat) (s:YL) (n:Int):Option YL:=if 0<=n/\n<=9223372036854775807/\s.length * n.toNat<=140737488355328 then some (Go.Lib.repeatL s n.toNat) else none
theorem Mc:Af Tryz.prog 186:=fun _ _=>by kernel_rfl
theorem Nl (N:Nat) (w0:World) (F0:Mem) (hF:YN w0 F0) (x0:YL) (x1:Int) (r:YL) (h:strings_Repeat N x0 x1=some r):
  Calls Tryz.prog 186 ([(.string ⟨(x0).toArray⟩),(.int .i64 x1)]:List Value).toArray w0 (AC w0 F0 fun _ v=>v=(.string ⟨(r).toArray⟩)):=by
 unfold strings_Repeat at h
 split at h
 ·rename_i ha
  cases h
  have e:(x1.toNat:Int)=x1:=by omega
  have:=Tryz.strings_Repeat ⟨x0.toArray⟩ x1.toNat w0 (by omega) (by simpa [ByteArray.size] using ha.2.2)
  rw [e] at this
  exact YI hF this rfl
 ·cases h
def strings_Join (_N:Nat) (l:List YL) (sep:YL):Option YL:=if l.length<=140737488355328/\(Go.Lib.join l sep).length<=140737488355328 then some (Go.Lib.join l sep) else none
theorem CK:Af Tryz.prog 84:=fun _ _=>by kernel_rfl
theorem Dc (N:Nat) (w0:World) (F0:Mem) (hF:YN w0 F0) (x0:(List YL)) (h1:YM) (h0:Nat) (h2:LC x0.length h0) (h3:SlA AF F0 h1 x0) (x1 r:YL) (h:strings_Join N x0 x1=some r):
  Calls Tryz.prog 84 ([(.slice h1 x0.length h0),(.string ⟨(x1).toArray⟩)]:List Value).toArray w0 (AC w0 F0 fun _ v=>v=(.string ⟨(r).toArray⟩)):=by
 unfold strings_Join at h
 split at h
 ·rename_i ha
  cases h
  rcases h3 with rfl | ⟨b,o,C,E,fz,rfl,hC,hx⟩
  ·refine YI hF ((Tryz.strings_Join_none h1 h0 ⟨x1.toArray⟩ w0).mono ?_) rfl
   rintro e w' ⟨rfl,rfl⟩
   exact ⟨rfl,Below.refl _ _⟩
  ·have hb:=hF _ _ hC
   have hmap:(x0.map fun l=>(⟨l.toArray⟩:ByteArray)).map (·.data.toList)=x0:=by
    rw [List.map_map];conv=>rhs;rw [<-List.map_id x0]
    exact List.map_congr_left fun l _=>by simp
   have:=Tryz.strings_Join b o h0 (x0.map fun l=>⟨l.toArray⟩) ⟨x1.toArray⟩ w0 (fun j x hj=>by
    rw [List.getElem?_map] at hj
    cases hl:x0[j]? with
    | none=>rw [hl] at hj;cases hj
    | some l=>
     rw [hl] at hj
     cases hj
     have hc:Au C (o + j * 1) 1=[.string ⟨l.toArray⟩]:=hx j l hl
     rw [Nat.mul_one] at hc
     have:=J7.1 hc
     simp [World.cell?,hb,this]) (Bm hb) (by simpa using ha.1) (by simpa using h2.1) (by rw [hmap];exact ha.2)
   rw [hmap,List.length_map] at this
   exact YI hF this rfl
 ·cases h
def strconv_Itoa (_N:Nat) (n:Int):Option YL:=if -9223372036854775808<=n/\n<=9223372036854775807 then some (Go.Lib.itoa n) else none
theorem AV:Af Tryz.prog 85:=fun _ _=>by kernel_rfl
theorem A1 (N:Nat) (w0:World) (F0:Mem) (hF:YN w0 F0) (hG:BI F0) (x0:Int) (r:YL) (h:strconv_Itoa N x0=some r):
  Calls Tryz.prog 85 ([(.int .i64 x0)]:List Value).toArray w0 (AC w0 F0 fun _ v=>v=(.string ⟨(r).toArray⟩)):=by
 unfold strconv_Itoa at h
 split at h
 ·rename_i ha
  cases h
  refine YI hF ((Tryz.strconv_Itoa x0 ha.1 ha.2 w0 (hG w0 hF).1).mono ?_) rfl
  rintro e w' ⟨rfl,k,os,rfl⟩
  exact ⟨rfl,rfl,rfl,rfl,by simp [grow,World.drewN],fun j hj=>by
   show ((w0.drewN k).heap++os)[j]? =_
   rw [Array.getElem?_append_left (show j < (w0.drewN k).heap.size from hj)];rfl⟩
 ·cases h
def Cr (_N:Nat) (s:YL):Option (Int×Bool):=if s.length<=281474976710656 then (match Go.Lib.atoiAll s with
 | .ok v=>some (v,false)
 | .range=>some (Go.Lib.atoiSat s,true)
 | _=>some (0,true)) else none
theorem Ji:Af Tryz.prog 163:=fun _ _=>by kernel_rfl
theorem J9 (N:Nat) (w0:World) (F0:Mem) (hF:YN w0 F0) (hG:BI F0) (x0:YL) (r:Int×Bool) (h:Cr N x0=some r):
  Calls Tryz.prog 163 ([(.string ⟨(x0).toArray⟩)]:List Value).toArray w0 (AC w0 F0 fun _ v=>∃ (h0:Value),v=(.tuple #[(.int .i64 r.1),h0])/\X5 r.2 h0):=by
 unfold Cr at h
 split at h
 ·rename_i ha
  have hsz:(⟨x0.toArray⟩:ByteArray).size<=281474976710656:=by simpa [ByteArray.size] using ha
  cases hv:Go.Lib.atoiAll x0 with
  | ok v=>
   rw [hv] at h
   cases h
   refine YI hF ((Tryz.strconv_Atoi_ok ⟨x0.toArray⟩ (by omega) v (by simpa using hv) w0).mono ?_) ⟨.nilIface,rfl,rfl⟩
   rintro e w' ⟨rfl,(rfl | ⟨t,rfl⟩)⟩
   ·exact ⟨rfl,Below.refl _ _⟩
   ·exact ⟨rfl,rfl,rfl,rfl,by rw [Go.Lib.bytesWorld_size];omega,fun j hj=>Go.Lib.bytesWorld_at_old w0 _ _ j hj⟩
  | range=>
   rw [hv] at h
   cases h
   obtain ⟨tp,p,hvar⟩:=(hG w0 hF).2.2.2.1
   refine (Tryz.strconv_Atoi_range_var ⟨x0.toArray⟩ hsz (by simpa using hv) tp p w0 hvar).mono ?_
   rintro e w' ⟨n,rfl,_,_,hb⟩
   exact ⟨_,F0,rfl,HS.below hF hb,_,rfl,_,_,rfl⟩
  | _=>
   rw [hv] at h
   cases h
   obtain ⟨tp,p,hvar⟩:=(hG w0 hF).2.2.2.2
   refine (Tryz.strconv_Atoi_syntax_var ⟨x0.toArray⟩ hsz (by simpa using hv) tp p w0 hvar).mono ?_
   rintro e w' ⟨n,rfl,_,_,hb⟩
   exact ⟨_,F0,rfl,HS.below hF hb,_,rfl,_,_,rfl⟩
 ·cases h
def strings_Index (_N:Nat) (s sub:YL):Option Int:=if s.length < 4294967281 then some (Go.Lib.index s sub) else none
theorem Iu:Af Tryz.prog 98:=fun _ _=>by kernel_rfl
theorem Jq (N:Nat) (w0:World) (F0:Mem) (hF:YN w0 F0) (hG:BI F0) (x0 x1:YL) (r:Int) (h:strings_Index N x0 x1=some r):
  Calls Tryz.prog 98 ([(.string ⟨(x0).toArray⟩),(.string ⟨(x1).toArray⟩)]:List Value).toArray w0 (AC w0 F0 fun _ v=>v=(.int .i64 r)):=by
 unfold strings_Index at h
 split at h
 ·rename_i ha
  cases h
  obtain ⟨m,hm⟩:=(hG w0 hF).2.2.1
  exact YI hF ((Tryz.strings_Index ⟨x0.toArray⟩ ⟨x1.toArray⟩ m w0 (by simpa [ByteArray.size] using ha) hm).mono fun e w' ⟨he,hw⟩=>⟨he,hw ▸ Below.refl _ _⟩) rfl
 ·cases h
def strings_CutPrefix (_N:Nat) (s p:YL):Option (YL×Bool):=some (Go.Lib.trimPrefix s p,Go.Lib.hasPrefix s p)
theorem Bb:Af Tryz.prog 189:=fun _ _=>by kernel_rfl
theorem Bl (N:Nat) (w0:World) (F0:Mem) (hF:YN w0 F0) (x0 x1:YL) (r:YL×Bool) (h:strings_CutPrefix N x0 x1=some r):
  Calls Tryz.prog 189 ([(.string ⟨(x0).toArray⟩),(.string ⟨(x1).toArray⟩)]:List Value).toArray w0 (AC w0 F0 fun _ v=>v=(.tuple #[(.string ⟨(r.1).toArray⟩),(.bool r.2)])):=by
 cases h
 exact YI hF ((Tryz.strings_CutPrefix ⟨x0.toArray⟩ ⟨x1.toArray⟩ w0).mono fun e w' ⟨he,hw⟩=>⟨he,hw ▸ Below.refl _ _⟩) rfl
def strings_TrimSuffix (_N:Nat) (s p:YL):Option YL:=if s.length<=9223372036854775807 then some (Go.Lib.trimSuffix s p) else none
theorem Jw:Af Tryz.prog 117:=fun _ _=>by kernel_rfl
theorem J8 (N:Nat) (w0:World) (F0:Mem) (hF:YN w0 F0) (x0 x1 r:YL) (h:strings_TrimSuffix N x0 x1=some r):
  Calls Tryz.prog 117 ([(.string ⟨(x0).toArray⟩),(.string ⟨(x1).toArray⟩)]:List Value).toArray w0 (AC w0 F0 fun _ v=>v=(.string ⟨(r).toArray⟩)):=by
 unfold strings_TrimSuffix at h
 split at h
 ·rename_i ha
  cases h
  exact YI hF ((Tryz.strings_TrimSuffix ⟨x0.toArray⟩ ⟨x1.toArray⟩ w0 (by simpa [ByteArray.size] using ha)).mono fun e w' ⟨he,hw⟩=>⟨he,hw ▸ Below.refl _ _⟩) rfl
 ·cases h
end
def GE (N:Nat) (x0:YL):Option Bool:=
 (((GD N x0 4 (fun y0=>El N y0)).bind fun h0=>(bif h0 then ((CP N x0 (fun y0=>Cc N y0)).bind fun h1=>some (decide (h1>=0))) else some false)).bind fun h2=>some h2)
theorem J6:Af Tryz.prog 225:=fun _ _=>by kernel_rfl
theorem LJ (N:Nat) (w0:World) (F0:Mem) (hF:YN w0 F0) (x0:YL) (r:Bool) (h:GE N x0=some r):
  Calls Tryz.prog 225 ([(sv x0)]:List Value).toArray w0 (AC w0 F0 fun F' v=>v=(.bool r)):=by
 have h4:=Yt hF
 refine Go 10 Tryz.func225<|Sq (Rg [0] ?_)
 refine Vs 1<|Nss (Rg (rG 8) ?_)
 obtain ⟨h5,h7,h8⟩:=bS h
 refine Yx (fun f w=>∃ (F1:Mem),HS w0 F0 w F1 []/\Yr F0 F1/\FI f [] [(2,(.bool h5))]) ?_ ?_
 ·refine Vs 1 ?_
  obtain ⟨hm,h9,ha⟩:=bS h7
  refine Cl' Gy h4 (Hm N w0 F0 h4.pers x0 4 265 [] [] (fun y0=>El N y0) PP (fun w1 F1 y0 r hb h1 h2=>Rj N w1 F1 h1 y0 r h2) _ h9) ?_
  rintro _ F2 hc h3 h6 rfl
  refine Vs 1<|Sp ha (fun h0 hd=>?_) (fun h0 he=>?_)
  ·refine Vgs h0 1 ?_
   obtain ⟨hn,hf,hg⟩:=bS hd
   refine Cg h0 JY h3 (KI N hc F2 h3.pers x0 264 [] (fun y0=>Cc N y0) Gi (fun w1 F1 y0 r hb h1 h2=>GW N w1 F1 h1 y0 r h2) _ hf) ?_
   rintro _ F3 ho hh hk rfl
   refine Vgs h0 1<|Pk1 h0<|Vs 1 ?_
   obtain rfl:=Aa hg
   exact Yn ⟨rfl,F3,hh,(h6.t hk),fI⟩
  ·refine Ss h0 3 ?_
   refine Pk0 h0<|Vs 1 ?_
   obtain rfl:=Aa he
   exact Yn ⟨rfl,F2,h3,h6,fI⟩
 ·rintro f hp ⟨F1,hl,hq,⟨_,rfl⟩⟩
  refine Ab<|Rt ?_
  obtain rfl:=Aa h8
  exact Re [(.bool h5)] hl rfl
def B8 (N:Nat) (x0:YL) (x1:(Int->Option Bool)):Option Int:=
 ((Cz N x0 x1 true).bind fun h0=>some h0)
theorem HX:Af Tryz.prog 263:=fun _ _=>by kernel_rfl
theorem IA (N:Nat) (w0:World) (F0:Mem) (hF:YN w0 F0) (hG:BI F0) (x0:YL) (h0:FuncId) (h1:List Value) (x1:Int->Option Bool) (h3:Af Tryz.prog h0) (h4:NP F0 h0 [] h1 x1) (r:Int) (h:B8 N x0 x1=some r):
  Calls Tryz.prog 263 ([(sv x0),(.func (.func h0) ([]:List Value).toArray h1.toArray)]:List Value).toArray w0 (AC w0 F0 fun F' v=>v=(vi r)):=by
 have h2:=Yt hF
 refine Go 8 Tryz.func263<|Sq (Rg [0] ?_)
 refine Vs 1<|Nss (Rg (rG 4) ?_)
 refine Vs 2 ?_
 obtain ⟨h5,h6,h7⟩:=bS h
 refine Cl' HW h2 (Iz N w0 F0 h2.pers hG x0 h0 h1 x1 h3 (fun w1 F1 y0 r h8 h9 ha=>h4 w1 F1 y0 r h8 h9 ha) true _ h6) ?_
 rintro _ F1 hc hb hd rfl
 refine Vs 1<|Nt<|Rt ?_
 obtain rfl:=Aa h7
 exact Re [(vi h5)] hb rfl
def MC (N:Nat) (x0:YL):Option (YL×YL×Bool):=
 ((B8 N x0 (fun y0=>BF N y0)).bind fun h1=>(((G5 x0 0 (W64 (h1 + 1))).bind fun h2=>((G5 x0 (W64 (h1 + 1)) (x0.length:Int)).bind fun h3=>some (h2,h3))).bind fun h0=>((bif (decide ((W64 (h1 + 1)) > 0)) then ((GE N h0.1).bind fun h4=>(bif h4 then ((GD N h0.2 4 (fun y0=>Cc N y0)).bind fun h5=>some h5) else some false)) else some false).bind fun h6=>some (h0.1,h0.2,h6))))
theorem Sf:Af Tryz.prog 222:=fun _ _=>by kernel_rfl
theorem Tf (N:Nat) (w0:World) (F0:Mem) (hF:YN w0 F0) (hG:BI F0) (x0:YL) (r:(YL×YL×Bool)) (h:MC N x0=some r):
  Calls Tryz.prog 222 ([(sv x0)]:List Value).toArray w0 (AC w0 F0 fun F' v=>v=(.tuple #[(sv r.1),(sv r.2.1),(.bool r.2.2)])):=by
 have h8:=Yt hF
 refine Go 27 Tryz.func222<|Sq (Rg [0,1,2] ?_)
 refine Vs 3<|Nss (Rg (rG 4) ?_)
 refine Vs 1 ?_
 obtain ⟨h3,hd,he⟩:=bS h
 refine Cl' HX h8 (IA N w0 F0 h8.pers hG x0 199 [] (fun y0=>BF N y0) GS (fun w1 F1 y0 r hf h4 h5=>HP N w1 F1 h4 y0 r h5) _ hd) ?_
 rintro _ F1 b6 hg b7 rfl
 refine Vs 2<|Nss ?_
 obtain ⟨h0,hh,hk⟩:=bS he
 refine RD 8 8 [] [] hg (fun f w=>∃ (F2:Mem),HS w0 F0 w F2 []/\Yr F1 F2/\FI f [] [(2,(sv h0.1)),(3,(sv h0.2)),(5,(vi (W64 (h3 + 1))))]) (fun b8 hl=>?_) ?_
 ·refine Dv [0,1] ?_
  obtain ⟨h9,hm,hn⟩:=bS hh
  refine Dt 2 11 9 (sv h9) (fun _ hq=>CQ (t:=9) (x:=(.tmp 9)) (lo:=none) (hi:=(some (.tmp 10))) (a:=x0) (il:=0) (ih:=(W64 (h3 + 1))) (v:=h9) rfl (by kernel_rfl) rfl rfl hm)<|Dv [3,4] ?_
  obtain ⟨ha,ho,hp⟩:=bS hn
  refine Dt 5 14 9 (sv ha) (fun _ hq=>CQ (t:=9) (x:=(.tmp 12)) (lo:=(some (.tmp 13))) (hi:=none) (a:=x0) (il:=(W64 (h3 + 1))) (ih:=(x0.length:Int)) (v:=ha) rfl (by kernel_rfl) rfl rfl ho)<|Dv [6,7] ?_
  obtain rfl:=Aa hp
  exact YE (by kernel_rfl) ⟨F1,hl,(Ys _),fI⟩
 ·rintro f hr ⟨F2,h6,b9,⟨_,rfl⟩⟩
  refine Ab<|Sq (Rg (rG 15) ?_)
  obtain ⟨hb,hs,ht⟩:=bS hk
  refine Yx (fun f w=>∃ (F3:Mem),HS w0 F0 w F3 []/\Yr F2 F3/\FI f [] [(2,(sv h0.1)),(3,(sv h0.2)),(4,(.bool hb))]) ?_ ?_
  ·refine Vs 5 ?_
   refine Sp hs (fun h1 hu=>?_) (fun h1 hv=>?_)
   ·refine Vgs h1 1 ?_
    obtain ⟨ba,hw,hx⟩:=bS hu
    refine Cg h1 J6 h6 (LJ N hr F2 h6.pers h0.1 _ hw) ?_
    rintro _ F4 hy h7 hc rfl
    refine Pk1 h1<|Vs 1<|Sp hx (fun h2 hz=>?_) (fun h2 b0=>?_)
    ·refine Vgs h2 1 ?_
     obtain ⟨bb,b1,b2⟩:=bS hz
     refine Cg h2 Gy h7 (Hm N hy F4 h7.pers h0.2 4 264 [] [] (fun y0=>Cc N y0) Gi (fun w1 F1 y0 r hf h4 h5=>GW N w1 F1 h4 y0 r h5) _ b1) ?_
     rintro _ F5 bc b3 b4 rfl
     refine Pk1 h2<|Vs 3 ?_
     obtain rfl:=Aa b2
     exact Yn ⟨rfl,F5,b3,(hc.t b4),fI⟩
    ·refine Ss h2 2 ?_
     refine Pk0 h2<|Vs 3 ?_
     obtain rfl:=Aa b0
     exact Yn ⟨rfl,F4,h7,hc,fI⟩
   ·refine Ss h1 2 ?_
    refine Pk0 h1<|Vs 1<|Ss (rfl:false=false) 2<|Pk0 (rfl:false=false)<|Vs 3 ?_
    obtain rfl:=Aa hv
    exact Yn ⟨rfl,F2,h6,(Ys _),fI⟩
  ·rintro f bd ⟨F3,b5,be,⟨_,rfl⟩⟩
   refine Ab<|Rt ?_
   obtain rfl:=Aa ht
   exact Re [(sv h0.1),(sv h0.2),(.bool hb)] b5 rfl
def AK (N:Nat) (x0:YL):Option (BC×Bool):=
 ((MC N x0).bind fun h0=>some (({Area:=([]:YL),Prefix:=h0.1,Suffix:=h0.2.1,Stroke:=([]:YL)}:BC),h0.2.2))
theorem Fz:Af Tryz.prog 221:=fun _ _=>by kernel_rfl
theorem Gl (N:Nat) (w0:World) (F0:Mem) (hF:YN w0 F0) (hG:BI F0) (x0:YL) (r:(BC×Bool)) (h:AK N x0=some r):
  Calls Tryz.prog 221 ([(sv x0)]:List Value).toArray w0 (AC w0 F0 fun F' v=>v=(.tuple #[(.agg (Dq r.1)),(.bool r.2)])):=by
 have h3:=Yt hF
 refine Go 17 Tryz.func221<|Sq (Rg [0,1] ?_)
 refine Al' 186 #[(sv (([]:YL))),(sv (([]:YL))),(sv (([]:YL))),(sv (([]:YL)))] h3 (fun h4 h5 h1=>?_)
 refine Vs 1<|Nss (Rg (rG 9) ?_)
 refine Vs 1 ?_
 obtain ⟨h0,h6,h7⟩:=bS h
 refine Cl' Sf h1 (Tf N h5 F0 h1.pers hG x0 _ h6) ?_
 rintro _ F1 h9 h8 ha rfl
 refine Vs 7<|Nss (Rg (rG 6) ?_)
 refine Vs 4<|St0 #[(sv (([]:YL))),(sv h0.1),(sv h0.2.1),(sv (([]:YL)))] h8 (fun hb h2=>?_)
 refine Vs 1<|Nt<|Rt ?_
 obtain rfl:=Aa h7
 exact ⟨rfl,(.tuple #[(.agg #[(sv (([]:YL))),(sv h0.1),(sv h0.2.1),(sv (([]:YL)))]),(.bool h0.2.2)]),AJ (l:=[.cell 2 186,.tmp 3]) (by kernel_rfl) (vs:=[(.agg #[(sv (([]:YL))),(sv h0.1),(sv h0.2.1),(sv (([]:YL)))]),(.bool h0.2.2)]) ⟨h4,0,rfl,Ai (t:=186) (g:=true) (s:=4) (by kernel_rfl) h2.at0 rfl (by decide),⟨rfl,trivial⟩⟩,(.tuple #[(.agg #[(sv (([]:YL))),(sv h0.1),(sv h0.2.1),(sv (([]:YL)))]),(.bool h0.2.2)]),F1,rfl,h2.clear,rfl⟩
def Ek (N:Nat) (x0:(List YL)) (z0:(YL->Option (BC×Bool))):Option (BC×Bool):=
 (((idx x0 0).bind fun h2=>((z0 h2).bind fun h0=>some (h0.2,h0.1.Area,h0.1.Prefix,h0.1.Suffix,h0.1.Stroke))).bind fun h1=>some (({Area:=h1.2.1,Prefix:=h1.2.2.1,Suffix:=h1.2.2.2.1,Stroke:=h1.2.2.2.2}:BC),h1.1))
theorem Pn:Af Tryz.prog 223:=fun _ _=>by kernel_rfl
theorem P5 (N:Nat) (w0:World) (F0:Mem) (hF:YN w0 F0) (x0:(List YL)) (h6:YM) (h7:Nat) (hx:LC x0.length h7) (hc:SlA AF F0 h6 x0) (h8:Nat) (z0:(YL->Option (BC×Bool))) (h3:FuncId) (h1 h2:List Value) (hd:Af Tryz.prog h3) (he:Kl F0 h3 h1 h2 z0) (hf:F0 h8=some (oc #[(.func (.func h3) h1.toArray h2.toArray)] 188)) (r:(BC×Bool)) (h:Ek N x0 z0=some r):
  Calls Tryz.prog 223 ([(sL h6 x0 h7),(pt h8 0)]:List Value).toArray w0 (AC w0 F0 fun F' v=>v=(.tuple #[(.agg (Dq r.1)),(.bool r.2)])):=by
 have hg:=Yt hF
 refine Go 12 Tryz.func223<|Sq (Rg [0,1] ?_)
 refine Al' 186 #[(sv (([]:YL))),(sv (([]:YL))),(sv (([]:YL))),(sv (([]:YL)))] hg (fun h4 hy hh=>?_)
 refine Vs 1<|Nss ?_
 obtain ⟨h0,hk,hl⟩:=bS h
 refine RD 9 9 [] [] hh (fun f w=>∃ (F1:Mem),HS w0 F0 w F1 [(sb h4 #[(sv h0.2.1),(sv h0.2.2.1),(sv h0.2.2.2.1),(sv h0.2.2.2.2)] 186)]/\Yr F0 F1/\FI f [] [(3,(pt h4 0)),(4,(.bool h0.1))]) (fun hm h9=>?_) ?_
 ·refine Dl 0 (fun _ hq=>(hq.1.1 _ _ hf)) ?_
  refine Dv [1] ?_
  obtain ⟨h5,hn,ho⟩:=bS hk
  obtain ⟨hp,hx36'⟩:=Ah hn
  obtain ⟨hz,b0,b1,b2,b3,rfl,hF45,hE46⟩:=Yz hc hx36'
  have hr:=hE46 _ _ hx36'
  refine Di 2 hp<|Dx 3 0 (fun _ hq=>hq.1.1 _ _ hF45) hr<|D1 4 ?_
  obtain ⟨hs,ht,hu⟩:=bS ho
  refine YD (l':=[true,true,true,true,true,false,false,false,false]) (zd:=true) (by kernel_rfl) (by kernel_rfl) (by kernel_rfl) (dst:=(some 9)) (ty:=187) (g:=none) (by kernel_rfl) rfl (f0:=(.tmp 5)) (aos:=#[(.tmp 8)]) (ats:=#[9]) (fid:=h3) (first:=h1.toArray) (cap:=h2.toArray) (args:=(h1++(([(sv h5)]:List Value)++h2))) rfl hd (E9 (l:=[(sv h5)]) (fi:=h1) (k:=h2) rfl) h9 (he hm F0 h5 _ (Ys _) h9.pers ht) ?_
  rintro _ F2 b4 hv ha rfl
  refine Dv [5,6]<|D1 7<|Em (Dq hs.1) hv ha (fun b5 hw=>?_)
  refine Dv [8] ?_
  obtain rfl:=Aa hu
  exact YE (by kernel_rfl) ⟨F2,hw,ha,fI⟩
 ·rintro f b6 ⟨F1,hb,b7,⟨_,rfl⟩⟩
  refine Ab<|Rt ?_
  obtain rfl:=Aa hl
  exact ⟨rfl,(.tuple #[(.agg #[(sv h0.2.1),(sv h0.2.2.1),(sv h0.2.2.2.1),(sv h0.2.2.2.2)]),(.bool h0.1)]),AJ (l:=[.cell 3 186,.tmp 4]) (by kernel_rfl) (vs:=[(.agg #[(sv h0.2.1),(sv h0.2.2.1),(sv h0.2.2.2.1),(sv h0.2.2.2.2)]),(.bool h0.1)]) ⟨h4,0,rfl,Ai (t:=186) (g:=true) (s:=4) (by kernel_rfl) hb.at0 rfl (by decide),⟨rfl,trivial⟩⟩,(.tuple #[(.agg #[(sv h0.2.1),(sv h0.2.2.1),(sv h0.2.2.2.1),(sv h0.2.2.2.2)]),(.bool h0.1)]),F1,rfl,hb.clear,rfl⟩
def Ej (N:Nat) (x0:(List YL)) (z0:(YL->Option (BC×Bool))):Option (BC×Bool):=
 (((idx x0 1).bind fun h4=>((z0 h4).bind fun h1=>some (h1.2,h1.1.Area,h1.1.Prefix,h1.1.Suffix,h1.1.Stroke))).bind fun h0=>((idx x0 0).bind fun h3=>((bif h0.1 then ((idx x0 0).bind fun h5=>((GE N h5).bind fun h6=>(bif h6 then ((idx x0 0).bind fun h7=>((idx x0 1).bind fun h8=>some ((decide ((h7.length:Int) < (h8.length:Int))),h3,h0.2.2.1,h0.2.2.2.1,h0.2.2.2.2))) else some (false,h3,h0.2.2.1,h0.2.2.2.1,h0.2.2.2.2)))) else some (false,h3,h0.2.2.1,h0.2.2.2.1,h0.2.2.2.2)).bind fun h2=>some (({Area:=h2.2.1,Prefix:=h2.2.2.1,Suffix:=h2.2.2.2.1,Stroke:=h2.2.2.2.2}:BC),h2.1))))
theorem Pm:Af Tryz.prog 224:=fun _ _=>by kernel_rfl
theorem P4 (N:Nat) (w0:World) (F0:Mem) (hF:YN w0 F0) (x0:(List YL)) (hh:YM) (h8:Nat) (cj:LC x0.length h8) (ho:SlA AF F0 hh x0) (hp:Nat) (z0:(YL->Option (BC×Bool))) (hd:FuncId) (h5 h6:List Value) (hr:Af Tryz.prog hd) (hs:Kl F0 hd h5 h6 z0) (hz:F0 hp=some (oc #[(.func (.func hd) h5.toArray h6.toArray)] 188)) (r:(BC×Bool)) (h:Ej N x0 z0=some r):
  Calls Tryz.prog 224 ([(sL hh x0 h8),(pt hp 0)]:List Value).toArray w0 (AC w0 F0 fun F' v=>v=(.tuple #[(.agg (Dq r.1)),(.bool r.2)])):=by
 have b0:=Yt hF
 refine Go 38 Tryz.func224<|Sq (Rg [0,1] ?_)
 refine Al' 186 #[(sv (([]:YL))),(sv (([]:YL))),(sv (([]:YL))),(sv (([]:YL)))] b0 (fun h9 cl b1=>?_)
 refine Vs 1<|Nss ?_
 obtain ⟨h0,b2,b3⟩:=bS h
 refine RD 11 11 [(sb h9 #[(sv (([]:YL))),(sv (([]:YL))),(sv (([]:YL))),(sv (([]:YL)))] 186)] [] b1 (fun f w=>∃ (F1:Mem) (hf:Nat),HS w0 F0 w F1 [(sb hf #[(sv h0.2.1),(sv h0.2.2.1),(sv h0.2.2.2.1),(sv h0.2.2.2.2)] 186),(sb h9 #[(sv (([]:YL))),(sv (([]:YL))),(sv (([]:YL))),(sv (([]:YL)))] 186)]/\Yr F0 F1/\FI f [] [(0,(sL hh x0 h8)),(3,(pt h9 0)),(5,(pt hf 0)),(6,(.bool h0.1))]) (fun b4 hk=>?_) ?_
 ·refine Dl 0 (fun _ hq=>(hq.1.1 _ _ hz)) ?_
  refine Dv [1] ?_
  obtain ⟨ha,b5,ht⟩:=bS b2
  obtain ⟨b6,hx39'⟩:=Ah b5
  obtain ⟨cm,cn,co,cp,cq,rfl,hF48,hE49⟩:=Yz ho hx39'
  have b7:=hE49 _ _ hx39'
  refine Di 2 b6<|Dx 3 0 (fun _ hq=>hq.1.1 _ _ hF48) b7<|YA (i:=4) (j:=8) (by kernel_rfl) ?_ ?_
  ·obtain ⟨b8,b9,ba⟩:=bS ht
   refine YD (l':=[true,true,true,true,true,false,false,false,false,false,false]) (zd:=true) (by kernel_rfl) (by kernel_rfl) (by kernel_rfl) (dst:=(some 12)) (ty:=187) (g:=none) (by kernel_rfl) rfl (f0:=(.tmp 8)) (aos:=#[(.tmp 11)]) (ats:=#[9]) (fid:=hd) (first:=h5.toArray) (cap:=h6.toArray) (args:=(h5++(([(sv ha)]:List Value)++h6))) rfl hr (E9 (l:=[(sv ha)]) (fi:=h5) (k:=h6) rfl) hk (hs b4 F0 ha _ (Ys _) hk.pers b9) ?_
   rintro _ F2 cr bb hl rfl
   refine Dv [5,6,7]<|D1 8<|DAl 186 #[(sv (([]:YL))),(sv (([]:YL))),(sv (([]:YL))),(sv (([]:YL)))] bb hl (fun bc ct bd=>?_)
   refine D1 9<|Em (Dq b8.1) bd hl (fun cu be=>?_)
   refine Dv [10] ?_
   obtain rfl:=Aa ba
   exact YE (by kernel_rfl) ⟨F2,bc,be,hl,fI⟩
  ·refine DAl 186 #[(sv (([]:YL))),(sv (([]:YL))),(sv (([]:YL))),(sv (([]:YL)))] hk (Ys _) (fun bf bg hu=>?_)
   refine D1 4 ?_
   obtain ⟨bh,bi,bj⟩:=bS ht
   refine YD (l':=[true,true,true,true,true,false,false,false,true,false,false]) (zd:=true) (by kernel_rfl) (by kernel_rfl) (by kernel_rfl) (dst:=(some 12)) (ty:=187) (g:=none) (by kernel_rfl) rfl (f0:=(.tmp 8)) (aos:=#[(.tmp 11)]) (ats:=#[9]) (fid:=hd) (first:=h5.toArray) (cap:=h6.toArray) (args:=(h5++(([(sv ha)]:List Value)++h6))) rfl hr (E9 (l:=[(sv ha)]) (fi:=h5) (k:=h6) rfl) hu (hs bg F0 ha _ (Ys _) hu.pers bi) ?_
   rintro _ F3 cv bk hv rfl
   refine Dv [5,6,7]<|D1 9<|Em (Dq bh.1) bk hv (fun cw bl=>?_)
   refine Dv [10] ?_
   obtain rfl:=Aa bj
   exact YE (by kernel_rfl) ⟨F3,bf,bl,hv,fI⟩
 ·rintro f cx ⟨F1,hf,hw,bm,⟨_,rfl⟩⟩
  refine Ab<|Sq (Rg (rG 5) ?_)
  refine Vs 1 ?_
  obtain ⟨he,bn,bo⟩:=bS b3
  obtain ⟨bp,hx79'⟩:=Ah bn
  obtain ⟨h3,h4,cy,cz,d0,rfl,hF88,hE89⟩:=Yz (Yu ho bm) hx79'
  have bq:=hE89 _ _ hx79'
  refine Ix bp<|Lx 0 (hw.pers _ _ hF88) bq<|Vs 1<|St0 #[(sv he),(sv h0.2.2.1),(sv h0.2.2.2.1),(sv h0.2.2.2.2)] hw (fun d1 br=>?_)
  refine Nss ?_
  obtain ⟨h1,bs,bt⟩:=bS bo
  refine RD 21 21 [(sb hf #[(sv he),(sv h0.2.2.1),(sv h0.2.2.2.1),(sv h0.2.2.2.2)] 186)] [] br (fun f w=>∃ (F4:Mem),HS w0 F0 w F4 [(sb h9 #[(sv h1.2.1),(sv h1.2.2.1),(sv h1.2.2.2.1),(sv h1.2.2.2.2)] 186)]/\Yr F1 F4/\FI f [] [(3,(pt h9 0)),(4,(.bool h1.1))]) (fun bu hm=>?_) ?_
  ·refine Dl 0 (fun _ hq=>(hq.1.2 0 _ _ rfl)) ?_
   refine Dvl [1,2] (tf 3 18)<|Sd bs (fun h7 bv=>?_) (fun h7 bw=>?_)
   ·refine Dgl 3 22 55 _ (tf 4 17) 2 true 21 h7 (fun _ hq=>mv 0 (.slice (some ⟨h3,h4,none⟩) x0.length h8)) ?_
    obtain ⟨hn,bx,bz⟩:=bS bv
    obtain ⟨c0,hx109'⟩:=Ah bx
    have c1:=hE89 _ _ hx109'
    refine Dgl 4 23 0 (.pointer (some ⟨h3,(h4 + (0:Int).toNat * 1),none⟩)) (tf 5 16) 2 true 21 h7 (fun _ hq=>B2 (t:=55) (x:=(.tmp 22)) (y:=(.const (vi 0))) (b:=h3) (o:=h4) (E:=9) (s:=1) (by_:=16) rfl rfl (by kernel_rfl) c0)<|Dgl 5 24 9 _ (tf 6 15) 2 true 21 h7 (fun _ hq=>lx 9 23 0 1 false 1 (sv hn) (hq.1.1 _ _ hF88) c1)<|D1 6 ?_
    obtain ⟨c3,c4,c5⟩:=bS bz
    refine YD (l':=[true,true,true,true,true,true,true,false,false,false,false,false,false,false,false,false,false,false,false,false,false]) (zd:=true) (by kernel_rfl) (by kernel_rfl) (by kernel_rfl) (dst:=(some 25)) (ty:=4) (g:=(some (2,true))) (by kernel_rfl) (IY (d:=21) (by kernel_rfl) rfl h7) (f0:=(.func 225)) (aos:=#[(.tmp 24)]) (ats:=#[9]) (fid:=225) (first:=#[]) (cap:=#[]) (args:=[(sv hn)]) rfl J6 rfl hm (LJ N bu F1 hm.pers hn _ c4) ?_
    rintro _ F5 d2 hx hg rfl
    refine Dtl 7 26 4 _ (tf 8 13) (fun _ hq=>p1 21 (.tmp 25) (.const (.bool false)) (.bool c3) h7)<|Dvl [8] (tf 9 12)<|Sd c5 (fun h2 c6=>?_) (fun h2 c7=>?_)
    ·refine Dgl 9 28 55 _ (tf 10 11) 8 true 27 h2 (fun _ hq=>mv 0 (.slice (some ⟨h3,h4,none⟩) x0.length h8)) ?_
     obtain ⟨hb,c8,c9⟩:=bS c6
     obtain ⟨ca,hx126'⟩:=Ah c8
     have cb:=hE89 _ _ hx126'
     refine Dgl 10 29 0 (.pointer (some ⟨h3,(h4 + (0:Int).toNat * 1),none⟩)) (tf 11 10) 8 true 27 h2 (fun _ hq=>B2 (t:=55) (x:=(.tmp 28)) (y:=(.const (vi 0))) (b:=h3) (o:=h4) (E:=9) (s:=1) (by_:=16) rfl rfl (by kernel_rfl) ca)<|Dgl 11 30 9 _ (tf 12 9) 8 true 27 h2 (fun _ hq=>lx 9 29 0 1 false 1 (sv hb) (hq.1.1 _ _ hF88) cb)<|Dgl 12 31 3 (vi (hb.length:Int)) (tf 13 8) 8 true 27 h2 (fun _ hq=>Ia (x:=(.tmp 30)) (ats:=#[9]) (t:=9) (a:=hb) rfl rfl (by kernel_rfl))<|Dgl 13 32 55 _ (tf 14 7) 8 true 27 h2 (fun _ hq=>mv 0 (.slice (some ⟨h3,h4,none⟩) x0.length h8)) ?_
     obtain ⟨hc,cc,cd⟩:=bS c9
     obtain ⟨ce,hx132'⟩:=Ah cc
     have cf:=hE89 _ _ hx132'
     refine Dgl 14 33 0 (.pointer (some ⟨h3,(h4 + (1:Int).toNat * 1),none⟩)) (tf 15 6) 8 true 27 h2 (fun _ hq=>B2 (t:=55) (x:=(.tmp 32)) (y:=(.const (vi 1))) (b:=h3) (o:=h4) (E:=9) (s:=1) (by_:=16) rfl rfl (by kernel_rfl) ce)<|Dgl 15 34 9 _ (tf 16 5) 8 true 27 h2 (fun _ hq=>lx 9 33 0 1 false 1 (sv hc) (hq.1.1 _ _ hF88) cf)<|Dgl 16 35 3 (vi (hc.length:Int)) (tf 17 4) 8 true 27 h2 (fun _ hq=>Ia (x:=(.tmp 34)) (ats:=#[9]) (t:=9) (a:=hc) rfl rfl (by kernel_rfl))<|Dgl 17 36 4 (.bool (decide ((hb.length:Int) < (hc.length:Int)))) (tf 18 3) 8 true 27 h2 (fun _ hq=>Kn (t:=3) (t':=3) (x:=(.tmp 31)) (y:=(.tmp 35)) (k:=.i64) (a:=(hb.length:Int)) (b:=(hc.length:Int)) rfl rfl)<|Dtl 18 37 4 _ (tf 19 2) (fun _ hq=>p1 27 (.tmp 36) (.const (.bool false)) (.bool (decide ((hb.length:Int) < (hc.length:Int)))) h2)<|D1 19<|Ob #[(sv he),(sv h0.2.2.1),(sv h0.2.2.2.1),(sv h0.2.2.2.2)] hx hg (fun d3 cg=>?_)
     refine Dvl [20] (tf 21 0) ?_
     obtain rfl:=Aa cd
     exact YE (by kernel_rfl) ⟨F5,cg.dr0,hg,fI⟩
    ·refine Dkl [(9,28),(10,29),(11,30),(12,31),(13,32),(14,33)] 8 true 27 h2 (tf 15 6) ?_
     refine Dkl [(15,34),(16,35),(17,36)] 8 true 27 h2 (tf 18 3)<|Dtl 18 37 4 _ (tf 19 2) (fun _ hq=>p0 27 (.tmp 36) (.const (.bool false)) (.bool false) h2)<|D1 19<|Ob #[(sv he),(sv h0.2.2.1),(sv h0.2.2.2.1),(sv h0.2.2.2.2)] hx hg (fun d4 ch=>?_)
     refine Dvl [20] (tf 21 0) ?_
     obtain rfl:=Aa c7
     exact YE (by kernel_rfl) ⟨F5,ch.dr0,hg,fI⟩
   ·refine Dkl [(3,22),(4,23),(5,24),(6,25)] 2 true 21 h7 (tf 7 14) ?_
    refine Dtl 7 26 4 _ (tf 8 13) (fun _ hq=>p0 21 (.tmp 25) (.const (.bool false)) (.bool false) h7)<|Dvl [8] (tf 9 12)<|Dkl [(9,28),(10,29),(11,30),(12,31),(13,32),(14,33)] 8 true 27 rfl (tf 15 6)<|Dkl [(15,34),(16,35),(17,36)] 8 true 27 rfl (tf 18 3)<|Dtl 18 37 4 _ (tf 19 2) (fun _ hq=>p0 27 (.tmp 36) (.const (.bool false)) (.bool false) rfl)<|D1 19<|Ob #[(sv he),(sv h0.2.2.1),(sv h0.2.2.2.1),(sv h0.2.2.2.2)] hm (Ys _) (fun d6 ci=>?_)
    refine Dvl [20] (tf 21 0) ?_
    obtain rfl:=Aa bw
    exact YE (by kernel_rfl) ⟨F1,ci.dr0,(Ys _),fI⟩
  ·rintro f d7 ⟨F4,hy,d8,⟨_,rfl⟩⟩
   refine Ab<|Rt ?_
   obtain rfl:=Aa bt
   exact ⟨rfl,(.tuple #[(.agg #[(sv h1.2.1),(sv h1.2.2.1),(sv h1.2.2.2.1),(sv h1.2.2.2.2)]),(.bool h1.1)]),AJ (l:=[.cell 3 186,.tmp 4]) (by kernel_rfl) (vs:=[(.agg #[(sv h1.2.1),(sv h1.2.2.1),(sv h1.2.2.2.1),(sv h1.2.2.2.2)]),(.bool h1.1)]) ⟨h9,0,rfl,Ai (t:=186) (g:=true) (s:=4) (by kernel_rfl) hy.at0 rfl (by decide),⟨rfl,trivial⟩⟩,(.tuple #[(.agg #[(sv h1.2.1),(sv h1.2.2.1),(sv h1.2.2.2.1),(sv h1.2.2.2.2)]),(.bool h1.1)]),F4,rfl,hy.clear,rfl⟩
def E1 (N:Nat) (x0:YL):Option Bool:=
 (((GD N x0 4 (fun y0=>Cc N y0)).bind fun h0=>(bif h0 then some true else ((GD N x0 1 (fun y0=>BF N y0)).bind fun h1=>some h1))).bind fun h2=>some h2)
theorem K4:Af Tryz.prog 227:=fun _ _=>by kernel_rfl
theorem My (N:Nat) (w0:World) (F0:Mem) (hF:YN w0 F0) (x0:YL) (r:Bool) (h:E1 N x0=some r):
  Calls Tryz.prog 227 ([(sv x0)]:List Value).toArray w0 (AC w0 F0 fun F' v=>v=(.bool r)):=by
 have h4:=Yt hF
 refine Go 9 Tryz.func227<|Sq (Rg [0] ?_)
 refine Vs 1<|Nss (Rg (rG 7) ?_)
 obtain ⟨h5,h7,h8⟩:=bS h
 refine Yx (fun f w=>∃ (F1:Mem),HS w0 F0 w F1 []/\Yr F0 F1/\FI f [] [(2,(.bool h5))]) ?_ ?_
 ·refine Vs 1 ?_
  obtain ⟨hm,h9,ha⟩:=bS h7
  refine Cl' Gy h4 (Hm N w0 F0 h4.pers x0 4 264 [] [] (fun y0=>Cc N y0) Gi (fun w1 F1 y0 r hb h1 h2=>GW N w1 F1 h1 y0 r h2) _ h9) ?_
  rintro _ F2 hc h3 h6 rfl
  refine Vs 1<|Sp ha (fun h0 hd=>?_) (fun h0 he=>?_)
  ·refine Ss h0 2 ?_
   refine Pk1 h0<|Vs 1 ?_
   obtain rfl:=Aa hd
   exact Yn ⟨rfl,F2,h3,h6,fI⟩
  ·refine Vgs h0 1 ?_
   obtain ⟨hn,hf,hg⟩:=bS he
   refine Cg h0 Gy h3 (Hm N hc F2 h3.pers x0 1 199 [] [] (fun y0=>BF N y0) GS (fun w1 F1 y0 r hb h1 h2=>HP N w1 F1 h1 y0 r h2) _ hf) ?_
   rintro _ F3 ho hh hk rfl
   refine Pk0 h0<|Vs 1 ?_
   obtain rfl:=Aa hg
   exact Yn ⟨rfl,F3,hh,(h6.t hk),fI⟩
 ·rintro f hp ⟨F1,hl,hq,⟨_,rfl⟩⟩
  refine Ab<|Rt ?_
  obtain rfl:=Aa h8
  exact Re [(.bool h5)] hl rfl
def Ei (N:Nat) (x0:(List YL)) (z0:(YL->Option (BC×Bool))):Option (BC×Bool):=
 (((idx x0 0).bind fun h4=>((z0 h4).bind fun h1=>some (h1.2,h1.1.Area,h1.1.Prefix,h1.1.Suffix,h1.1.Stroke))).bind fun h0=>((idx x0 1).bind fun h3=>((bif h0.1 then ((idx x0 1).bind fun h5=>((E1 N h5).bind fun h6=>some (h6,h0.2.1,h0.2.2.1,h0.2.2.2.1,h3))) else some (false,h0.2.1,h0.2.2.1,h0.2.2.2.1,h3)).bind fun h2=>some (({Area:=h2.2.1,Prefix:=h2.2.2.1,Suffix:=h2.2.2.2.1,Stroke:=h2.2.2.2.2}:BC),h2.1))))
theorem Pl:Af Tryz.prog 226:=fun _ _=>by kernel_rfl
theorem P3 (N:Nat) (w0:World) (F0:Mem) (hF:YN w0 F0) (x0:(List YL)) (hb:YM) (h8:Nat) (c5:LC x0.length h8) (hk:SlA AF F0 hb x0) (hl:Nat) (z0:(YL->Option (BC×Bool))) (h7:FuncId) (h2 h3:List Value) (hm:Af Tryz.prog h7) (hn:Kl F0 h7 h2 h3 z0) (hv:F0 hl=some (oc #[(.func (.func h7) h2.toArray h3.toArray)] 188)) (r:(BC×Bool)) (h:Ei N x0 z0=some r):
  Calls Tryz.prog 226 ([(sL hb x0 h8),(pt hl 0)]:List Value).toArray w0 (AC w0 F0 fun F' v=>v=(.tuple #[(.agg (Dq r.1)),(.bool r.2)])):=by
 have hw:=Yt hF
 refine Go 27 Tryz.func226<|Sq (Rg [0,1] ?_)
 refine Al' 186 #[(sv (([]:YL))),(sv (([]:YL))),(sv (([]:YL))),(sv (([]:YL)))] hw (fun h5 c6 hx=>?_)
 refine Vs 1<|Nss ?_
 obtain ⟨h1,hy,hz⟩:=bS h
 refine RD 11 11 [(sb h5 #[(sv (([]:YL))),(sv (([]:YL))),(sv (([]:YL))),(sv (([]:YL)))] 186)] [] hx (fun f w=>∃ (F1:Mem) (h9:Nat),HS w0 F0 w F1 [(sb h9 #[(sv h1.2.1),(sv h1.2.2.1),(sv h1.2.2.2.1),(sv h1.2.2.2.2)] 186),(sb h5 #[(sv (([]:YL))),(sv (([]:YL))),(sv (([]:YL))),(sv (([]:YL)))] 186)]/\Yr F0 F1/\FI f [] [(0,(sL hb x0 h8)),(3,(pt h5 0)),(5,(pt h9 0)),(6,(.bool h1.1))]) (fun b0 hc=>?_) ?_
 ·refine Dl 0 (fun _ hq=>(hq.1.1 _ _ hv)) ?_
  refine Dv [1] ?_
  obtain ⟨h6,b1,ho⟩:=bS hy
  obtain ⟨b2,hx39'⟩:=Ah b1
  obtain ⟨c7,c8,c9,ca,cb,rfl,hF48,hE49⟩:=Yz hk hx39'
  have b3:=hE49 _ _ hx39'
  refine Di 2 b2<|Dx 3 0 (fun _ hq=>hq.1.1 _ _ hF48) b3<|YA (i:=4) (j:=8) (by kernel_rfl) ?_ ?_
  ·obtain ⟨b4,b5,b6⟩:=bS ho
   refine YD (l':=[true,true,true,true,true,false,false,false,false,false,false]) (zd:=true) (by kernel_rfl) (by kernel_rfl) (by kernel_rfl) (dst:=(some 12)) (ty:=187) (g:=none) (by kernel_rfl) rfl (f0:=(.tmp 8)) (aos:=#[(.tmp 11)]) (ats:=#[9]) (fid:=h7) (first:=h2.toArray) (cap:=h3.toArray) (args:=(h2++(([(sv h6)]:List Value)++h3))) rfl hm (E9 (l:=[(sv h6)]) (fi:=h2) (k:=h3) rfl) hc (hn b0 F0 h6 _ (Ys _) hc.pers b5) ?_
   rintro _ F2 cc b7 hd rfl
   refine Dv [5,6,7]<|D1 8<|DAl 186 #[(sv (([]:YL))),(sv (([]:YL))),(sv (([]:YL))),(sv (([]:YL)))] b7 hd (fun b8 cd b9=>?_)
   refine D1 9<|Em (Dq b4.1) b9 hd (fun ce ba=>?_)
   refine Dv [10] ?_
   obtain rfl:=Aa b6
   exact YE (by kernel_rfl) ⟨F2,b8,ba,hd,fI⟩
  ·refine DAl 186 #[(sv (([]:YL))),(sv (([]:YL))),(sv (([]:YL))),(sv (([]:YL)))] hc (Ys _) (fun bb bc hp=>?_)
   refine D1 4 ?_
   obtain ⟨bd,be,bf⟩:=bS ho
   refine YD (l':=[true,true,true,true,true,false,false,false,true,false,false]) (zd:=true) (by kernel_rfl) (by kernel_rfl) (by kernel_rfl) (dst:=(some 12)) (ty:=187) (g:=none) (by kernel_rfl) rfl (f0:=(.tmp 8)) (aos:=#[(.tmp 11)]) (ats:=#[9]) (fid:=h7) (first:=h2.toArray) (cap:=h3.toArray) (args:=(h2++(([(sv h6)]:List Value)++h3))) rfl hm (E9 (l:=[(sv h6)]) (fi:=h2) (k:=h3) rfl) hp (hn bc F0 h6 _ (Ys _) hp.pers be) ?_
   rintro _ F3 cf bg hr rfl
   refine Dv [5,6,7]<|D1 9<|Em (Dq bd.1) bg hr (fun cg bh=>?_)
   refine Dv [10] ?_
   obtain rfl:=Aa bf
   exact YE (by kernel_rfl) ⟨F3,bb,bh,hr,fI⟩
 ·rintro f ch ⟨F1,h9,hs,bi,⟨_,rfl⟩⟩
  refine Ab<|Sq (Rg (rG 5) ?_)
  refine Vs 1 ?_
  obtain ⟨ha,bj,bk⟩:=bS hz
  obtain ⟨bl,hx79'⟩:=Ah bj
  obtain ⟨he,hf,ci,cj,cl,rfl,hF88,hE89⟩:=Yz (Yu hk bi) hx79'
  have bm:=hE89 _ _ hx79'
  refine Ix bl<|Lx 0 (hs.pers _ _ hF88) bm<|Vs 1<|St0 #[(sv h1.2.1),(sv h1.2.2.1),(sv h1.2.2.2.1),(sv ha)] hs (fun cm bn=>?_)
  refine Nss ?_
  obtain ⟨h0,bo,bp⟩:=bS bk
  refine RD 10 10 [(sb h9 #[(sv h1.2.1),(sv h1.2.2.1),(sv h1.2.2.2.1),(sv ha)] 186)] [] bn (fun f w=>∃ (F4:Mem),HS w0 F0 w F4 [(sb h5 #[(sv h0.2.1),(sv h0.2.2.1),(sv h0.2.2.2.1),(sv h0.2.2.2.2)] 186)]/\Yr F1 F4/\FI f [] [(3,(pt h5 0)),(4,(.bool h0.1))]) (fun bq hg=>?_) ?_
  ·refine Dl 0 (fun _ hq=>(hq.1.2 0 _ _ rfl)) ?_
   refine Dv [1,2]<|Sd bo (fun h4 br=>?_) (fun h4 bs=>?_)
   ·refine Dg 3 22 55 _ 2 true 21 h4 (fun _ hq=>mv 0 (.slice (some ⟨he,hf,none⟩) x0.length h8)) ?_
    obtain ⟨hh,bt,bu⟩:=bS br
    obtain ⟨bv,hx109'⟩:=Ah bt
    have bw:=hE89 _ _ hx109'
    refine Dg 4 23 0 (.pointer (some ⟨he,(hf + (1:Int).toNat * 1),none⟩)) 2 true 21 h4 (fun _ hq=>B2 (t:=55) (x:=(.tmp 22)) (y:=(.const (vi 1))) (b:=he) (o:=hf) (E:=9) (s:=1) (by_:=16) rfl rfl (by kernel_rfl) bv)<|Dg 5 24 9 _ 2 true 21 h4 (fun _ hq=>lx 9 23 0 1 false 1 (sv hh) (hq.1.1 _ _ hF88) bw)<|D1 6 ?_
    obtain ⟨bx,bz,c0⟩:=bS bu
    refine YD (l':=[true,true,true,true,true,true,true,false,false,false]) (zd:=true) (by kernel_rfl) (by kernel_rfl) (by kernel_rfl) (dst:=(some 25)) (ty:=4) (g:=(some (2,true))) (by kernel_rfl) (IY (d:=21) (by kernel_rfl) rfl h4) (f0:=(.func 227)) (aos:=#[(.tmp 24)]) (ats:=#[9]) (fid:=227) (first:=#[]) (cap:=#[]) (args:=[(sv hh)]) rfl K4 rfl hg (My N bq F1 hg.pers hh _ bz) ?_
    rintro _ F5 cn c1 ht rfl
    refine Dt 7 26 4 _ (fun _ hq=>p1 21 (.tmp 25) (.const (.bool false)) (.bool bx) h4)<|D1 8<|Ob #[(sv h1.2.1),(sv h1.2.2.1),(sv h1.2.2.2.1),(sv ha)] c1 ht (fun co c3=>?_)
    refine Dv [9] ?_
    obtain rfl:=Aa c0
    exact YE (by kernel_rfl) ⟨F5,c3.dr0,ht,fI⟩
   ·refine Dk [(3,22),(4,23),(5,24),(6,25)] 2 true 21 h4 ?_
    refine Dt 7 26 4 _ (fun _ hq=>p0 21 (.tmp 25) (.const (.bool false)) (.bool false) h4)<|D1 8<|Ob #[(sv h1.2.1),(sv h1.2.2.1),(sv h1.2.2.2.1),(sv ha)] hg (Ys _) (fun cp c4=>?_)
    refine Dv [9] ?_
    obtain rfl:=Aa bs
    exact YE (by kernel_rfl) ⟨F1,c4.dr0,(Ys _),fI⟩
  ·rintro f cq ⟨F4,hu,cr,⟨_,rfl⟩⟩
   refine Ab<|Rt ?_
   obtain rfl:=Aa bp
   exact ⟨rfl,(.tuple #[(.agg #[(sv h0.2.1),(sv h0.2.2.1),(sv h0.2.2.2.1),(sv h0.2.2.2.2)]),(.bool h0.1)]),AJ (l:=[.cell 3 186,.tmp 4]) (by kernel_rfl) (vs:=[(.agg #[(sv h0.2.1),(sv h0.2.2.1),(sv h0.2.2.2.1),(sv h0.2.2.2.2)]),(.bool h0.1)]) ⟨h5,0,rfl,Ai (t:=186) (g:=true) (s:=4) (by kernel_rfl) hu.at0 rfl (by decide),⟨rfl,trivial⟩⟩,(.tuple #[(.agg #[(sv h0.2.1),(sv h0.2.2.1),(sv h0.2.2.2.1),(sv h0.2.2.2.2)]),(.bool h0.1)]),F4,rfl,hu.clear,rfl⟩
def Eh (N:Nat) (x0:(List YL)) (z0:(YL->Option (BC×Bool))):Option (BC×Bool):=
 (((idx x0 1).bind fun h4=>((z0 h4).bind fun h2=>some (h2.2,h2.1.Area,h2.1.Prefix,h2.1.Suffix,h2.1.Stroke))).bind fun h0=>(((idx x0 0).bind fun h5=>((idx x0 2).bind fun h6=>some (h5,h6))).bind fun h1=>((bif h0.1 then ((idx x0 0).bind fun h7=>((GE N h7).bind fun h8=>(bif h8 then ((idx x0 2).bind fun h9=>((E1 N h9).bind fun ha=>some (ha,h1.1,h0.2.2.1,h0.2.2.2.1,h1.2))) else some (false,h1.1,h0.2.2.1,h0.2.2.2.1,h1.2)))) else some (false,h1.1,h0.2.2.1,h0.2.2.2.1,h1.2)).bind fun h3=>some (({Area:=h3.2.1,Prefix:=h3.2.2.1,Suffix:=h3.2.2.2.1,Stroke:=h3.2.2.2.2}:BC),h3.1))))
theorem Pk:Af Tryz.prog 228:=fun _ _=>by kernel_rfl
theorem P2 (N:Nat) (w0:World) (F0:Mem) (hF:YN w0 F0) (x0:(List YL)) (hb:YM) (h8:Nat) (cy:LC x0.length h8) (hg:SlA AF F0 hb x0) (hp:Nat) (z0:(YL->Option (BC×Bool))) (hc:FuncId) (h4 h5:List Value) (hr:Af Tryz.prog hc) (hs:Kl F0 hc h4 h5 z0) (b0:F0 hp=some (oc #[(.func (.func hc) h4.toArray h5.toArray)] 188)) (r:(BC×Bool)) (h:Eh N x0 z0=some r):
  Calls Tryz.prog 228 ([(sL hb x0 h8),(pt hp 0)]:List Value).toArray w0 (AC w0 F0 fun F' v=>v=(.tuple #[(.agg (Dq r.1)),(.bool r.2)])):=by
 have b1:=Yt hF
 refine Go 37 Tryz.func228<|Sq (Rg [0,1] ?_)
 refine Al' 186 #[(sv (([]:YL))),(sv (([]:YL))),(sv (([]:YL))),(sv (([]:YL)))] b1 (fun h3 cz b2=>?_)
 refine Vs 1<|Nss ?_
 obtain ⟨h0,b3,b4⟩:=bS h
 refine RD 11 11 [(sb h3 #[(sv (([]:YL))),(sv (([]:YL))),(sv (([]:YL))),(sv (([]:YL)))] 186)] [] b2 (fun f w=>∃ (F1:Mem) (h9:Nat),HS w0 F0 w F1 [(sb h9 #[(sv h0.2.1),(sv h0.2.2.1),(sv h0.2.2.2.1),(sv h0.2.2.2.2)] 186),(sb h3 #[(sv (([]:YL))),(sv (([]:YL))),(sv (([]:YL))),(sv (([]:YL)))] 186)]/\Yr F0 F1/\FI f [] [(0,(sL hb x0 h8)),(3,(pt h3 0)),(5,(pt h9 0)),(6,(.bool h0.1))]) (fun b5 hh=>?_) ?_
 ·refine Dl 0 (fun _ hq=>(hq.1.1 _ _ b0)) ?_
  refine Dv [1] ?_
  obtain ⟨ha,b6,ht⟩:=bS b3
  obtain ⟨b7,hx39'⟩:=Ah b6
  obtain ⟨d0,d1,d2,d3,d4,rfl,hF48,hE49⟩:=Yz hg hx39'
  have b8:=hE49 _ _ hx39'
  refine Di 2 b7<|Dx 3 0 (fun _ hq=>hq.1.1 _ _ hF48) b8<|YA (i:=4) (j:=8) (by kernel_rfl) ?_ ?_
  ·obtain ⟨b9,ba,bb⟩:=bS ht
   refine YD (l':=[true,true,true,true,true,false,false,false,false,false,false]) (zd:=true) (by kernel_rfl) (by kernel_rfl) (by kernel_rfl) (dst:=(some 12)) (ty:=187) (g:=none) (by kernel_rfl) rfl (f0:=(.tmp 8)) (aos:=#[(.tmp 11)]) (ats:=#[9]) (fid:=hc) (first:=h4.toArray) (cap:=h5.toArray) (args:=(h4++(([(sv ha)]:List Value)++h5))) rfl hr (E9 (l:=[(sv ha)]) (fi:=h4) (k:=h5) rfl) hh (hs b5 F0 ha _ (Ys _) hh.pers ba) ?_
   rintro _ F2 d6 bc hk rfl
   refine Dv [5,6,7]<|D1 8<|DAl 186 #[(sv (([]:YL))),(sv (([]:YL))),(sv (([]:YL))),(sv (([]:YL)))] bc hk (fun bd d7 be=>?_)
   refine D1 9<|Em (Dq b9.1) be hk (fun d8 bf=>?_)
   refine Dv [10] ?_
   obtain rfl:=Aa bb
   exact YE (by kernel_rfl) ⟨F2,bd,bf,hk,fI⟩
  ·refine DAl 186 #[(sv (([]:YL))),(sv (([]:YL))),(sv (([]:YL))),(sv (([]:YL)))] hh (Ys _) (fun bg bh hu=>?_)
   refine D1 4 ?_
   obtain ⟨bi,bj,bk⟩:=bS ht
   refine YD (l':=[true,true,true,true,true,false,false,false,true,false,false]) (zd:=true) (by kernel_rfl) (by kernel_rfl) (by kernel_rfl) (dst:=(some 12)) (ty:=187) (g:=none) (by kernel_rfl) rfl (f0:=(.tmp 8)) (aos:=#[(.tmp 11)]) (ats:=#[9]) (fid:=hc) (first:=h4.toArray) (cap:=h5.toArray) (args:=(h4++(([(sv ha)]:List Value)++h5))) rfl hr (E9 (l:=[(sv ha)]) (fi:=h4) (k:=h5) rfl) hu (hs bh F0 ha _ (Ys _) hu.pers bj) ?_
   rintro _ F3 d9 bl hv rfl
   refine Dv [5,6,7]<|D1 9<|Em (Dq bi.1) bl hv (fun da bm=>?_)
   refine Dv [10] ?_
   obtain rfl:=Aa bk
   exact YE (by kernel_rfl) ⟨F3,bg,bm,hv,fI⟩
 ·rintro f db ⟨F1,h9,bn,hw,⟨_,rfl⟩⟩
  refine Ab<|Sq ?_
  obtain ⟨h2,bo,bp⟩:=bS b4
  refine RD 9 10 [(sb h3 #[(sv (([]:YL))),(sv (([]:YL))),(sv (([]:YL))),(sv (([]:YL)))] 186)] [] bn (fun f w=>∃ (F4:Mem),HS w0 F0 w F4 [(sb h9 #[(sv h2.1),(sv h0.2.2.1),(sv h0.2.2.2.1),(sv h2.2)] 186),(sb h3 #[(sv (([]:YL))),(sv (([]:YL))),(sv (([]:YL))),(sv (([]:YL)))] 186)]/\Yr F1 F4/\FI f [] [(0,(sL hb x0 h8)),(3,(pt h3 0)),(5,(pt h9 0)),(6,(.bool h0.1))]) (fun dc bq=>?_) ?_
  ·refine Dv [0] ?_
   obtain ⟨hx,br,bs⟩:=bS bo
   obtain ⟨bt,hx92'⟩:=Ah br
   obtain ⟨dd,de,df,dg,dh,rfl,hF101,hE102⟩:=Yz (Yu hg hw) hx92'
   have bu:=hE102 _ _ hx92'
   refine Di 1 bt<|Dx 2 0 (fun _ hq=>hq.1.1 _ _ hF101) bu<|Dv [3] ?_
   obtain ⟨bv,bw,bx⟩:=bS bs
   obtain ⟨bz,hx106'⟩:=Ah bw
   have c0:=hE102 _ _ hx106'
   refine Di 4 bz<|Dx 5 0 (fun _ hq=>hq.1.1 _ _ hF101) c0<|Dv [6]<|D1 7<|Em #[(sv hx),(sv h0.2.2.1),(sv h0.2.2.2.1),(sv h0.2.2.2.2)] bq (Ys _) (fun di c1=>?_)
   refine Dv [8]<|D1 9<|Em #[(sv hx),(sv h0.2.2.1),(sv h0.2.2.2.1),(sv bv)] c1 (Ys _) (fun dj c3=>?_)
   obtain rfl:=Aa bx
   exact YE (by kernel_rfl) ⟨F1,c3,(Ys _),fI⟩
  ·rintro f dk ⟨F4,c4,c5,⟨_,rfl⟩⟩
   refine Ab<|Sq ?_
   obtain ⟨h1,c6,c7⟩:=bS bp
   refine RD 16 16 [(sb h9 #[(sv h2.1),(sv h0.2.2.1),(sv h0.2.2.2.1),(sv h2.2)] 186)] [] c4 (fun f w=>∃ (F5:Mem),HS w0 F0 w F5 [(sb h3 #[(sv h1.2.1),(sv h1.2.2.1),(sv h1.2.2.2.1),(sv h1.2.2.2.2)] 186)]/\Yr F4 F5/\FI f [] [(3,(pt h3 0)),(4,(.bool h1.1))]) (fun c8 hl=>?_) ?_
   ·refine Dl 0 (fun _ hq=>(hq.1.2 0 _ _ rfl)) ?_
    refine Dv [1,2]<|Sd c6 (fun h6 c9=>?_) (fun h6 ca=>?_)
    ·refine Dg 3 26 55 _ 2 true 25 h6 (fun _ hq=>mv 0 (sL hb x0 h8)) ?_
     obtain ⟨hm,cb,cc⟩:=bS c9
     obtain ⟨cd,hx130'⟩:=Ah cb
     obtain ⟨hd,he,dl,dm,dn,rfl,hF139,hE140⟩:=Yz (Yu hg (hw.t c5)) hx130'
     have ce:=hE140 _ _ hx130'
     refine Dg 4 27 0 (.pointer (some ⟨hd,(he + (0:Int).toNat * 1),none⟩)) 2 true 25 h6 (fun _ hq=>B2 (t:=55) (x:=(.tmp 26)) (y:=(.const (vi 0))) (b:=hd) (o:=he) (E:=9) (s:=1) (by_:=16) rfl rfl (by kernel_rfl) cd)<|Dg 5 28 9 _ 2 true 25 h6 (fun _ hq=>lx 9 27 0 1 false 1 (sv hm) (hq.1.1 _ _ hF139) ce)<|D1 6 ?_
     obtain ⟨cf,cg,ch⟩:=bS cc
     refine YD (l':=[true,true,true,true,true,true,true,false,false,false,false,false,false,false,false,false]) (zd:=true) (by kernel_rfl) (by kernel_rfl) (by kernel_rfl) (dst:=(some 29)) (ty:=4) (g:=(some (2,true))) (by kernel_rfl) (IY (d:=25) (by kernel_rfl) rfl h6) (f0:=(.func 225)) (aos:=#[(.tmp 28)]) (ats:=#[9]) (fid:=225) (first:=#[]) (cap:=#[]) (args:=[(sv hm)]) rfl J6 rfl hl (LJ N c8 F4 hl.pers hm _ cg) ?_
     rintro _ F6 ci hn hf rfl
     refine Dt 7 30 4 _ (fun _ hq=>p1 25 (.tmp 29) (.const (.bool false)) (.bool cf) h6)<|Dv [8]<|Sd ch (fun h7 cj=>?_) (fun h7 cl=>?_)
     ·refine Dg 9 32 55 _ 8 true 31 h7 (fun _ hq=>mv 0 (.slice (some ⟨hd,he,none⟩) x0.length h8)) ?_
      obtain ⟨ho,cm,cn⟩:=bS cj
      obtain ⟨co,hx155'⟩:=Ah cm
      have cp:=hE140 _ _ hx155'
      refine Dg 10 33 0 (.pointer (some ⟨hd,(he + (2:Int).toNat * 1),none⟩)) 8 true 31 h7 (fun _ hq=>B2 (t:=55) (x:=(.tmp 32)) (y:=(.const (vi 2))) (b:=hd) (o:=he) (E:=9) (s:=1) (by_:=16) rfl rfl (by kernel_rfl) co)<|Dg 11 34 9 _ 8 true 31 h7 (fun _ hq=>lx 9 33 0 1 false 1 (sv ho) (hq.1.1 _ _ hF139) cp)<|D1 12 ?_
      obtain ⟨cq,cr,ct⟩:=bS cn
      refine YD (l':=[true,true,true,true,true,true,true,true,true,true,true,true,true,false,false,false]) (zd:=true) (by kernel_rfl) (by kernel_rfl) (by kernel_rfl) (dst:=(some 35)) (ty:=4) (g:=(some (8,true))) (by kernel_rfl) (IY (d:=31) (by kernel_rfl) rfl h7) (f0:=(.func 227)) (aos:=#[(.tmp 34)]) (ats:=#[9]) (fid:=227) (first:=#[]) (cap:=#[]) (args:=[(sv ho)]) rfl K4 rfl hn (My N ci F6 hn.pers ho _ cr) ?_
      rintro _ F7 dp cu hy rfl
      refine Dt 13 36 4 _ (fun _ hq=>p1 31 (.tmp 35) (.const (.bool false)) (.bool cq) h7)<|D1 14<|Ob #[(sv h2.1),(sv h0.2.2.1),(sv h0.2.2.2.1),(sv h2.2)] cu (hf.t hy) (fun dq cv=>?_)
      refine Dv [15] ?_
      obtain rfl:=Aa ct
      exact YE (by kernel_rfl) ⟨F7,cv.dr0,(hf.t hy),fI⟩
     ·refine Dk [(9,32),(10,33),(11,34),(12,35)] 8 true 31 h7 ?_
      refine Dt 13 36 4 _ (fun _ hq=>p0 31 (.tmp 35) (.const (.bool false)) (.bool false) h7)<|D1 14<|Ob #[(sv h2.1),(sv h0.2.2.1),(sv h0.2.2.2.1),(sv h2.2)] hn hf (fun dr cw=>?_)
      refine Dv [15] ?_
      obtain rfl:=Aa cl
      exact YE (by kernel_rfl) ⟨F6,cw.dr0,hf,fI⟩
    ·refine Dk [(3,26),(4,27),(5,28),(6,29)] 2 true 25 h6 ?_
     refine Dt 7 30 4 _ (fun _ hq=>p0 25 (.tmp 29) (.const (.bool false)) (.bool false) h6)<|Dv [8]<|Dk [(9,32),(10,33),(11,34),(12,35)] 8 true 31 rfl<|Dt 13 36 4 _ (fun _ hq=>p0 31 (.tmp 35) (.const (.bool false)) (.bool false) rfl)<|D1 14<|Ob #[(sv h2.1),(sv h0.2.2.1),(sv h0.2.2.2.1),(sv h2.2)] hl (Ys _) (fun ds cx=>?_)
     refine Dv [15] ?_
     obtain rfl:=Aa ca
     exact YE (by kernel_rfl) ⟨F4,cx.dr0,(Ys _),fI⟩
   ·rintro f dt ⟨F5,hz,du,⟨_,rfl⟩⟩
    refine Ab<|Rt ?_
    obtain rfl:=Aa c7
    exact ⟨rfl,(.tuple #[(.agg #[(sv h1.2.1),(sv h1.2.2.1),(sv h1.2.2.2.1),(sv h1.2.2.2.2)]),(.bool h1.1)]),AJ (l:=[.cell 3 186,.tmp 4]) (by kernel_rfl) (vs:=[(.agg #[(sv h1.2.1),(sv h1.2.2.1),(sv h1.2.2.2.1),(sv h1.2.2.2.2)]),(.bool h1.1)]) ⟨h3,0,rfl,Ai (t:=186) (g:=true) (s:=4) (by kernel_rfl) hz.at0 rfl (by decide),⟨rfl,trivial⟩⟩,(.tuple #[(.agg #[(sv h1.2.1),(sv h1.2.2.1),(sv h1.2.2.2.1),(sv h1.2.2.2.2)]),(.bool h1.1)]),F5,rfl,hz.clear,rfl⟩
def Nv (N:Nat):Option (List B0):=
 some [({words_:=1,split_:=(fun y0=>Ek N y0 (fun y0=>AK N y0))}:B0),({words_:=2,split_:=(fun y0=>Ej N y0 (fun y0=>AK N y0))}:B0),({words_:=2,split_:=(fun y0=>Ei N y0 (fun y0=>AK N y0))}:B0),({words_:=3,split_:=(fun y0=>Eh N y0 (fun y0=>AK N y0))}:B0)]
theorem Rb:Af Tryz.prog 184:=fun _ _=>by kernel_rfl
theorem Sj (N:Nat) (w0:World) (F0:Mem) (hF:YN w0 F0) (hG:BI F0) (r:(List B0)) (h:Nv N=some r):
  Calls Tryz.prog 184 ([]:List Value).toArray w0 (AC w0 F0 fun F' v=>∃ (ha:YM) (hb:Nat),v=(sL ha r hb)/\LC r.length hb/\SlA P8 F' ha r):=by
 have hd:=Yt hF
 refine Go 11 Tryz.func184<|Sq (Rg [0] ?_)
 refine Vs 1<|Nss (Rg [0,1] ?_)
 refine Al' 188 #[.nilFunc] hd (fun h1 hn he=>?_)
 refine St0 #[(fV 221 #[])] he (fun ho hf=>?_)
 refine Nss (Rg (rG 10) ?_)
 refine Vs 8 ?_
 obtain ⟨F1,hg,h8,hF28⟩:=hf.fc0
 refine Bs 228 [(vi 1),(fV 223 #[(pt h1 0)]),(vi 2),(fV 224 #[(pt h1 0)]),(vi 2),(fV 226 #[(pt h1 0)]),(vi 3),(fV 228 #[(pt h1 0)])] hg (fun h9 hp hh=>?_)
 have hc:Ap P8 228 F1 (some ⟨h9,0,none⟩) 4 [({words_:=1,split_:=(fun y0=>Ek N y0 (fun y0=>AK N y0))}:B0),({words_:=2,split_:=(fun y0=>Ej N y0 (fun y0=>AK N y0))}:B0),({words_:=2,split_:=(fun y0=>Ei N y0 (fun y0=>AK N y0))}:B0),({words_:=3,split_:=(fun y0=>Eh N y0 (fun y0=>AK N y0))}:B0)] (some h9,.cells ([(vi 1),(fV 223 #[(pt h1 0)]),(vi 2),(fV 224 #[(pt h1 0)]),(vi 2),(fV 226 #[(pt h1 0)]),(vi 3),(fV 228 #[(pt h1 0)])]:List Value).toArray 228 (0,0)):=YH ⟨⟨223,[],[(pt h1 0)],rfl,Pn,(fun w1 F1 y0 h4 h5 h6 h7 r h0 h2 h3=>P5 N w1 F1 h2 y0 h4 h5 h6 h7 h1 (fun y0=>AK N y0) 221 [] [] Fz (Kl.mono (fun w1 F1 y0 r h0 h2 h3=>Gl N w1 F1 h2 (hG.mono (h8.t h0)) y0 r h3) h0) (h0 _ _ hF28) r h3)⟩,⟨⟨224,[],[(pt h1 0)],rfl,Pm,(fun w1 F1 y0 h4 h5 h6 h7 r h0 h2 h3=>P4 N w1 F1 h2 y0 h4 h5 h6 h7 h1 (fun y0=>AK N y0) 221 [] [] Fz (Kl.mono (fun w1 F1 y0 r h0 h2 h3=>Gl N w1 F1 h2 (hG.mono (h8.t h0)) y0 r h3) h0) (h0 _ _ hF28) r h3)⟩,⟨⟨226,[],[(pt h1 0)],rfl,Pl,(fun w1 F1 y0 h4 h5 h6 h7 r h0 h2 h3=>P3 N w1 F1 h2 y0 h4 h5 h6 h7 h1 (fun y0=>AK N y0) 221 [] [] Fz (Kl.mono (fun w1 F1 y0 r h0 h2 h3=>Gl N w1 F1 h2 (hG.mono (h8.t h0)) y0 r h3) h0) (h0 _ _ hF28) r h3)⟩,⟨⟨228,[],[(pt h1 0)],rfl,Pk,(fun w1 F1 y0 h4 h5 h6 h7 r h0 h2 h3=>P2 N w1 F1 h2 y0 h4 h5 h6 h7 h1 (fun y0=>AK N y0) 221 [] [] Fz (Kl.mono (fun w1 F1 y0 r h0 h2 h3=>Gl N w1 F1 h2 (hG.mono (h8.t h0)) y0 r h3) h0) (h0 _ _ hF28) r h3)⟩,rfl⟩⟩⟩⟩ (by simp)
 refine Vs 1<|Nt<|Rt ?_
 have hk:=YF hc
 obtain ⟨F2,hl,hq,hm⟩:=hh.fr0 hc
 obtain rfl:=Aa h
 exact Re [(.slice (some ⟨h9,0,none⟩) [({words_:=1,split_:=(fun y0=>Ek N y0 (fun y0=>AK N y0))}:B0),({words_:=2,split_:=(fun y0=>Ej N y0 (fun y0=>AK N y0))}:B0),({words_:=2,split_:=(fun y0=>Ei N y0 (fun y0=>AK N y0))}:B0),({words_:=3,split_:=(fun y0=>Eh N y0 (fun y0=>AK N y0))}:B0)].length 4)] hl ⟨(some ⟨h9,0,none⟩),4,rfl,hk,hm⟩
def Dy (N:Nat) (x0:YL) (h1:(List YL)) (h2:(List B0)):Int->Option (A9 (BC×Bool) Int):=fun h0=>
 (bif (decide (h0 < (h2.length:Int))) then ((idx h2 h0).bind fun h3=>(bif (h3.words_ !=(h1.length:Int)) then some (.next (W64 (h0 + 1))) else ((h3.split_ h1).bind fun h4=>(bif h4.2 then some (.ret (h4.1,true)) else some (.next (W64 (h0 + 1))))))) else some (.done h0))
def Kz (N:Nat) (x0:YL):Option (BC×Bool):=
 (bif (decide ((x0.length:Int) > 16)) then some (({Area:=([]:YL),Prefix:=([]:YL),Suffix:=([]:YL),Stroke:=([]:YL)}:BC),false) else ((strings_Split N x0 ([47]:YL)).bind fun h0=>((Nv N).bind fun h1=>((AH (Dy N x0 h0 h1) N 0).bind fun o=>o.k (fun r=>some r) (fun h2=>some (({Area:=([]:YL),Prefix:=([]:YL),Suffix:=([]:YL),Stroke:=([]:YL)}:BC),false))))))
theorem Ra:Af Tryz.prog 143:=fun _ _=>by kernel_rfl
theorem Si (N:Nat) (w0:World) (F0:Mem) (hF:YN w0 F0) (hG:BI F0) (x0:YL) (r:(BC×Bool)) (h:Kz N x0=some r):
  Calls Tryz.prog 143 ([(sv x0)]:List Value).toArray w0 (AC w0 F0 fun F' v=>v=(.tuple #[(.agg (Dq r.1)),(.bool r.2)])):=by
 have hn:=Yt hF
 refine Go 37 Tryz.func143<|Sq (Rg [0,1] ?_)
 refine Al' 186 #[(sv (([]:YL))),(sv (([]:YL))),(sv (([]:YL))),(sv (([]:YL)))] hn (fun h0 ho h6=>?_)
 refine Vs 1<|Nss<|Sq (Rg [0,1,2] ?_)
 refine Vs 3<|Nt<|Cd h (fun hp hq=>?_) (fun hp hr=>?_)
 ·refine Sq (Rg [0,1,2] ?_)
  refine Vs 1<|St0 #[(sv (([]:YL))),(sv (([]:YL))),(sv (([]:YL))),(sv (([]:YL)))] h6 (fun c5 hb=>?_)
  refine Vs 1<|Nt<|Rt<|Ad ?_
  obtain rfl:=Aa hq
  exact ⟨rfl,(.tuple #[(.agg #[(sv (([]:YL))),(sv (([]:YL))),(sv (([]:YL))),(sv (([]:YL)))]),(.bool false)]),AJ (l:=[.cell 2 186,.tmp 3]) (by kernel_rfl) (vs:=[(.agg #[(sv (([]:YL))),(sv (([]:YL))),(sv (([]:YL))),(sv (([]:YL)))]),(.bool false)]) ⟨h0,0,rfl,Ai (t:=186) (g:=true) (s:=4) (by kernel_rfl) hb.at0 rfl (by decide),⟨rfl,trivial⟩⟩,(.tuple #[(.agg #[(sv (([]:YL))),(sv (([]:YL))),(sv (([]:YL))),(sv (([]:YL)))]),(.bool false)]),F0,rfl,hb.clear,rfl⟩
 ·refine Sc ?_
  refine Ab<|Sq (Rg [0,1,2] ?_)
  refine Vs 1 ?_
  obtain ⟨h7,hs,ht⟩:=bS hr
  refine Cl' C9 h6 (DH N ho F0 h6.pers hG x0 (([47]:YL)) _ hs) ?_
  rintro _ F1 hu hc hv ⟨hd,he,rfl,hw,hx⟩
  refine Vs 1<|Nss<|Sq (Rg [0,1,2] ?_)
  obtain ⟨h8,hy,hz⟩:=bS ht
  refine Cl' Rb hc (Sj N hu F1 hc.pers (hG.mono hv) _ hy) ?_
  rintro _ F2 c6 b0 b1 ⟨b2,b3,rfl,c7,b4⟩
  refine Vs 2<|Nt ?_
  obtain ⟨hf,b5,hg⟩:=bS hz
  refine Yy (fun f w=>∃ (hh:Int) (F4:Mem),hf=.done hh/\HS w0 F0 w F4 [(sb h0 #[(sv (([]:YL))),(sv (([]:YL))),(sv (([]:YL))),(sv (([]:YL)))] 186)]/\Yr F2 F4/\FI f [] [(2,(pt h0 0))]) ?_ ?_
  ·refine Bk ?_
   refine Yq (by kernel_rfl) (fun m f w=>∃ (h1:Int) (F3:Mem),AH (Dy N x0 h7 h8) m h1=some hf/\HS w0 F0 w F3 [(sb h0 #[(sv (([]:YL))),(sv (([]:YL))),(sv (([]:YL))),(sv (([]:YL)))] 186)]/\Yr F2 F3/\FI f [] [(2,(pt h0 0)),(4,(sL hd h7 he)),(15,(sL b2 h8 b3)),(16,(vi (h8.length:Int))),(17,(vi h1))]) N ⟨0,F2,b5,b0,(Ys _),fI⟩ ?_
   rintro c8 f c9 ⟨h1,F3,b6,h9,h2,⟨_,rfl⟩⟩
   obtain ⟨hk,ca,rfl,b7,h5⟩:=AD b6
   refine Sq (Rg [0] ?_)
   refine Vs 1<|Nss<|Cd b7 (fun b8 b9=>?_) (fun b8 ba=>?_)
   ·refine Sc ?_
    refine Ab<|Sq<|Bk<|Sq (Rg (rG 4) ?_)
    obtain ⟨bb,bc,bd⟩:=bS b9
    obtain ⟨be,hx74'⟩:=Ah bc
    obtain ⟨cb,cc,cd,ce,cf,rfl,hF83,hE84⟩:=Yz (Yu b4 h2) hx74'
    obtain ⟨bf,bg,bh,bi,bj,bk⟩:=hE84 _ _ hx74'
    refine Ix be<|Lx 0 (h9.pers _ _ hF83) bi<|Al' 228 #[(vi 0),.nilFunc] h9 (fun cg ch bl=>?_)
    refine St0 #[(vi bb.words_),(.func (.func bf) bg.toArray bh.toArray)] bl (fun bm h3=>?_)
    refine Nss<|Sq (Rg (rG 5) ?_)
    refine Vs 1<|Ld h3.at0<|Vs 3<|Nt<|Cd bd (fun bn bo=>?_) (fun bn bp=>?_)
    ·refine Ex ?_
     refine Al<|Av rfl<|Ab<|Rg [0,1]<|Vs 2<|Yn ?_
     have bq:=AA bo h5
     exact ⟨hk,Nat.lt_succ_self _,(W64 (h1 + 1)),F3,bq,h3.dr0,h2,fI⟩
    ·refine Sc ?_
     refine Ab<|Sq (Rg (rG 10) ?_)
     refine Vs 1<|Ld h3.at0<|Vs 1 ?_
     obtain ⟨h4,br,bs⟩:=bS bp
     refine Cq bj h3 (bk bm F3 h7 hd he hw (Yu hx (b1.t h2)) _ (Ys _) h3.pers br) ?_
     rintro _ F5 ci bt bu rfl
     refine Vs 3<|Al' 186 #[(sv (([]:YL))),(sv (([]:YL))),(sv (([]:YL))),(sv (([]:YL)))] bt (fun cj cl bv=>?_)
     refine St0 (Dq h4.1) bv (fun cm ha=>?_)
     refine Vs 1<|Nss (Rg [0] ?_)
     refine Vs 1<|Nt<|Cd bs (fun bw bx=>?_) (fun bw bz=>?_)
     ·refine Sq (Rg [0,1,2] ?_)
      refine Ld ha.at0<|St2 (Dq h4.1) ha (fun cn hl=>?_)
      refine Vs 1<|Nt<|Rt<|Aq<|Ad<|Ad<|Aq ?_
      have hret:=Bq bx h5
      subst hret
      refine .inr<|Ad ?_
      obtain rfl:=Aa hg
      exact ⟨rfl,(.tuple #[(.agg (Dq h4.1)),(.bool true)]),AJ (l:=[.cell 2 186,.tmp 3]) (by kernel_rfl) (vs:=[(.agg (Dq h4.1)),(.bool true)]) ⟨h0,0,rfl,Ai (t:=186) (g:=true) (s:=4) (by kernel_rfl) hl.at2 rfl (by decide),⟨rfl,trivial⟩⟩,(.tuple #[(.agg (Dq h4.1)),(.bool true)]),F5,rfl,hl.clear,rfl⟩
     ·refine Sc ?_
      refine Ao<|Ab<|Rg [0,1]<|Vs 2<|Yn ?_
      have c0:=AA bz h5
      exact ⟨hk,Nat.lt_succ_self _,(W64 (h1 + 1)),F5,c0,ha.dr0.dr0,(h2.t bu),fI⟩
   ·refine Ex ?_
    refine Al<|Al<|Av rfl ?_
    have c1:=AB ba h5
    exact .inl ⟨rfl,h1,F3,c1,h9,h2,fI⟩
  ·rintro f co ⟨hh,F4,rfl,c3,cp,⟨_,rfl⟩⟩
   have c4:=A4 hg
   refine Ab<|Sq (Rg [0,1,2] ?_)
   refine Vs 1<|St0 #[(sv (([]:YL))),(sv (([]:YL))),(sv (([]:YL))),(sv (([]:YL)))] c3 (fun cq hm=>?_)
   refine Vs 1<|Nt<|Rt ?_
   obtain rfl:=Aa c4
   exact ⟨rfl,(.tuple #[(.agg #[(sv (([]:YL))),(sv (([]:YL))),(sv (([]:YL))),(sv (([]:YL)))]),(.bool false)]),AJ (l:=[.cell 2 186,.tmp 3]) (by kernel_rfl) (vs:=[(.agg #[(sv (([]:YL))),(sv (([]:YL))),(sv (([]:YL))),(sv (([]:YL)))]),(.bool false)]) ⟨h0,0,rfl,Ai (t:=186) (g:=true) (s:=4) (by kernel_rfl) hm.at0 rfl (by decide),⟨rfl,trivial⟩⟩,(.tuple #[(.agg #[(sv (([]:YL))),(sv (([]:YL))),(sv (([]:YL))),(sv (([]:YL)))]),(.bool false)]),F4,rfl,hm.clear,rfl⟩
def Hp (N:Nat) (x0:YL):Option Bool:=
 ((Kz N x0).bind fun h0=>some h0.2)
theorem Mk:Af Tryz.prog 79:=fun _ _=>by kernel_rfl
theorem Nr (N:Nat) (w0:World) (F0:Mem) (hF:YN w0 F0) (hG:BI F0) (x0:YL) (r:Bool) (h:Hp N x0=some r):
  Calls Tryz.prog 79 ([(sv x0)]:List Value).toArray w0 (AC w0 F0 fun F' v=>v=(.bool r)):=by
 have h0:=Yt hF
 refine Go 11 Tryz.func79<|Sq (Rg [0] ?_)
 refine Vs 1<|Nss (Rg (rG 8) ?_)
 refine Vs 1 ?_
 obtain ⟨h1,h2,h3⟩:=bS h
 refine Cl' Ra h0 (Si N w0 F0 h0.pers hG x0 _ h2) ?_
 rintro _ F1 h7 h4 h8 rfl
 refine Vs 3<|Al' 186 #[(sv (([]:YL))),(sv (([]:YL))),(sv (([]:YL))),(sv (([]:YL)))] h4 (fun h9 ha h5=>?_)
 refine St0 (Dq h1.1) h5 (fun hb h6=>?_)
 refine Vs 1<|Nss (Rg [0,1] ?_)
 refine Vs 2<|Nt<|Rt ?_
 obtain rfl:=Aa h3
 exact Re [(.bool h1.2)] h6 rfl
def Cb (N:Nat) (x0 x1:Int):Option YL:=
 ((strconv_Itoa N x0).bind fun h0=>((strings_Repeat N ([48]:YL) (max 0 (W64 (x1 - (h0.length:Int))))).bind fun h1=>((Bc h1 h0).bind fun h2=>some h2)))
theorem H6:Af Tryz.prog 146:=fun _ _=>by kernel_rfl
theorem I9 (N:Nat) (w0:World) (F0:Mem) (hF:YN w0 F0) (hG:BI F0) (x0 x1:Int) (r:YL) (h:Cb N x0 x1=some r):
  Calls Tryz.prog 146 ([(vi x0),(vi x1)]:List Value).toArray w0 (AC w0 F0 fun F' v=>v=(sv r)):=by
 have h0:=Yt hF
 refine Go 16 Tryz.func146<|Sq (Rg [0] ?_)
 refine Vs 1<|Nss (Rg [0,1,2] ?_)
 refine Vs 1 ?_
 obtain ⟨h1,h4,h5⟩:=bS h
 refine Cl' AV h0 (A1 N w0 F0 h0.pers hG x0 _ h4) ?_
 rintro _ F1 h6 h2 hd rfl
 refine Vs 1<|Nss (Rg (rG 9) ?_)
 refine Vs 5 ?_
 obtain ⟨h7,h8,h9⟩:=bS h5
 refine Cl' Mc h2 (Nl N h6 F1 h2.pers (([48]:YL)) ((max 0 (W64 (x1 - (h1.length:Int))))) _ h8) ?_
 rintro _ F2 he ha hf rfl
 refine Vs 1 ?_
 obtain ⟨h3,hb,hc⟩:=bS h9
 refine V 15 9 (Ay (t:=9) (t':=9) (x:=(.tmp 13)) (y:=(.tmp 14)) (a:=h7) (b:=h1) (v:=h3) rfl rfl hb)<|Vs 1<|Nt<|Rt ?_
 obtain rfl:=Aa hc
 exact Re [(sv h3)] ha rfl
def C2 (N:Nat) (x0:Int):Option (YL×Int):=
 ((Ho N x0 0 20000).bind fun h0=>(bif (!h0) then some (([]:YL),1) else ((strconv_Itoa N (W64 ((W64 (Int.tdiv x0 1440)) + 1))).bind fun h1=>((Bc h1 ([32]:YL)).bind fun h2=>((Cb N (Int.tmod (W64 (Int.tdiv x0 60)) 24) 2).bind fun h3=>((Bc h2 h3).bind fun h4=>((Cb N (Int.tmod x0 60) 2).bind fun h5=>((Bc h4 h5).bind fun h6=>some (h6,0)))))))))
theorem Iy:Af Tryz.prog 82:=fun _ _=>by kernel_rfl
theorem Jt (N:Nat) (w0:World) (F0:Mem) (hF:YN w0 F0) (hG:BI F0) (x0:Int) (r:(YL×Int)) (h:C2 N x0=some r):
  Calls Tryz.prog 82 ([(vi x0)]:List Value).toArray w0 (AC w0 F0 fun F' v=>v=(.tuple #[(sv r.1),(vi r.2)])):=by
 have h2:=Yt hF
 refine Go 21 Tryz.func82<|Sq (Rg [0,1] ?_)
 refine Vs 2<|Nss<|Sq (Rg [0,1,2] ?_)
 refine Vs 1 ?_
 obtain ⟨b0,h9,ha⟩:=bS h
 refine Cl' H1 h2 (I8 N w0 F0 h2.pers x0 0 20000 _ h9) ?_
 rintro _ F1 hb h0 h1 rfl
 refine Vs 1<|Nt<|Cd ha (fun hc hd=>?_) (fun hc he=>?_)
 ·refine Sq (Rg [0,1] ?_)
  refine Vs 2<|Nt<|Rt<|Ad ?_
  obtain rfl:=Aa hd
  exact Re [(sv (([]:YL))),(vi 1)] h0 rfl
 ·refine Sc ?_
  refine Ab<|Sq (Rg (rG 16) ?_)
  refine Vs 3 ?_
  obtain ⟨hf,hg,hh⟩:=bS he
  refine Cl' AV h0 (A1 N hb F1 h0.pers (hG.mono h1) ((W64 ((W64 (Int.tdiv x0 1440)) + 1))) _ hg) ?_
  rintro _ F2 hk h3 h4 rfl
  obtain ⟨h5,hl,hm⟩:=bS hh
  refine V 11 9 (Ay (t:=9) (t':=9) (x:=(.tmp 10)) (y:=(.const (sv ([32]:YL)))) (a:=hf) (b:=([32]:YL)) (v:=h5) rfl rfl hl)<|Vs 3 ?_
  obtain ⟨hn,ho,hp⟩:=bS hm
  refine Cl' H6 h3 (I9 N hk F2 h3.pers (hG.mono (h1.t h4)) ((Int.tmod (W64 (Int.tdiv x0 60)) 24)) 2 _ ho) ?_
  rintro _ F3 hq h6 hr rfl
  obtain ⟨h7,hs,ht⟩:=bS hp
  refine V 16 9 (Ay (t:=9) (t':=9) (x:=(.tmp 11)) (y:=(.tmp 15)) (a:=h5) (b:=hn) (v:=h7) rfl rfl hs)<|Vs 2 ?_
  obtain ⟨hu,hv,hw⟩:=bS ht
  refine Cl' H6 h6 (I9 N hq F3 h6.pers (hG.mono ((h1.t h4).trans hr)) ((Int.tmod x0 60)) 2 _ hv) ?_
  rintro _ F4 b1 hx b2 rfl
  obtain ⟨h8,hy,hz⟩:=bS hw
  refine V 20 9 (Ay (t:=9) (t':=9) (x:=(.tmp 16)) (y:=(.tmp 19)) (a:=h7) (b:=hu) (v:=h8) rfl rfl hy)<|Vs 2<|Nt<|Rt ?_
  obtain rfl:=Aa hz
  exact Re [(sv h8),(vi 0)] hx rfl
def Db (N:Nat) (x0:(List YL)):Int->Option (A9 YL Int):=fun h0=>
 (bif (decide (h0 < (x0.length:Int))) then ((idx x0 h0).bind fun h1=>(bif (h1 !=([]:YL)) then some (.ret h1) else some (.next (W64 (h0 + 1))))) else some (.done h0))
def Gj (N:Nat) (x0:(List YL)):Option YL:=
 ((AH (Db N x0) N 0).bind fun o=>o.k (fun r=>some r) (fun h0=>some ([]:YL)))
theorem Nj:Af Tryz.prog 147:=fun _ _=>by kernel_rfl
theorem N9 (N:Nat) (w0:World) (F0:Mem) (hF:YN w0 F0) (x0:(List YL)) (h2:YM) (h3:Nat) (hw:LC x0.length h3) (h9:SlA AF F0 h2 x0) (r:YL) (h:Gj N x0=some r):
  Calls Tryz.prog 147 ([(sL h2 x0 h3)]:List Value).toArray w0 (AC w0 F0 fun F' v=>v=(sv r)):=by
 have ha:=Yt hF
 refine Go 18 Tryz.func147<|Sq (Rg [0] ?_)
 refine Vs 1<|Nss (Rg [0] ?_)
 refine Vs 1<|Nss<|Sq (Rg [0,1,2] ?_)
 refine Vs 3<|Nt ?_
 obtain ⟨h6,hb,h7⟩:=bS h
 refine Yy (fun f w=>∃ (h8:Int) (F2:Mem),h6=.done h8/\HS w0 F0 w F2 []/\Yr F0 F2/\FI f [] [(3,(sv (([]:YL))))]) ?_ ?_
 ·refine Bk ?_
  refine Yq (by kernel_rfl) (fun m f w=>∃ (h0:Int) (F1:Mem),AH (Db N x0) m h0=some h6/\HS w0 F0 w F1 []/\Yr F0 F1/\FI f [] [(3,(sv (([]:YL)))),(6,(sL h2 x0 h3)),(7,(vi (x0.length:Int))),(8,(vi h0))]) N ⟨0,F0,hb,ha,(Ys _),fI⟩ ?_
  rintro hx f hy ⟨h0,F1,hc,h1,h4,⟨_,rfl⟩⟩
  obtain ⟨hd,hz,rfl,he,h5⟩:=AD hc
  refine Sq (Rg [0] ?_)
  refine Vs 1<|Nss<|Cd he (fun hf hg=>?_) (fun hf hh=>?_)
  ·refine Sc ?_
   refine Ab<|Sq<|Bk<|Sq (Rg [0,1,2] ?_)
   obtain ⟨hk,hl,hm⟩:=bS hg
   obtain ⟨hn,hx49'⟩:=Ah hl
   obtain ⟨b0,b1,b2,b3,b4,rfl,hF58,hE59⟩:=Yz (Yu h9 h4) hx49'
   have ho:=hE59 _ _ hx49'
   refine Ix hn<|Lx 0 (h1.pers _ _ hF58) ho<|Vs 1<|Nss (Rg [0,1,2] ?_)
   refine Vs 3<|Nt<|Cd hm (fun hp hq=>?_) (fun hp hr=>?_)
   ·refine Sq (Rg [0,1] ?_)
    refine Vs 2<|Nt<|Rt<|Aq<|Ad<|Ad<|Aq ?_
    have hret:=Bq hq h5
    subst hret
    refine .inr<|Ad ?_
    obtain rfl:=Aa h7
    exact Re [(sv hk)] h1 rfl
   ·refine Sc ?_
    refine Ao<|Ab<|Rg [0,1]<|Vs 2<|Yn ?_
    have hs:=AA hr h5
    exact ⟨hd,Nat.lt_succ_self _,(W64 (h0 + 1)),F1,hs,h1,h4,fI⟩
  ·refine Ex ?_
   refine Al<|Al<|Av rfl ?_
   have ht:=AB hh h5
   exact .inl ⟨rfl,h0,F1,ht,h1,h4,fI⟩
 ·rintro f b5 ⟨h8,F2,rfl,hu,b6,⟨_,rfl⟩⟩
  have hv:=A4 h7
  refine Ab<|Sq (Rg [0,1] ?_)
  refine Vs 2<|Nt<|Rt ?_
  obtain rfl:=Aa hv
  exact Re [(sv (([]:YL)))] hu rfl
def Cf (N:Nat) (x0:Ac) (x1:Ae) (h6:Bool) (h2:(List AR)):(List YL×Int)->Option (A9 (YL×Int) (List YL×Int)):=fun h0=>
 (bif (decide (h0.2 < (h2.length:Int))) then ((idx h2 h0.2).bind fun h1=>((bif h1.has_ then ((Cb N h1.n_ h1.digits_).bind fun h3=>((CD h0.1 [h3]).bind fun h4=>some h4)) else some h0.1).bind fun h5=>some (.next (h5,(W64 (h0.2 + 1)))))) else some (.done (h0.1,h0.2)))
def Br (N:Nat) (x0:Ac) (x1:Ae):Option (YL×Int):=
 ((Cj N ({Report:=x0.Report,Serial:=x0.Serial,Zone:=x0.Zone}:Ac) ({Report:=x1.Report,Serial:=x1.Serial,Zone:=x1.Zone}:Ae)).bind fun h0=>(bif (!h0) then some (([]:YL),1) else ((Df N ({Report:=x0.Report,Serial:=x0.Serial,Zone:=x0.Zone}:Ac) ({Report:=x1.Report,Serial:=x1.Serial,Zone:=x1.Zone}:Ae)).bind fun h1=>((AH (Cf N x0 x1 h0 h1) N (([]:List YL),0)).bind fun o=>o.k (fun r=>some r) (fun h2=>((strings_Join N h2.1 ([32]:YL)).bind fun h3=>((Gj N ([h3,([45]:YL)])).bind fun h4=>some (h4,0))))))))
theorem Ee:Af Tryz.prog 83:=fun _ _=>by kernel_rfl
theorem EC (N:Nat) (w0:World) (F0:Mem) (hF:YN w0 F0) (hG:BI F0) (x0:Ac) (x1:Ae) (r:(YL×Int)) (h:Br N x0 x1=some r):
  Calls Tryz.prog 83 ([(.agg (Ag x0)),(.agg (A3 x1))]:List Value).toArray w0 (AC w0 F0 fun F' v=>v=(.tuple #[(sv r.1),(vi r.2)])):=by
 have hz:=Yt hF
 refine Go 36 Tryz.func83<|Sq (Rg (rG 4) ?_)
 refine Bx' 23 (Ag x0) hz (fun d2 d3 b0=>?_)
 refine Bx' 32 (A3 x1) b0 (fun d4 b1 h8=>?_)
 refine Vs 2<|Nss<|Sq (Rg (rG 4) ?_)
 refine Ld h8.at1<|Ld h8.at0 ?_
 obtain ⟨b2,b3,b4⟩:=bS h
 refine Cl' Ed h8 (EB N b1 F0 h8.pers (({Report:=x0.Report,Serial:=x0.Serial,Zone:=x0.Zone}:Ac)) (({Report:=x1.Report,Serial:=x1.Serial,Zone:=x1.Zone}:Ae)) _ b3) ?_
 rintro _ F1 b5 h2 b6 rfl
 refine Vs 1<|Nt<|Cd b4 (fun b7 b8=>?_) (fun b7 b9=>?_)
 ·refine Sq (Rg [0,1] ?_)
  refine Vs 2<|Nt<|Rt<|Ad ?_
  obtain rfl:=Aa b8
  exact Re [(sv (([]:YL))),(vi 1)] h2 rfl
 ·refine Sc ?_
  refine Ab<|Sq (Rg [0] ?_)
  refine Vs 1<|Nss<|Sq (Rg (rG 5) ?_)
  refine Ld h2.at1<|Ld h2.at0 ?_
  obtain ⟨h3,ba,bb⟩:=bS b9
  refine Cl' Fy h2 (GA N b5 F1 h2.pers (({Report:=x0.Report,Serial:=x0.Serial,Zone:=x0.Zone}:Ac)) (({Report:=x1.Report,Serial:=x1.Serial,Zone:=x1.Zone}:Ae)) _ ba) ?_
  rintro _ F2 d6 bc bd ⟨be,hp,rfl,d7,bf⟩
  refine Vs 2<|Nt ?_
  have bg:=bc.dr0.dr0.dummy (oc #[] 0)
  obtain ⟨hq,bh,bi⟩:=bS bb
  refine Yy (fun f w=>∃ (h4:(List YL×Int)) (F4:Mem) (h9:YM) (ha:Nat) (hg:Option Nat×Obj),hq=.done h4/\HS w0 F0 w F4 [hg]/\Yr F2 F4/\FI f [] [(6,(sL h9 h4.1 ha))]/\Ap AF 9 F4 h9 ha h4.1 hg) ?_ ?_
  ·refine Bk ?_
   refine Yq (by kernel_rfl) (fun m f w=>∃ (h0:(List YL×Int)) (F3:Mem) (h5:YM) (h6:Nat) (h7:Option Nat×Obj),AH (Cf N x0 x1 b2 h3) m h0=some hq/\HS w0 F0 w F3 [h7]/\Yr F2 F3/\FI f [] [(6,(sL h5 h0.1 h6)),(15,(sL be h3 hp)),(16,(vi (h3.length:Int))),(17,(vi h0.2))]/\Ap AF 9 F3 h5 h6 h0.1 h7) N ⟨(([]:List YL),0),F2,none,0,(none,.cells #[] 0 (0,0)),bh,bg,(Ys _),fI,(YG AF 9 F2 _)⟩ ?_
   rintro d8 f d9 ⟨h0,F3,h5,h6,h7,bj,hh,hb,⟨_,rfl⟩,hk⟩
   obtain ⟨bk,da,rfl,bl,hr⟩:=AD bj
   refine Sq (Rg [0] ?_)
   refine Vs 1<|Nss<|Cd bl (fun bm bn=>?_) (fun bm bo=>?_)
   ·refine Sc ?_
    refine Ab<|Sq<|Bk<|Sq (Rg (rG 4) ?_)
    obtain ⟨hl,bp,bq⟩:=bS bn
    obtain ⟨br,hx76'⟩:=Ah bp
    obtain ⟨bs,bt,db,dc,dd,rfl,hF85,hE86⟩:=Yz (Yu bf hb) hx76'
    have bu:=hE86 _ _ hx76'
    refine Ix br<|Lx 0 (hh.pers _ _ hF85) bu<|Al' 180 #[(.bool false),(vi 0),(vi 0),(vi 0)] hh (fun de df bv=>?_)
    refine St0 (Kt hl) bv (fun bw h1=>?_)
    refine Nss (Rg [0,1] ?_)
    refine Vs 1<|Ld h1.at0<|Nt ?_
    obtain ⟨hm,bx,bz⟩:=bS bq
    refine Yy (fun f w=>∃ (F5:Mem) (hc:YM) (hd:Nat) (he:Option Nat×Obj),HS w0 F0 w F5 [he]/\Yr F3 F5/\FI f [] [(6,(sL hc hm hd)),(15,(.slice (some ⟨bs,bt,none⟩) h3.length hp)),(16,(vi (h3.length:Int))),(17,(vi h0.2))]/\Ap AF 9 F5 hc hd hm he) ?_ ?_
    ·refine Cd bx (fun c0 c1=>?_) (fun c0 c3=>?_)
     ·refine Rg (rG 9) ?_
      refine Vs 2<|Ld h1.at0<|Vs 1<|Ld h1.at0 ?_
      obtain ⟨hn,c4,c5⟩:=bS c1
      refine Cl' H6 h1 (I9 N bw F3 h1.pers (hG.mono ((b6.t bd).trans hb)) hl.n_ hl.digits_ _ c4) ?_
      rintro _ F6 dg c6 hs rfl
      refine Bs 9 [(sv hn)] c6 (fun ht dh hu=>?_)
      have c7:Ap AF 9 F6 (some ⟨ht,0,none⟩) 1 [hn] (some ht,.cells ([(sv hn)]:List Value).toArray 9 (0,0)):=YH ⟨rfl,rfl⟩ (by simp)
      obtain ⟨di,c8,c9⟩:=bS c5
      refine Ap2 NT hu (hk.mono hs) (hu.rd0 c7) c8 (fun ca cb cc dj cd ce=>?_)
      refine Vs 1<|Yn ?_
      obtain rfl:=Aa c9
      exact .inl ⟨rfl,F6,ca,cb,cc,cd.dr0.dr0,hs,fI,ce⟩
     ·refine Sc ?_
      obtain rfl:=Aa c3
      exact .inl ⟨rfl,F3,h5,h6,h7,h1.dr0,(Ys _),fI,hk⟩
    ·rintro f dk ⟨F5,hc,hd,he,cf,cg,⟨_,rfl⟩,ch⟩
     refine Ao<|Ab<|Rg [0,1]<|Vs 2<|Yn ?_
     have ci:=AA bz hr
     exact ⟨bk,Nat.lt_succ_self _,(hm,(W64 (h0.2 + 1))),F5,hc,hd,he,ci,cf,(hb.t cg),fI,ch⟩
   ·refine Ex ?_
    refine Al<|Al<|Av rfl ?_
    have cj:=AB bo hr
    exact .inl ⟨rfl,(h0.1,h0.2),F3,h5,h6,h7,cj,hh,hb,fI,hk⟩
  ·rintro f cl ⟨h4,F4,h9,ha,hg,rfl,cm,dl,⟨_,rfl⟩,hv⟩
   have cn:=A4 bi
   refine Ab<|Sq (Rg (rG 6) ?_)
   refine Vs 1 ?_
   have co:=YF hv
   obtain ⟨F7,hw,dm,cp⟩:=cm.fr0 hv
   obtain ⟨hf,cq,cr⟩:=bS cn
   refine Cl' CK hw (Dc N cl F7 hw.pers h4.1 h9 ha co cp (([32]:YL)) _ cq) ?_
   rintro _ F8 dn ct dp rfl
   refine Bs 9 [(sv hf),(sv (([45]:YL)))] ct (fun ho cu cv=>?_)
   have hx:Ap AF 9 F8 (some ⟨ho,0,none⟩) 2 [hf,([45]:YL)] (some ho,.cells ([(sv hf),(sv (([45]:YL)))]:List Value).toArray 9 (0,0)):=YH ⟨rfl,⟨rfl,rfl⟩⟩ (by simp)
   have cw:=YF hx
   obtain ⟨F9,hy,dq,cx⟩:=cv.fr0 hx
   obtain ⟨cy,cz,d0⟩:=bS cr
   refine Cl' Nj hy (N9 N cu F9 hy.pers ([hf,([45]:YL)]) (some ⟨ho,0,none⟩) 2 cw cx _ cz) ?_
   rintro _ dr ds d1 dt rfl
   refine Vs 2<|Nt<|Rt ?_
   obtain rfl:=Aa d0
   exact Re [(sv cy),(vi 0)] d1 rfl
def Ca (N:Nat) (x0 x1:Int):(Int×YL)->Option (A9 YL (Int×YL)):=fun h0=>
 (bif ((decide (h0.1 > 0))||(decide ((h0.2.length:Int) < x1))) then ((G5 ([48,49,50,51,52,53,54,55,56,57]:YL) (Int.tmod h0.1 10) (W64 ((Int.tmod h0.1 10) + 1))).bind fun h1=>((Bc h1 h0.2).bind fun h2=>some (.next ((W64 (Int.tdiv h0.1 10)),h2)))) else some (.done (h0.1,h0.2)))
def Ba (N:Nat) (x0 x1:Int):Option YL:=
 ((AH (Ca N x0 x1) N (x0,([]:YL))).bind fun o=>o.k (fun r=>some r) (fun h0=>some h0.2))
theorem Cv:Af Tryz.prog 151:=fun _ _=>by kernel_rfl
theorem CN (N:Nat) (w0:World) (F0:Mem) (hF:YN w0 F0) (x0 x1:Int) (r:YL) (h:Ba N x0 x1=some r):
  Calls Tryz.prog 151 ([(vi x0),(vi x1)]:List Value).toArray w0 (AC w0 F0 fun F' v=>v=(sv r)):=by
 have hb:=Yt hF
 refine Go 25 Tryz.func151<|Sq (Rg [0] ?_)
 refine Vs 1<|Nss (Rg [0] ?_)
 refine Vs 1<|Nss ?_
 obtain ⟨h3,hc,hd⟩:=bS h
 refine Yy (fun f w=>∃ (h2:(Int×YL)) (F2:Mem),h3=.done h2/\HS w0 F0 w F2 []/\Yr F0 F2/\FI f [] [(5,(sv h2.2))]) ?_ ?_
 ·refine Bk ?_
  refine Yq (by kernel_rfl) (fun m f w=>∃ (h0:(Int×YL)) (F1:Mem),AH (Ca N x0 x1) m h0=some h3/\HS w0 F0 w F1 []/\Yr F0 F1/\FI f [] [(0,(vi h0.1)),(1,(vi x1)),(5,(sv h0.2))]) N ⟨(x0,([]:YL)),F0,hc,hb,(Ys _),fI⟩ ?_
  rintro hu f hv ⟨h0,F1,he,h4,h5,⟨_,rfl⟩⟩
  obtain ⟨hf,hw,rfl,hg,h6⟩:=AD he
  refine Sq<|Sq (Rg (rG 8) ?_)
  refine Yx (fun f w=>∃ (F3:Mem),HS w0 F0 w F3 []/\Yr F1 F3/\FI f [] [(0,(vi h0.1)),(1,(vi x1)),(5,(sv h0.2)),(13,(.bool ((decide (h0.1 > 0))||(decide ((h0.2.length:Int) < x1)))))]) ?_ ?_
  ·refine Vs 3 ?_
   refine Yw (decide (h0.1 > 0)) (fun h1=>?_) (fun h1=>?_)
   ·refine Ss h1 4 ?_
    refine Pk1 h1 ?_
    exact Yn ⟨rfl,F1,h4,(Ys _),(fJ ⟨rfl,rfl,rfl,(congrArg Value.bool (Fc h1 rfl)),trivial⟩)⟩
   ·refine Vgs h1 4 ?_
    refine Pk0 h1 ?_
    exact Yn ⟨rfl,F1,h4,(Ys _),(fJ ⟨rfl,rfl,rfl,(congrArg Value.bool (Cm h1 rfl)),trivial⟩)⟩
  ·rintro f hx ⟨F3,h7,h8,⟨_,rfl⟩⟩
   refine Ab<|Cd hg (fun hh hk=>?_) (fun hh hl=>?_)
   ·refine Sc ?_
    refine Ab<|Bk<|Sq (Rg (rG 9) ?_)
    refine Vs 5 ?_
    obtain ⟨h9,hm,hn⟩:=bS hk
    refine V 19 9 (CQ (t:=9) (x:=(.const (sv ([48,49,50,51,52,53,54,55,56,57]:YL)))) (lo:=(some (.tmp 15))) (hi:=(some (.tmp 18))) (a:=([48,49,50,51,52,53,54,55,56,57]:YL)) (il:=(Int.tmod h0.1 10)) (ih:=(W64 ((Int.tmod h0.1 10) + 1))) (v:=h9) rfl (by kernel_rfl) rfl rfl hm)<|Vs 1 ?_
    obtain ⟨ha,ho,hp⟩:=bS hn
    refine V 21 9 (Ay (t:=9) (t':=9) (x:=(.tmp 19)) (y:=(.tmp 20)) (a:=h9) (b:=h0.2) (v:=ha) rfl rfl ho)<|Vs 1<|Nt<|Rg [0,1,2]<|Vs 3<|Yn<|Ao ?_
    have hq:=AA hp h6
    exact ⟨hf,Nat.lt_succ_self _,((W64 (Int.tdiv h0.1 10)),ha),F3,hq,h7,(h5.t h8),fI⟩
   ·refine Ex ?_
    refine Al<|Al<|Av rfl ?_
    have hr:=AB hl h6
    exact .inl ⟨rfl,(h0.1,h0.2),F3,hr,h7,(h5.t h8),fI⟩
 ·rintro f hy ⟨h2,F2,rfl,hs,hz,⟨_,rfl⟩⟩
  have ht:=A4 hd
  refine Ab<|Sq (Rg [0,1] ?_)
  refine Vs 2<|Nt<|Rt ?_
  obtain rfl:=Aa ht
  exact Re [(sv h2.2)] hs rfl
def Ck (N:Nat) (x0:Int):Option (YL×Int):=
 ((CR N x0 0 20000).bind fun h0=>(bif (!h0) then some (([]:YL),1) else ((Ba N (W64 ((W64 (Int.tdiv x0 1440)) + 1)) 1).bind fun h1=>((Bc h1 ([32]:YL)).bind fun h2=>((Ba N (W64 (Int.tdiv (Int.tmod x0 1440) 60)) 2).bind fun h3=>((Bc h2 h3).bind fun h4=>((Ba N (Int.tmod (Int.tmod x0 1440) 60) 2).bind fun h5=>((Bc h4 h5).bind fun h6=>some (h6,0)))))))))
theorem Hj:Af Tryz.prog 86:=fun _ _=>by kernel_rfl
theorem HO (N:Nat) (w0:World) (F0:Mem) (hF:YN w0 F0) (x0:Int) (r:(YL×Int)) (h:Ck N x0=some r):
  Calls Tryz.prog 86 ([(vi x0)]:List Value).toArray w0 (AC w0 F0 fun F' v=>v=(.tuple #[(sv r.1),(vi r.2)])):=by
 have h1:=Yt hF
 refine Go 23 Tryz.func86<|Sq (Rg [0,1] ?_)
 refine Vs 2<|Nss<|Sq (Rg [0,1,2] ?_)
 refine Vs 1 ?_
 obtain ⟨hx,h7,h8⟩:=bS h
 refine Cl' CL h1 (Dd N w0 F0 h1.pers x0 0 20000 _ h7) ?_
 rintro _ F1 h9 h0 hy rfl
 refine Vs 1<|Nt<|Cd h8 (fun ha hb=>?_) (fun ha hc=>?_)
 ·refine Sq (Rg [0,1] ?_)
  refine Vs 2<|Nt<|Rt<|Ad ?_
  obtain rfl:=Aa hb
  exact Re [(sv (([]:YL))),(vi 1)] h0 rfl
 ·refine Sc ?_
  refine Ab<|Sq (Rg [0,1,2] ?_)
  refine Vs 3<|Nss (Rg (rG 15) ?_)
  refine Vs 3 ?_
  obtain ⟨hd,he,hf⟩:=bS hc
  refine Cl' Cv h0 (CN N h9 F1 h0.pers ((W64 ((W64 (Int.tdiv x0 1440)) + 1))) 1 _ he) ?_
  rintro _ F2 hg h2 hz rfl
  obtain ⟨h3,hh,hk⟩:=bS hf
  refine V 14 9 (Ay (t:=9) (t':=9) (x:=(.tmp 13)) (y:=(.const (sv ([32]:YL)))) (a:=hd) (b:=([32]:YL)) (v:=h3) rfl rfl hh)<|Vs 2 ?_
  obtain ⟨hl,hm,hn⟩:=bS hk
  refine Cl' Cv h2 (CN N hg F2 h2.pers ((W64 (Int.tdiv (Int.tmod x0 1440) 60))) 2 _ hm) ?_
  rintro _ F3 ho h4 b0 rfl
  obtain ⟨h5,hp,hq⟩:=bS hn
  refine V 18 9 (Ay (t:=9) (t':=9) (x:=(.tmp 14)) (y:=(.tmp 17)) (a:=h3) (b:=hl) (v:=h5) rfl rfl hp)<|Vs 2 ?_
  obtain ⟨hr,hs,ht⟩:=bS hq
  refine Cl' Cv h4 (CN N ho F3 h4.pers ((Int.tmod (Int.tmod x0 1440) 60)) 2 _ hs) ?_
  rintro _ F4 b1 hu b2 rfl
  obtain ⟨h6,hv,hw⟩:=bS ht
  refine V 22 9 (Ay (t:=9) (t':=9) (x:=(.tmp 18)) (y:=(.tmp 21)) (a:=h5) (b:=hr) (v:=h6) rfl rfl hv)<|Vs 2<|Nt<|Rt ?_
  obtain rfl:=Aa hw
  exact Re [(sv h6),(vi 0)] hu rfl
def D7 (N:Nat) (x0:(List YL)):(YL×Int)->Option (A9 YL (YL×Int)):=fun h0=>
 (bif (decide (h0.2 < (x0.length:Int))) then ((bif (decide (h0.2 > 0)) then ((Bc h0.1 ([32]:YL)).bind fun h1=>some h1) else some h0.1).bind fun h2=>((idx x0 h0.2).bind fun h3=>((Bc h2 h3).bind fun h4=>some (.next (h4,(W64 (h0.2 + 1))))))) else some (.done (h0.1,h0.2)))
def HA (N:Nat) (x0:(List YL)):Option YL:=
 ((AH (D7 N x0) N (([]:YL),0)).bind fun o=>o.k (fun r=>some r) (fun h0=>some h0.1))
theorem Pd:Af Tryz.prog 152:=fun _ _=>by kernel_rfl
theorem PW (N:Nat) (w0:World) (F0:Mem) (hF:YN w0 F0) (x0:(List YL)) (h1:YM) (h2:Nat) (b7:LC x0.length h2) (hc:SlA AF F0 h1 x0) (r:YL) (h:HA N x0=some r):
  Calls Tryz.prog 152 ([(sL h1 x0 h2)]:List Value).toArray w0 (AC w0 F0 fun F' v=>v=(sv r)):=by
 have hd:=Yt hF
 refine Go 22 Tryz.func152<|Sq (Rg [0] ?_)
 refine Vs 1<|Nss (Rg [0] ?_)
 refine Vs 1<|Nss<|Sq (Rg [0] ?_)
 refine Vs 1<|Nt ?_
 obtain ⟨h6,he,hf⟩:=bS h
 refine Yy (fun f w=>∃ (h3:(YL×Int)) (F2:Mem),h6=.done h3/\HS w0 F0 w F2 []/\Yr F0 F2/\FI f [] [(3,(sv h3.1))]) ?_ ?_
 ·refine Bk ?_
  refine Yq (by kernel_rfl) (fun m f w=>∃ (h0:(YL×Int)) (F1:Mem),AH (D7 N x0) m h0=some h6/\HS w0 F0 w F1 []/\Yr F0 F1/\FI f [] [(0,(sL h1 x0 h2)),(3,(sv h0.1)),(4,(vi h0.2))]) N ⟨(([]:YL),0),F0,he,hd,(Ys _),fI⟩ ?_
  rintro b8 f b9 ⟨h0,F1,hg,h4,h5,⟨_,rfl⟩⟩
  obtain ⟨hh,ba,rfl,hk,h7⟩:=AD hg
  refine Sq<|Sq (Rg (rG 4) ?_)
  refine Vs 4<|Nt<|Cd hk (fun hl hm=>?_) (fun hl hn=>?_)
  ·refine Sc ?_
   refine Ab<|Sq<|Bk<|Sq<|Sq (Rg [0,1] ?_)
   refine Vs 2<|Nt ?_
   obtain ⟨h8,ho,hp⟩:=bS hm
   refine Yy (fun f w=>∃ (F3:Mem),HS w0 F0 w F3 []/\Yr F1 F3/\FI f [] [(0,(sL h1 x0 h2)),(3,(sv h8)),(4,(vi h0.2))]) ?_ ?_
   ·refine Cd ho (fun hq hr=>?_) (fun hq hs=>?_)
    ·refine Rg [0,1,2] ?_
     refine Vs 1 ?_
     obtain ⟨ht,hu,hv⟩:=bS hr
     refine V 14 9 (Ay (t:=9) (t':=9) (x:=(.tmp 13)) (y:=(.const (sv ([32]:YL)))) (a:=h0.1) (b:=([32]:YL)) (v:=ht) rfl rfl hu)<|Vs 1<|Yn ?_
     obtain rfl:=Aa hv
     exact .inl ⟨rfl,F1,h4,(Ys _),fI⟩
    ·refine Sc ?_
     obtain rfl:=Aa hs
     exact .inl ⟨rfl,F1,h4,(Ys _),fI⟩
   ·rintro f bb ⟨F3,h9,ha,⟨_,rfl⟩⟩
    refine Ab<|Rg (rG 7)<|Vs 3 ?_
    obtain ⟨hw,hx,hy⟩:=bS hp
    obtain ⟨hz,hx64'⟩:=Ah hx
    obtain ⟨bc,bd,be,bf,bg,rfl,hF73,hE74⟩:=Yz (Yu hc (h5.t ha)) hx64'
    have b0:=hE74 _ _ hx64'
    refine Ix hz<|Lx 0 (h9.pers _ _ hF73) b0 ?_
    obtain ⟨hb,b1,b2⟩:=bS hy
    refine V 20 9 (Ay (t:=9) (t':=9) (x:=(.tmp 15)) (y:=(.tmp 19)) (a:=h8) (b:=hw) (v:=hb) rfl rfl b1)<|Vs 1<|Yn<|Ao<|Ab<|Rg [0,1,2]<|Vs 3<|Yn ?_
    have b3:=AA b2 h7
    exact ⟨hh,Nat.lt_succ_self _,(hb,(W64 (h0.2 + 1))),F3,b3,h9,(h5.t ha),fI⟩
  ·refine Ex ?_
   refine Al<|Al<|Av rfl ?_
   have b4:=AB hn h7
   exact .inl ⟨rfl,(h0.1,h0.2),F1,b4,h4,h5,fI⟩
 ·rintro f bh ⟨h3,F2,rfl,b5,bi,⟨_,rfl⟩⟩
  have b6:=A4 hf
  refine Ab<|Sq (Rg [0,1] ?_)
  refine Vs 2<|Nt<|Rt ?_
  obtain rfl:=Aa b6
  exact Re [(sv h3.1)] b5 rfl
def A7 (N:Nat) (x0:Ac) (x1:Ae):Option (YL×Int):=
 ((B3 N ({Report:=x0.Report,Serial:=x0.Serial,Zone:=x0.Zone}:Ac) ({Report:=x1.Report,Serial:=x1.Serial,Zone:=x1.Zone}:Ae)).bind fun h3=>(bif (!h3) then some (([]:YL),1) else ((bif x0.Report then ((Ba N x1.Report 1).bind fun h4=>((CD ([]:List YL) [h4]).bind fun h5=>some h5)) else some ([]:List YL)).bind fun h0=>((bif x0.Serial then ((Ba N x1.Serial 3).bind fun h6=>((CD h0 [h6]).bind fun h7=>some h7)) else some h0).bind fun h1=>((bif x0.Zone then ((Ba N x1.Zone 2).bind fun h8=>((CD h1 [h8]).bind fun h9=>some h9)) else some h1).bind fun h2=>(bif ((h2.length:Int)==0) then some (([45]:YL),0) else ((HA N h2).bind fun ha=>some (ha,0))))))))
theorem Ds:Af Tryz.prog 87:=fun _ _=>by kernel_rfl
theorem DR (N:Nat) (w0:World) (F0:Mem) (hF:YN w0 F0) (x0:Ac) (x1:Ae) (r:(YL×Int)) (h:A7 N x0 x1=some r):
  Calls Tryz.prog 87 ([(.agg (Ag x0)),(.agg (A3 x1))]:List Value).toArray w0 (AC w0 F0 fun F' v=>v=(.tuple #[(sv r.1),(vi r.2)])):=by
 have b1:=Yt hF
 refine Go 40 Tryz.func87<|Sq (Rg (rG 4) ?_)
 refine Bx' 23 (Ag x0) b1 (fun h3 d3 b2=>?_)
 refine Bx' 32 (A3 x1) b2 (fun h4 b3 h5=>?_)
 refine Vs 2<|Nss<|Sq (Rg (rG 4) ?_)
 refine Ld h5.at1<|Ld h5.at0 ?_
 obtain ⟨d4,b4,b5⟩:=bS h
 refine Cl' Dr h5 (DQ N b3 F0 h5.pers (({Report:=x0.Report,Serial:=x0.Serial,Zone:=x0.Zone}:Ac)) (({Report:=x1.Report,Serial:=x1.Serial,Zone:=x1.Zone}:Ae)) _ b4) ?_
 rintro _ F1 b6 hl d6 rfl
 refine Vs 1<|Nt<|Cd b5 (fun b7 b8=>?_) (fun b7 b9=>?_)
 ·refine Sq (Rg [0,1] ?_)
  refine Vs 2<|Nt<|Rt<|Ad ?_
  obtain rfl:=Aa b8
  exact Re [(sv (([]:YL))),(vi 1)] hl rfl
 ·refine Sc ?_
  refine Ab<|Sq (Rg [0] ?_)
  refine Vs 1 ?_
  have h0:=hl.dummy (oc #[] 0)
  refine Nss<|Sq (Rg [0,1] ?_)
  refine Vs 1<|Ld h0.at2<|Nt ?_
  obtain ⟨hm,ba,bb⟩:=bS b9
  refine Yy (fun f w=>∃ (F2:Mem) (h6:YM) (h7:Nat) (h8:Option Nat×Obj),HS w0 F0 w F2 [h8,(sb h4 (A3 x1) 32),(sb h3 (Ag x0) 23)]/\Yr F1 F2/\FI f [] [(2,(pt h3 0)),(3,(pt h4 0)),(6,(sL h6 hm h7))]/\Ap AF 9 F2 h6 h7 hm h8) ?_ ?_
  ·refine Cd ba (fun bc bd=>?_) (fun bc be=>?_)
   ·refine Rg (rG 7) ?_
    refine Vs 2<|Ld h0.at1 ?_
    obtain ⟨he,bf,bg⟩:=bS bd
    refine Cl' Cv h0 (CN N b6 F1 h0.pers x1.Report 1 _ bf) ?_
    rintro _ F3 d7 bh bi rfl
    refine Bs 9 [(sv he)] bh (fun hn d8 ho=>?_)
    have bj:Ap AF 9 F3 (some ⟨hn,0,none⟩) 1 [he] (some hn,.cells ([(sv he)]:List Value).toArray 9 (0,0)):=YH ⟨rfl,rfl⟩ (by simp)
    obtain ⟨d9,bk,bl⟩:=bS bg
    refine Ap1 NT ho (YG AF 9 F3 _) (ho.rd0 bj) bk (fun bm bn bo da bp bq=>?_)
    refine Vs 1<|Yn ?_
    obtain rfl:=Aa bl
    exact .inl ⟨rfl,F3,bm,bn,bo,bp.dr0,bi,fI,bq⟩
   ·refine Sc ?_
    obtain rfl:=Aa be
    exact .inl ⟨rfl,F1,none,0,(none,.cells #[] 0 (0,0)),h0,(Ys _),fI,(YG AF 9 F1 _)⟩
  ·rintro f br ⟨F2,h6,h7,h8,h1,db,⟨_,rfl⟩,hp⟩
   refine Ab<|Sq<|Sq (Rg [0,1] ?_)
   refine Vs 1<|Ld h1.at2<|Nt ?_
   obtain ⟨hq,bs,bt⟩:=bS bb
   refine Yy (fun f w=>∃ (F4:Mem) (h9:YM) (ha:Nat) (hb:Option Nat×Obj),HS w0 F0 w F4 [hb,(sb h4 (A3 x1) 32),(sb h3 (Ag x0) 23)]/\Yr F2 F4/\FI f [] [(2,(pt h3 0)),(3,(pt h4 0)),(6,(sL h9 hq ha))]/\Ap AF 9 F4 h9 ha hq hb) ?_ ?_
   ·refine Cd bs (fun bu bv=>?_) (fun bu bw=>?_)
    ·refine Rg (rG 7) ?_
     refine Vs 2<|Ld h1.at1 ?_
     obtain ⟨hf,bx,bz⟩:=bS bv
     refine Cl' Cv h1 (CN N br F2 h1.pers x1.Serial 3 _ bx) ?_
     rintro _ F5 dc c0 hr rfl
     refine Bs 9 [(sv hf)] c0 (fun hs dd ht=>?_)
     have c1:Ap AF 9 F5 (some ⟨hs,0,none⟩) 1 [hf] (some hs,.cells ([(sv hf)]:List Value).toArray 9 (0,0)):=YH ⟨rfl,rfl⟩ (by simp)
     obtain ⟨de,c3,c4⟩:=bS bz
     refine Ap1 NT ht (hp.mono hr) (ht.rd0 c1) c3 (fun c5 c6 c7 df c8 c9=>?_)
     refine Vs 1<|Yn ?_
     obtain rfl:=Aa c4
     exact .inl ⟨rfl,F5,c5,c6,c7,c8.dr0,hr,fI,c9⟩
    ·refine Sc ?_
     obtain rfl:=Aa bw
     exact .inl ⟨rfl,F2,h6,h7,h8,h1,(Ys _),fI,hp⟩
   ·rintro f ca ⟨F4,h9,ha,hb,h2,dg,⟨_,rfl⟩,hu⟩
    refine Ab<|Sq<|Sq (Rg [0,1] ?_)
    refine Vs 1<|Ld h2.at2<|Nt ?_
    obtain ⟨hg,cb,cc⟩:=bS bt
    refine Yy (fun f w=>∃ (F6:Mem) (hc:YM) (hd:Nat) (hh:Option Nat×Obj),HS w0 F0 w F6 [hh]/\Yr F4 F6/\FI f [] [(6,(sL hc hg hd))]/\Ap AF 9 F6 hc hd hg hh) ?_ ?_
    ·refine Cd cb (fun cd ce=>?_) (fun cd cf=>?_)
     ·refine Rg (rG 7) ?_
      refine Vs 2<|Ld h2.at1 ?_
      obtain ⟨hk,cg,ch⟩:=bS ce
      refine Cl' Cv h2 (CN N ca F4 h2.pers x1.Zone 2 _ cg) ?_
      rintro _ F7 dh ci hv rfl
      refine Bs 9 [(sv hk)] ci (fun hw di hx=>?_)
      have cj:Ap AF 9 F7 (some ⟨hw,0,none⟩) 1 [hk] (some hw,.cells ([(sv hk)]:List Value).toArray 9 (0,0)):=YH ⟨rfl,rfl⟩ (by simp)
      obtain ⟨dj,cl,cm⟩:=bS ch
      refine Ap1 NT hx (hu.mono hv) (hx.rd0 cj) cl (fun cn co cp dk cq cr=>?_)
      refine Vs 1<|Yn ?_
      obtain rfl:=Aa cm
      exact .inl ⟨rfl,F7,cn,co,cp,cq.dr0.dr1.dr1,hv,fI,cr⟩
     ·refine Sc ?_
      obtain rfl:=Aa cf
      exact .inl ⟨rfl,F4,h9,ha,hb,h2.dr1.dr1,(Ys _),fI,hu⟩
    ·rintro f ct ⟨F6,hc,hd,hh,hy,dl,⟨_,rfl⟩,hz⟩
     refine Ab<|Sq<|Sq (Rg [0,1,2] ?_)
     refine Vs 3<|Nt<|Cd cc (fun cu cv=>?_) (fun cu cw=>?_)
     ·refine Sq (Rg [0,1] ?_)
      refine Vs 2<|Nt<|Rt<|Ad ?_
      obtain rfl:=Aa cv
      exact Re [(sv (([45]:YL))),(vi 0)] hy rfl
     ·refine Sc ?_
      refine Ab<|Sq (Rg (rG 4) ?_)
      refine Vs 1 ?_
      have cx:=YF hz
      obtain ⟨F8,b0,dm,cy⟩:=hy.fr0 hz
      obtain ⟨cz,d0,d1⟩:=bS cw
      refine Cl' Pd b0 (PW N ct F8 b0.pers hg hc hd cx cy _ d0) ?_
      rintro _ F9 dn d2 dp rfl
      refine Vs 2<|Nt<|Rt ?_
      obtain rfl:=Aa d1
      exact Re [(sv cz),(vi 0)] d2 rfl
def AO (N:Nat) (x0:(List YL)) (x1:YL):Int->Option (A9 Int Int):=fun h0=>
 (bif (decide (h0 < (x0.length:Int))) then ((idx x0 h0).bind fun h1=>(bif (x1==h1) then some (.ret h0) else some (.next (W64 (h0 + 1))))) else some (.done h0))
def AZ (N:Nat) (x0:(List YL)) (x1:YL):Option Int:=
 ((AH (AO N x0 x1) N 0).bind fun o=>o.k (fun r=>some r) (fun h0=>some (-1)))
theorem Dm:Af Tryz.prog 94:=fun _ _=>by kernel_rfl
theorem DI (N:Nat) (w0:World) (F0:Mem) (hF:YN w0 F0) (x0:(List YL)) (h2:YM) (h3:Nat) (hv:LC x0.length h3) (h9:SlA AF F0 h2 x0) (x1:YL) (r:Int) (h:AZ N x0 x1=some r):
  Calls Tryz.prog 94 ([(sL h2 x0 h3),(sv x1)]:List Value).toArray w0 (AC w0 F0 fun F' v=>v=(vi r)):=by
 have ha:=Yt hF
 refine Go 19 Tryz.func94<|Sq (Rg [0] ?_)
 refine Vs 1<|Nss<|Sq (Rg [0,1,2] ?_)
 refine Vs 3<|Nt ?_
 obtain ⟨h6,hb,h7⟩:=bS h
 refine Yy (fun f w=>∃ (h8:Int) (F2:Mem),h6=.done h8/\HS w0 F0 w F2 []/\Yr F0 F2/\FI f [] []) ?_ ?_
 ·refine Bk ?_
  refine Yq (by kernel_rfl) (fun m f w=>∃ (h0:Int) (F1:Mem),AH (AO N x0 x1) m h0=some h6/\HS w0 F0 w F1 []/\Yr F0 F1/\FI f [] [(0,(sL h2 x0 h3)),(1,(sv x1)),(7,(vi (x0.length:Int))),(8,(vi h0))]) N ⟨0,F0,hb,ha,(Ys _),fI⟩ ?_
  rintro hw f hx ⟨h0,F1,hc,h1,h4,⟨_,rfl⟩⟩
  obtain ⟨hd,hy,rfl,he,h5⟩:=AD hc
  refine Sq (Rg [0] ?_)
  refine Vs 1<|Nss<|Cd he (fun hf hg=>?_) (fun hf hh=>?_)
  ·refine Sc ?_
   refine Ab<|Sq<|Bk<|Sq (Rg [0,1] ?_)
   refine Vs 2<|Nss (Rg (rG 6) ?_)
   refine Vs 3 ?_
   obtain ⟨hz,hk,hl⟩:=bS hg
   obtain ⟨hm,hx48'⟩:=Ah hk
   obtain ⟨b0,b1,b2,b3,b4,rfl,hF57,hE58⟩:=Yz (Yu h9 h4) hx48'
   have hn:=hE58 _ _ hx48'
   refine Ix hm<|Lx 0 (h1.pers _ _ hF57) hn<|Vs 1<|Nt<|Cd hl (fun ho hp=>?_) (fun ho hq=>?_)
   ·refine Sq (Rg [0,1] ?_)
    refine Vs 2<|Nt<|Rt<|Aq<|Ad<|Ad<|Aq ?_
    have hret:=Bq hp h5
    subst hret
    refine .inr<|Ad ?_
    obtain rfl:=Aa h7
    exact Re [(vi h0)] h1 rfl
   ·refine Sc ?_
    refine Ao<|Ab<|Rg [0,1]<|Vs 2<|Yn ?_
    have hr:=AA hq h5
    exact ⟨hd,Nat.lt_succ_self _,(W64 (h0 + 1)),F1,hr,h1,h4,fI⟩
  ·refine Ex ?_
   refine Al<|Al<|Av rfl ?_
   have hs:=AB hh h5
   exact .inl ⟨rfl,h0,F1,hs,h1,h4,fI⟩
 ·rintro f b5 ⟨h8,F2,rfl,ht,b6,⟨_,rfl⟩⟩
  have hu:=A4 h7
  refine Ab<|Sq (Rg [0] ?_)
  refine Vs 1<|Nt<|Rt ?_
  obtain rfl:=Aa hu
  exact Re [(vi (-1))] ht rfl
def Cy (N:Nat) (x0:YL):Option Int:=
 ((GD N x0 9 (fun y0=>BF N y0)).bind fun h0=>(bif (!h0) then some (-1) else ((Cr N x0).bind fun h1=>some h1.1)))
theorem EK:Af Tryz.prog 165:=fun _ _=>by kernel_rfl
theorem FF (N:Nat) (w0:World) (F0:Mem) (hF:YN w0 F0) (hG:BI F0) (x0:YL) (r:Int) (h:Cy N x0=some r):
  Calls Tryz.prog 165 ([(sv x0)]:List Value).toArray w0 (AC w0 F0 fun F' v=>v=(vi r)):=by
 have h1:=Yt hF
 refine Go 14 Tryz.func165<|Sq (Rg [0] ?_)
 refine Vs 1<|Nss<|Sq (Rg [0,1,2] ?_)
 refine Vs 1 ?_
 obtain ⟨hf,h2,h3⟩:=bS h
 refine Cl' Gy h1 (Hm N w0 F0 h1.pers x0 9 199 [] [] (fun y0=>BF N y0) GS (fun w1 F1 y0 r hg h4 h5=>HP N w1 F1 h4 y0 r h5) _ h2) ?_
 rintro _ F1 h6 h0 h7 rfl
 refine Vs 1<|Nt<|Cd h3 (fun h8 h9=>?_) (fun h8 ha=>?_)
 ·refine Sq (Rg [0] ?_)
  refine Vs 1<|Nt<|Rt<|Ad ?_
  obtain rfl:=Aa h9
  exact Re [(vi (-1))] h0 rfl
 ·refine Sc ?_
  refine Ab<|Sq (Rg (rG 7) ?_)
  refine Vs 1 ?_
  obtain ⟨hb,hc,hd⟩:=bS ha
  refine Cl' Ji h0 (J9 N h6 F1 h0.pers (hG.mono h7) x0 _ hc) ?_
  rintro _ F2 hh he hk ⟨hl,rfl,hm⟩
  refine Vs 5<|Nss (Rg [0,1] ?_)
  refine Vs 2<|Nt<|Rt ?_
  obtain rfl:=Aa hd
  exact Re [(vi hb.1)] he rfl
def Hq (N:Nat) (x0:YL):Option (Int×Int):=
 ((strings_Cut N x0 ([32]:YL)).bind fun h2=>((Cy N h2.1).bind fun h1=>((Cy N h2.2.1).bind fun h0=>(bif ((decide (h1 < 1))||((decide (h1 > 20000))||(decide (h0 < 0)))) then some (0,13) else ((C2 N (W64 ((W64 ((W64 ((W64 (h1 - 1)) * 1440)) + (W64 ((W64 (Int.tdiv h0 100)) * 60)))) + (Int.tmod h0 100)))).bind fun h3=>(bif ((h3.2 !=0)||(h3.1 !=x0)) then some (0,13) else some ((W64 ((W64 ((W64 ((W64 (h1 - 1)) * 1440)) + (W64 ((W64 (Int.tdiv h0 100)) * 60)))) + (Int.tmod h0 100))),0)))))))
theorem Ml:Af Tryz.prog 96:=fun _ _=>by kernel_rfl
theorem Ns (N:Nat) (w0:World) (F0:Mem) (hF:YN w0 F0) (hG:BI F0) (x0:YL) (r:(Int×Int)) (h:Hq N x0=some r):
  Calls Tryz.prog 96 ([(sv x0)]:List Value).toArray w0 (AC w0 F0 fun F' v=>v=(.tuple #[(vi r.1),(vi r.2)])):=by
 have h9:=Yt hF
 refine Go 55 Tryz.func96<|Sq (Rg [0,1] ?_)
 refine Vs 2<|Nss (Rg (rG 9) ?_)
 refine Vs 1 ?_
 obtain ⟨ha,hg,hh⟩:=bS h
 refine Cl' JZ h9 (K5 N w0 F0 h9.pers hG x0 (([32]:YL)) _ hg) ?_
 rintro _ F1 hk hb h5 rfl
 refine Vs 7<|Nss (Rg (rG 6) ?_)
 refine Vs 1 ?_
 obtain ⟨h0,hl,hm⟩:=bS hh
 refine Cl' EK hb (FF N hk F1 hb.pers (hG.mono h5) ha.1 _ hl) ?_
 rintro _ F2 hn hc hd rfl
 refine Vs 1 ?_
 obtain ⟨h1,ho,hp⟩:=bS hm
 refine Cl' EK hc (FF N hn F2 hc.pers (hG.mono (h5.t hd)) ha.2.1 _ ho) ?_
 rintro _ F3 b1 h6 hq rfl
 refine Vs 2<|Nss<|Sq (Rg (rG 10) ?_)
 refine Yx (fun f w=>∃ (F4:Mem),HS w0 F0 w F4 []/\Yr F3 F4/\FI f [] [(0,(sv x0)),(7,(vi h0)),(8,(vi h1)),(31,(.bool ((decide (h0 < 1))||((decide (h0 > 20000))||(decide (h1 < 0))))))]) ?_ ?_
 ·refine Vs 3 ?_
  refine Yw (decide (h0 < 1)) (fun h2=>?_) (fun h2=>?_)
  ·refine Ss h2 2 ?_
   refine Pk1 h2<|Vs 1<|Ss (rfl:true=true) 2<|Pk1 (rfl:true=true) ?_
   exact Yn ⟨rfl,F3,h6,(Ys _),(fJ ⟨rfl,rfl,rfl,(congrArg Value.bool (Fc h2 rfl)),trivial⟩)⟩
  ·refine Vgs h2 2 ?_
   refine Pk0 h2<|Vs 1<|Yw (decide (h0 > 20000)) (fun h3=>?_) (fun h3=>?_)
   ·refine Ss h3 2 ?_
    refine Pk1 h3 ?_
    exact Yn ⟨rfl,F3,h6,(Ys _),(fJ ⟨rfl,rfl,rfl,(congrArg Value.bool (Cm h2 (Fc h3 rfl))),trivial⟩)⟩
   ·refine Vgs h3 2 ?_
    refine Pk0 h3 ?_
    exact Yn ⟨rfl,F3,h6,(Ys _),(fJ ⟨rfl,rfl,rfl,(congrArg Value.bool (Cm h2 (Cm h3 rfl))),trivial⟩)⟩
 ·rintro f hr ⟨F4,h7,hs,⟨_,rfl⟩⟩
  refine Ab<|Cd hp (fun ht hu=>?_) (fun ht hv=>?_)
  ·refine Sq (Rg [0,1] ?_)
   refine Vs 2<|Nt<|Rt<|Ad ?_
   obtain rfl:=Aa hu
   exact Re [(vi 0),(vi 13)] h7 rfl
  ·refine Sc ?_
   refine Ab<|Sq (Rg (rG 11) ?_)
   refine Vs 11<|Nss<|Sq (Rg (rG 7) ?_)
   refine Vs 1 ?_
   obtain ⟨h8,hw,hx⟩:=bS hv
   refine Cl' Iy h7 (Jt N hr F4 h7.pers (hG.mono (((h5.t hd).trans hq).trans hs)) ((W64 ((W64 ((W64 ((W64 (h0 - 1)) * 1440)) + (W64 ((W64 (Int.tdiv h1 100)) * 60)))) + (Int.tmod h1 100)))) _ hw) ?_
   rintro _ F5 b2 he b3 rfl
   refine Vs 5<|Nss (Rg (rG 7) ?_)
   refine Yx (fun f w=>∃ (F6:Mem),HS w0 F0 w F6 []/\Yr F5 F6/\FI f [] [(9,(vi (W64 ((W64 ((W64 ((W64 (h0 - 1)) * 1440)) + (W64 ((W64 (Int.tdiv h1 100)) * 60)))) + (Int.tmod h1 100))))),(53,(.bool ((h8.2 !=0)||(h8.1 !=x0))))]) ?_ ?_
   ·refine Vs 3 ?_
    refine Yw (h8.2 !=0) (fun h4=>?_) (fun h4=>?_)
    ·refine Ss h4 3 ?_
     refine Pk1 h4 ?_
     exact Yn ⟨rfl,F5,he,(Ys _),(fJ ⟨rfl,(congrArg Value.bool (Fc h4 rfl)),trivial⟩)⟩
    ·refine Vgs h4 3 ?_
     refine Pk0 h4 ?_
     exact Yn ⟨rfl,F5,he,(Ys _),(fJ ⟨rfl,(congrArg Value.bool (Cm h4 rfl)),trivial⟩)⟩
   ·rintro f b4 ⟨F6,hf,b5,⟨_,rfl⟩⟩
    refine Ab<|Cd hx (fun hy hz=>?_) (fun hy b0=>?_)
    ·refine Sq (Rg [0,1] ?_)
     refine Vs 2<|Nt<|Rt<|Ad ?_
     obtain rfl:=Aa hz
     exact Re [(vi 0),(vi 13)] hf rfl
    ·refine Sc ?_
     refine Ab<|Sq (Rg [0,1,2] ?_)
     refine Vs 3<|Nt<|Rt ?_
     obtain rfl:=Aa b0
     exact Re [(vi (W64 ((W64 ((W64 ((W64 (h0 - 1)) * 1440)) + (W64 ((W64 (Int.tdiv h1 100)) * 60)))) + (Int.tmod h1 100)))),(vi 0)] hf rfl
def E3 (N:Nat) (x0:Ac) (x1:YL):Option (Ae×Int):=
 ((strings_Split N x1 ([32]:YL)).bind fun h2=>(((Df N ({Report:=x0.Report,Serial:=x0.Serial,Zone:=x0.Zone}:Ac) ({Report:=0,Serial:=0,Zone:=0}:Ae)).bind fun h5=>((idx h5 0).bind fun h6=>(bif h6.has_ then some (decide ((h2.length:Int) > 0)) else some false))).bind fun h7=>((bif h7 then ((idx h2 0).bind fun h8=>((Cy N h8).bind fun h9=>((sub h2 1 (h2.length:Int)).bind fun ha=>some (ha,h9)))) else some (h2,0)).bind fun h0=>(((Df N ({Report:=x0.Report,Serial:=x0.Serial,Zone:=x0.Zone}:Ac) ({Report:=h0.2,Serial:=0,Zone:=0}:Ae)).bind fun hb=>((idx hb 1).bind fun hc=>(bif hc.has_ then some (decide ((h0.1.length:Int) > 0)) else some false))).bind fun hd=>((bif hd then ((idx h0.1 0).bind fun he=>((Cy N he).bind fun hf=>((sub h0.1 1 (h0.1.length:Int)).bind fun hg=>some (hg,hf)))) else some (h0.1,0)).bind fun h1=>(((Df N ({Report:=x0.Report,Serial:=x0.Serial,Zone:=x0.Zone}:Ac) ({Report:=h0.2,Serial:=h1.2,Zone:=0}:Ae)).bind fun hh=>((idx hh 2).bind fun hk=>(bif hk.has_ then some (decide ((h1.1.length:Int) > 0)) else some false))).bind fun hl=>((bif hl then ((idx h1.1 0).bind fun hm=>((Cy N hm).bind fun hn=>((sub h1.1 1 (h1.1.length:Int)).bind fun ho=>some (ho,hn)))) else some (h1.1,0)).bind fun h3=>((Br N ({Report:=x0.Report,Serial:=x0.Serial,Zone:=x0.Zone}:Ac) ({Report:=h0.2,Serial:=h1.2,Zone:=h3.2}:Ae)).bind fun h4=>(bif ((h4.2 !=0)||(h4.1 !=x1)) then some (({Report:=0,Serial:=0,Zone:=0}:Ae),1) else some (({Report:=h0.2,Serial:=h1.2,Zone:=h3.2}:Ae),0))))))))))
theorem Jx:Af Tryz.prog 97:=fun _ _=>by kernel_rfl
theorem Kh (N:Nat) (w0:World) (F0:Mem) (hF:YN w0 F0) (hG:BI F0) (x0:Ac) (x1:YL) (r:(Ae×Int)) (h:E3 N x0 x1=some r):
  Calls Tryz.prog 97 ([(.agg (Ag x0)),(sv x1)]:List Value).toArray w0 (AC w0 F0 fun F' v=>v=(.tuple #[(.agg (A3 r.1)),(vi r.2)])):=by
 have bp:=Yt hF
 refine Go 60 Tryz.func97<|Sq (Rg [0,1,2] ?_)
 refine Bx' 23 (Ag x0) bp (fun h5 gw bq=>?_)
 refine Al' 32 #[(vi 0),(vi 0),(vi 0)] bq (fun h4 br b9=>?_)
 refine Vs 1<|Nss (Rg [0,1,2] ?_)
 refine Vs 1 ?_
 obtain ⟨hv,bs,bt⟩:=bS h
 refine Cl' C9 b9 (DH N br F0 b9.pers hG x1 (([32]:YL)) _ bs) ?_
 rintro _ F1 gx bu hq ⟨ba,hw,rfl,bb,hx⟩
 refine Vs 1<|Nss (Rg [0] ?_)
 refine Al' 32 #[(vi 0),(vi 0),(vi 0)] bu (fun h0 gy bv=>?_)
 refine Nss<|Sq (Rg (rG 6) ?_)
 refine Vs 3<|Bs 194 [(pt h0 0),(pt h0 1),(pt h0 2)] bv (fun h2 bw hd=>?_)
 refine Vs 2<|Nt<|Bk<|CWP.unroll (by kernel_rfl) 4<|URL.step<|Sq (Rg [0] ?_)
 refine Vs 1<|Nss<|C1 (rfl:true=true)<|Sc<|Ab<|Sq<|Bk<|Sq (Rg (rG 5) ?_)
 refine Vs 1<|V 22 0 (W6 (v1:=(pt h2 0)) (by rfl) (Do (t:=200) (x:=(.tmp 17)) (y:=(.tmp 19)) (b:=h2) (nn:=3) (c:=3) (E:=194) (s:=1) (by_:=8) (j:=0) rfl rfl (by kernel_rfl) (by decide)))<|Ld hd.at0<|Vs 2<|Nss (Rg (rG 12) ?_)
 obtain ⟨bx,bz,c0⟩:=bS bt
 refine Yx (fun f w=>∃ (F2:Mem),HS w0 F0 w F2 [(sb h2 #[(pt h0 0),(pt h0 1),(pt h0 2)] 194),(sb h0 #[(vi 0),(vi 0),(vi 0)] 32),(sb h4 #[(vi 0),(vi 0),(vi 0)] 32),(sb h5 (Ag x0) 23)]/\Yr F1 F2/\FI f [] [(1,(sv x1)),(2,(pt h5 0)),(4,(pt h4 0)),(6,(sL ba hv hw)),(7,(pt h0 0)),(9,(pt h0 0)),(17,(.slice (some ⟨h2,0,none⟩) 3 3)),(18,(vi 3)),(19,(vi 0)),(35,(.bool bx))]) ?_ ?_
 ·refine Ld hd.at3 ?_
  refine Ld hd.at1 ?_
  obtain ⟨gz,c1,c3⟩:=bS bz
  refine Cl' Fy hd (GA N bw F1 hd.pers (({Report:=x0.Report,Serial:=x0.Serial,Zone:=x0.Zone}:Ac)) (({Report:=0,Serial:=0,Zone:=0}:Ae)) _ c1) ?_
  rintro _ F3 i0 hy bc ⟨i1,i2,rfl,i3,c4⟩
  refine Vs 1 ?_
  obtain ⟨i4,c5,c6⟩:=bS c3
  obtain ⟨c7,hx67'⟩:=Ah c5
  obtain ⟨i5,i6,i7,i8,i9,rfl,hF76,hE77⟩:=Yz c4 hx67'
  have c8:=hE77 _ _ hx67'
  refine Ix c7<|Vs 1<|Lx 0 (hy.pers _ _ hF76) c8<|Vs 1<|Sp c6 (fun he c9=>?_) (fun he ca=>?_)
  ·refine Vgs he 3 ?_
   refine Pk1 he ?_
   obtain rfl:=Aa c9
   exact Yn ⟨rfl,F3,hy,bc,fI⟩
  ·refine Ss he 3 ?_
   refine Pk0 he ?_
   obtain rfl:=Aa ca
   exact Yn ⟨rfl,F3,hy,bc,fI⟩
 ·rintro f cb ⟨F2,hr,h7,⟨_,rfl⟩⟩
  refine Ab ?_
  obtain ⟨h1,cc,cd⟩:=bS c0
  refine Yy (fun f w=>∃ (F4:Mem) (hf:YM) (h9:Nat),HS w0 F0 w F4 [(sb h2 #[(pt h0 0),(pt h0 1),(pt h0 2)] 194),(sb h0 #[(vi h1.2),(vi 0),(vi 0)] 32),(sb h4 #[(vi 0),(vi 0),(vi 0)] 32),(sb h5 (Ag x0) 23)]/\Yr F2 F4/\FI f [] [(1,(sv x1)),(2,(pt h5 0)),(4,(pt h4 0)),(6,(sL hf h1.1 h9)),(7,(pt h0 0)),(17,(.slice (some ⟨h2,0,none⟩) 3 3)),(18,(vi 3)),(19,(vi 0))]/\LC h1.1.length h9/\SlA AF F4 hf h1.1) ?_ ?_
  ·refine Cd cc (fun ce cf=>?_) (fun ce cg=>?_)
   ·refine Sq (Rg (rG 7) ?_)
    refine Vs 2 ?_
    obtain ⟨ch,ci,cj⟩:=bS cf
    obtain ⟨cl,hx102'⟩:=Ah ci
    obtain ⟨cm,cn,ia,ib,ic,rfl,hF111,hE112⟩:=Yz (Yu hx h7) hx102'
    have co:=hE112 _ _ hx102'
    refine Ix cl<|Lx 0 (hr.pers _ _ hF111) co ?_
    obtain ⟨cp,cq,cr⟩:=bS cj
    refine Cl' EK hr (FF N cb F2 hr.pers (hG.mono (hq.t h7)) ch _ cq) ?_
    rintro _ F5 ie ct bd rfl
    refine Vs 1<|St1 #[(vi cp),(vi 0),(vi 0)] ct (fun ig cu=>?_)
    refine Nt<|Rg [0,1,2]<|Vs 1 ?_
    obtain ⟨cv,cw,cx⟩:=bS cr
    obtain ⟨cy,cz,d0,d1,d2⟩:=Fq (P:=Tryz.prog) (T:=AF) (lo:=(some (.const (vi 1)))) (hi:=none) (mx:=none) (t:=55) (E:=9) (by_:=16) (c:=hw) (a:=(some ⟨cm,cn,none⟩)) (l:=hv) (r:=cv) (il:=1) (ih:=(hv.length:Int)) (im:=0) (by kernel_rfl) (by kernel_rfl) bb (Yu hx (h7.t bd)) (fun h=>by first | rfl | cases h) cw
    refine V 43 55 (d2 (x:=(.tmp 42)) rfl rfl rfl trivial)<|Vs 1<|Yn ?_
    obtain rfl:=Aa cx
    exact .inl ⟨rfl,F5,cy,cz,cu,bd,fI,d0,d1⟩
   ·refine Sc ?_
    obtain rfl:=Aa cg
    exact .inl ⟨rfl,F2,ba,hw,hr,(Ys _),fI,bb,(Yu hx h7)⟩
  ·rintro f d3 ⟨F4,hf,h9,hg,hz,⟨_,rfl⟩,be,b0⟩
   refine Ao<|Ab<|Rg [0,1]<|Vs 2<|Nt<|URL.step<|Sq (Rg [0] ?_)
   refine Vs 1<|Nss<|C1 (rfl:true=true)<|Sc<|Ab<|Sq<|Bk<|Sq (Rg (rG 5) ?_)
   refine Vs 1<|V 22 0 (W6 (v1:=(pt h2 1)) (by rfl) (Do (t:=200) (x:=(.tmp 17)) (y:=(.tmp 19)) (b:=h2) (nn:=3) (c:=3) (E:=194) (s:=1) (by_:=8) (j:=1) rfl rfl (by kernel_rfl) (by decide)))<|Ld hg.at0<|Vs 2<|Nss (Rg (rG 12) ?_)
   obtain ⟨d4,d6,d7⟩:=bS cd
   refine Yx (fun f w=>∃ (F6:Mem),HS w0 F0 w F6 [(sb h2 #[(pt h0 0),(pt h0 1),(pt h0 2)] 194),(sb h0 #[(vi h1.2),(vi 0),(vi 0)] 32),(sb h4 #[(vi 0),(vi 0),(vi 0)] 32),(sb h5 (Ag x0) 23)]/\Yr F4 F6/\FI f [] [(1,(sv x1)),(2,(pt h5 0)),(4,(pt h4 0)),(6,(sL hf h1.1 h9)),(7,(pt h0 0)),(9,(pt h0 1)),(17,(.slice (some ⟨h2,0,none⟩) 3 3)),(18,(vi 3)),(19,(vi 1)),(35,(.bool d4))]) ?_ ?_
   ·refine Ld hg.at3 ?_
    refine Ld hg.at1 ?_
    obtain ⟨ii,d8,d9⟩:=bS d6
    refine Cl' Fy hg (GA N d3 F4 hg.pers (({Report:=x0.Report,Serial:=x0.Serial,Zone:=x0.Zone}:Ac)) (({Report:=h1.2,Serial:=0,Zone:=0}:Ae)) _ d8) ?_
    rintro _ F7 ij b1 bf ⟨ik,io,rfl,ip,da⟩
    refine Vs 1 ?_
    obtain ⟨iq,db,dc⟩:=bS d9
    obtain ⟨dd,hx159'⟩:=Ah db
    obtain ⟨ir,it,iu,iv,iw,rfl,hF168,hE169⟩:=Yz da hx159'
    have de:=hE169 _ _ hx159'
    refine Ix dd<|Vs 1<|Lx 0 (b1.pers _ _ hF168) de<|Vs 1<|Sp dc (fun hh df=>?_) (fun hh dg=>?_)
    ·refine Vgs hh 3 ?_
     refine Pk1 hh ?_
     obtain rfl:=Aa df
     exact Yn ⟨rfl,F7,b1,bf,fI⟩
    ·refine Ss hh 3 ?_
     refine Pk0 hh ?_
     obtain rfl:=Aa dg
     exact Yn ⟨rfl,F7,b1,bf,fI⟩
   ·rintro f dh ⟨F6,hs,ha,⟨_,rfl⟩⟩
    refine Ab ?_
    obtain ⟨h3,di,dj⟩:=bS d7
    refine Yy (fun f w=>∃ (F8:Mem) (hk:YM) (hb:Nat),HS w0 F0 w F8 [(sb h2 #[(pt h0 0),(pt h0 1),(pt h0 2)] 194),(sb h0 #[(vi h1.2),(vi h3.2),(vi 0)] 32),(sb h4 #[(vi 0),(vi 0),(vi 0)] 32),(sb h5 (Ag x0) 23)]/\Yr F6 F8/\FI f [] [(1,(sv x1)),(2,(pt h5 0)),(4,(pt h4 0)),(6,(sL hk h3.1 hb)),(7,(pt h0 0)),(17,(.slice (some ⟨h2,0,none⟩) 3 3)),(18,(vi 3)),(19,(vi 1))]/\LC h3.1.length hb/\SlA AF F8 hk h3.1) ?_ ?_
    ·refine Cd di (fun dk dl=>?_) (fun dk dm=>?_)
     ·refine Sq (Rg (rG 7) ?_)
      refine Vs 2 ?_
      obtain ⟨dn,dp,dq⟩:=bS dl
      obtain ⟨dr,hx194'⟩:=Ah dp
      obtain ⟨ds,dt,iy,iz,j0,rfl,hF203,hE204⟩:=Yz (Yu b0 ha) hx194'
      have du:=hE204 _ _ hx194'
      refine Ix dr<|Lx 0 (hs.pers _ _ hF203) du ?_
      obtain ⟨dv,dw,dx⟩:=bS dq
      refine Cl' EK hs (FF N dh F6 hs.pers (hG.mono (((hq.t h7).trans hz).trans ha)) dn _ dw) ?_
      rintro _ F9 j1 dy bg rfl
      refine Vs 1<|St1 #[(vi h1.2),(vi dv),(vi 0)] dy (fun j2 dz=>?_)
      refine Nt<|Rg [0,1,2]<|Vs 1 ?_
      obtain ⟨e0,e1,e2⟩:=bS dx
      obtain ⟨e3,e4,e6,e7,e8⟩:=Fq (P:=Tryz.prog) (T:=AF) (lo:=(some (.const (vi 1)))) (hi:=none) (mx:=none) (t:=55) (E:=9) (by_:=16) (c:=h9) (a:=(some ⟨ds,dt,none⟩)) (l:=h1.1) (r:=e0) (il:=1) (ih:=(h1.1.length:Int)) (im:=0) (by kernel_rfl) (by kernel_rfl) be (Yu b0 (ha.t bg)) (fun h=>by first | rfl | cases h) e1
      refine V 43 55 (e8 (x:=(.tmp 42)) rfl rfl rfl trivial)<|Vs 1<|Yn ?_
      obtain rfl:=Aa e2
      exact .inl ⟨rfl,F9,e3,e4,dz,bg,fI,e6,e7⟩
     ·refine Sc ?_
      obtain rfl:=Aa dm
      exact .inl ⟨rfl,F6,hf,h9,hs,(Ys _),fI,be,(Yu b0 ha)⟩
    ·rintro f e9 ⟨F8,hk,hb,hl,bh,⟨_,rfl⟩,bi,b2⟩
     refine Ao<|Ab<|Rg [0,1]<|Vs 2<|Nt<|URL.step<|Sq (Rg [0] ?_)
     refine Vs 1<|Nss<|C1 (rfl:true=true)<|Sc<|Ab<|Sq<|Bk<|Sq (Rg (rG 5) ?_)
     refine Vs 1<|V 22 0 (W6 (v1:=(pt h2 2)) (by rfl) (Do (t:=200) (x:=(.tmp 17)) (y:=(.tmp 19)) (b:=h2) (nn:=3) (c:=3) (E:=194) (s:=1) (by_:=8) (j:=2) rfl rfl (by kernel_rfl) (by decide)))<|Ld hl.at0<|Vs 2<|Nss (Rg (rG 12) ?_)
     obtain ⟨ea,eb,ec⟩:=bS dj
     refine Yx (fun f w=>∃ (hc:Mem),HS w0 F0 w hc [(sb h2 #[(pt h0 0),(pt h0 1),(pt h0 2)] 194),(sb h0 #[(vi h1.2),(vi h3.2),(vi 0)] 32),(sb h4 #[(vi 0),(vi 0),(vi 0)] 32),(sb h5 (Ag x0) 23)]/\Yr F8 hc/\FI f [] [(1,(sv x1)),(2,(pt h5 0)),(4,(pt h4 0)),(6,(sL hk h3.1 hb)),(7,(pt h0 0)),(9,(pt h0 2)),(17,(.slice (some ⟨h2,0,none⟩) 3 3)),(18,(vi 3)),(19,(vi 2)),(35,(.bool ea))]) ?_ ?_
     ·refine Ld hl.at3 ?_
      refine Ld hl.at1 ?_
      obtain ⟨j3,ed,ee⟩:=bS eb
      refine Cl' Fy hl (GA N e9 F8 hl.pers (({Report:=x0.Report,Serial:=x0.Serial,Zone:=x0.Zone}:Ac)) (({Report:=h1.2,Serial:=h3.2,Zone:=0}:Ae)) _ ed) ?_
      rintro _ bj j4 b3 bk ⟨j5,j6,rfl,j7,ef⟩
      refine Vs 1 ?_
      obtain ⟨j8,eg,eh⟩:=bS ee
      obtain ⟨ei,hx251'⟩:=Ah eg
      obtain ⟨j9,ja,jb,jc,jd,rfl,hF260,hE261⟩:=Yz ef hx251'
      have ej:=hE261 _ _ hx251'
      refine Ix ei<|Vs 1<|Lx 0 (b3.pers _ _ hF260) ej<|Vs 1<|Sp eh (fun hm ek=>?_) (fun hm el=>?_)
      ·refine Vgs hm 3 ?_
       refine Pk1 hm ?_
       obtain rfl:=Aa ek
       exact Yn ⟨rfl,bj,b3,bk,fI⟩
      ·refine Ss hm 3 ?_
       refine Pk0 hm ?_
       obtain rfl:=Aa el
       exact Yn ⟨rfl,bj,b3,bk,fI⟩
     ·rintro f en ⟨hc,ht,hn,⟨_,rfl⟩⟩
      refine Ab ?_
      obtain ⟨h6,eo,ep⟩:=bS ec
      refine Yy (fun f w=>∃ (ho:Mem) (b4:YM) (b5:Nat),HS w0 F0 w ho [(sb h2 #[(pt h0 0),(pt h0 1),(pt h0 2)] 194),(sb h0 #[(vi h1.2),(vi h3.2),(vi h6.2)] 32),(sb h4 #[(vi 0),(vi 0),(vi 0)] 32),(sb h5 (Ag x0) 23)]/\Yr hc ho/\FI f [] [(1,(sv x1)),(2,(pt h5 0)),(4,(pt h4 0)),(6,(sL b4 h6.1 b5)),(7,(pt h0 0)),(17,(.slice (some ⟨h2,0,none⟩) 3 3)),(18,(vi 3)),(19,(vi 2))]/\LC h6.1.length b5/\SlA AF ho b4 h6.1) ?_ ?_
      ·refine Cd eo (fun er et=>?_) (fun er eu=>?_)
       ·refine Sq (Rg (rG 7) ?_)
        refine Vs 2 ?_
        obtain ⟨ev,ew,ex⟩:=bS et
        obtain ⟨ey,hx286'⟩:=Ah ew
        obtain ⟨ez,g0,je,jf,jg,rfl,hF295,hE296⟩:=Yz (Yu b2 hn) hx286'
        have g1:=hE296 _ _ hx286'
        refine Ix ey<|Lx 0 (ht.pers _ _ hF295) g1 ?_
        obtain ⟨g2,g3,g4⟩:=bS ex
        refine Cl' EK ht (FF N en hc ht.pers (hG.mono (((((hq.t h7).trans hz).trans ha).trans bh).trans hn)) ev _ g3) ?_
        rintro _ g5 jh g6 bl rfl
        refine Vs 1<|St1 #[(vi h1.2),(vi h3.2),(vi g2)] g6 (fun ji g7=>?_)
        refine Nt<|Rg [0,1,2]<|Vs 1 ?_
        obtain ⟨g8,g9,ga⟩:=bS g4
        obtain ⟨gh,gi,gk,gl,gm⟩:=Fq (P:=Tryz.prog) (T:=AF) (lo:=(some (.const (vi 1)))) (hi:=none) (mx:=none) (t:=55) (E:=9) (by_:=16) (c:=hb) (a:=(some ⟨ez,g0,none⟩)) (l:=h3.1) (r:=g8) (il:=1) (ih:=(h3.1.length:Int)) (im:=0) (by kernel_rfl) (by kernel_rfl) bi (Yu b2 (hn.t bl)) (fun h=>by first | rfl | cases h) g9
        refine V 43 55 (gm (x:=(.tmp 42)) rfl rfl rfl trivial)<|Vs 1<|Yn ?_
        obtain rfl:=Aa ga
        exact .inl ⟨rfl,g5,gh,gi,g7,bl,fI,gk,gl⟩
       ·refine Sc ?_
        obtain rfl:=Aa eu
        exact .inl ⟨rfl,hc,hk,hb,ht,(Ys _),fI,bi,(Yu b2 hn)⟩
      ·rintro f gn ⟨ho,b4,b5,hu,go,⟨_,rfl⟩,jj,jk⟩
       refine Ao<|Ab<|Rg [0,1]<|Vs 2<|Nt<|URL.step<|Sq (Rg [0] ?_)
       refine Vs 1<|Nss<|C0 (rfl:false=false)<|Ex<|Al<|Al<|Av rfl<|Ab<|Sq<|Sq (Rg (rG 8) ?_)
       refine Ld hu.at3<|Ld hu.at1 ?_
       obtain ⟨b6,gp,gr⟩:=bS ep
       refine Cl' Ee hu (EC N gn ho hu.pers (hG.mono ((((((hq.t h7).trans hz).trans ha).trans bh).trans hn).trans go)) (({Report:=x0.Report,Serial:=x0.Serial,Zone:=x0.Zone}:Ac)) (({Report:=h1.2,Serial:=h3.2,Zone:=h6.2}:Ae)) _ gp) ?_
       rintro _ b7 jl bm jm rfl
       refine Vs 5<|Nss (Rg (rG 7) ?_)
       refine Yx (fun f w=>∃ (hp:Mem),HS w0 F0 w hp [(sb h0 #[(vi h1.2),(vi h3.2),(vi h6.2)] 32),(sb h4 #[(vi 0),(vi 0),(vi 0)] 32)]/\Yr b7 hp/\FI f [] [(4,(pt h4 0)),(7,(pt h0 0)),(57,(.bool ((b6.2 !=0)||(b6.1 !=x1))))]) ?_ ?_
       ·refine Vs 3 ?_
        refine Yw (b6.2 !=0) (fun h8=>?_) (fun h8=>?_)
        ·refine Ss h8 3 ?_
         refine Pk1 h8 ?_
         exact Yn ⟨rfl,b7,bm.dr0.dr2,(Ys _),(fJ ⟨rfl,rfl,(congrArg Value.bool (Fc h8 rfl)),trivial⟩)⟩
        ·refine Vgs h8 3 ?_
         refine Pk0 h8 ?_
         exact Yn ⟨rfl,b7,bm.dr0.dr2,(Ys _),(fJ ⟨rfl,rfl,(congrArg Value.bool (Cm h8 rfl)),trivial⟩)⟩
       ·rintro f jo ⟨hp,b8,jp,⟨_,rfl⟩⟩
        refine Ab<|Cd gr (fun gs gu=>?_) (fun gs gv=>?_)
        ·refine Sq (Rg [0,1,2] ?_)
         refine Vs 1<|St1 #[(vi 0),(vi 0),(vi 0)] b8 (fun jq bn=>?_)
         refine Vs 1<|Nt<|Rt<|Ad ?_
         obtain rfl:=Aa gu
         exact ⟨rfl,(.tuple #[(.agg #[(vi 0),(vi 0),(vi 0)]),(vi 1)]),AJ (l:=[.cell 4 32,.tmp 5]) (by kernel_rfl) (vs:=[(.agg #[(vi 0),(vi 0),(vi 0)]),(vi 1)]) ⟨h4,0,rfl,Ai (t:=32) (g:=true) (s:=3) (by kernel_rfl) bn.at1 rfl (by decide),⟨rfl,trivial⟩⟩,(.tuple #[(.agg #[(vi 0),(vi 0),(vi 0)]),(vi 1)]),hp,rfl,bn.clear,rfl⟩
        ·refine Sc ?_
         refine Ab<|Sq (Rg [0,1,2] ?_)
         refine Ld b8.at0<|St1 #[(vi h1.2),(vi h3.2),(vi h6.2)] b8 (fun jr bo=>?_)
         refine Vs 1<|Nt<|Rt ?_
         obtain rfl:=Aa gv
         exact ⟨rfl,(.tuple #[(.agg #[(vi h1.2),(vi h3.2),(vi h6.2)]),(vi 0)]),AJ (l:=[.cell 4 32,.tmp 5]) (by kernel_rfl) (vs:=[(.agg #[(vi h1.2),(vi h3.2),(vi h6.2)]),(vi 0)]) ⟨h4,0,rfl,Ai (t:=32) (g:=true) (s:=3) (by kernel_rfl) bo.at1 rfl (by decide),⟨rfl,trivial⟩⟩,(.tuple #[(.agg #[(vi h1.2),(vi h3.2),(vi h6.2)]),(vi 0)]),hp,rfl,bo.clear,rfl⟩
def Fo (N:Nat) (x0:YL):(List YL×Int×Int)->Option (A9 (List YL) (List YL×Int×Int)):=fun h0=>
 (bif (decide (h0.2.2 < (x0.length:Int))) then ((Hu x0 h0.2.2).bind fun h2=>((bif (h2==32) then ((G5 x0 h0.2.1 h0.2.2).bind fun h3=>((CD h0.1 [h3]).bind fun h4=>some (h4,(W64 (h0.2.2 + 1))))) else some (h0.1,h0.2.1)).bind fun h1=>some (.next (h1.1,h1.2,(W64 (h0.2.2 + 1)))))) else some (.done (h0.1,h0.2.1,h0.2.2)))
def Gt (N:Nat) (x0:YL):Option (List YL):=
 ((AH (Fo N x0) N (([]:List YL),0,0)).bind fun o=>o.k (fun r=>some r) (fun h0=>((G5 x0 h0.2.1 (x0.length:Int)).bind fun h1=>((CD h0.1 [h1]).bind fun h2=>some h2))))
theorem J1:Af Tryz.prog 167:=fun _ _=>by kernel_rfl
theorem K7 (N:Nat) (w0:World) (F0:Mem) (hF:YN w0 F0) (x0:YL) (r:(List YL)) (h:Gt N x0=some r):
  Calls Tryz.prog 167 ([(sv x0)]:List Value).toArray w0 (AC w0 F0 fun F' v=>∃ (hg:YM) (hh:Nat),v=(sL hg r hh)/\LC r.length hh/\SlA AF F' hg r):=by
 have hu:=Yt hF
 refine Go 31 Tryz.func167<|Sq (Rg [0] ?_)
 refine Vs 1<|Nss (Rg [0] ?_)
 refine Vs 1<|Nss (Rg [0] ?_)
 refine Vs 1<|Nss<|Sq (Rg [0] ?_)
 refine Vs 1<|Nt ?_
 have hv:=hu.dummy (oc #[] 0)
 obtain ⟨hk,hw,hx⟩:=bS h
 refine Yy (fun f w=>∃ (h1:(List YL×Int×Int)) (F2:Mem) (hb:YM) (hc:Nat) (hd:Option Nat×Obj),hk=.done h1/\HS w0 F0 w F2 [hd]/\Yr F0 F2/\FI f [] [(0,(sv x0)),(3,(sL hb h1.1 hc)),(4,(vi h1.2.1))]/\Ap AF 9 F2 hb hc h1.1 hd) ?_ ?_
 ·refine Bk ?_
  refine Yq (by kernel_rfl) (fun m f w=>∃ (h0:(List YL×Int×Int)) (F1:Mem) (h2:YM) (h3:Nat) (h4:Option Nat×Obj),AH (Fo N x0) m h0=some hk/\HS w0 F0 w F1 [h4]/\Yr F0 F1/\FI f [] [(0,(sv x0)),(3,(sL h2 h0.1 h3)),(4,(vi h0.2.1)),(5,(vi h0.2.2))]/\Ap AF 9 F1 h2 h3 h0.1 h4) N ⟨(([]:List YL),0,0),F0,none,0,(none,.cells #[] 0 (0,0)),hw,hv,(Ys _),fI,(YG AF 9 F0 _)⟩ ?_
  rintro c6 f c7 ⟨h0,F1,h2,h3,h4,hy,he,hl,⟨_,rfl⟩,hf⟩
  obtain ⟨hz,c8,rfl,b0,hm⟩:=AD hy
  refine Sq<|Sq (Rg (rG 4) ?_)
  refine Vs 4<|Nt<|Cd b0 (fun b1 b2=>?_) (fun b1 b3=>?_)
  ·refine Sc ?_
   refine Ab<|Sq<|Bk<|Sq (Rg (rG 4) ?_)
   refine Vs 2 ?_
   obtain ⟨b4,b5,b6⟩:=bS b2
   refine V 14 5 (Ce (t:=9) (x:=(.tmp 12)) (y:=(.tmp 13)) (a:=x0) (k:=.i64) (i:=h0.2.2) (v:=b4) rfl rfl (by kernel_rfl) b5)<|Vs 1<|Nt ?_
   obtain ⟨h5,b7,b8⟩:=bS b6
   refine Yy (fun f w=>∃ (F3:Mem) (h6:YM) (h7:Nat) (h8:Option Nat×Obj),HS w0 F0 w F3 [h8]/\Yr F1 F3/\FI f [] [(0,(sv x0)),(3,(sL h6 h5.1 h7)),(4,(vi h5.2)),(5,(vi h0.2.2))]/\Ap AF 9 F3 h6 h7 h5.1 h8) ?_ ?_
   ·refine Cd b7 (fun b9 ba=>?_) (fun b9 bb=>?_)
    ·refine Sq (Rg (rG 8) ?_)
     refine Vs 4 ?_
     obtain ⟨h9,bc,bd⟩:=bS ba
     refine V 20 9 (CQ (t:=9) (x:=(.tmp 17)) (lo:=(some (.tmp 18))) (hi:=(some (.tmp 19))) (a:=x0) (il:=h0.2.1) (ih:=h0.2.2) (v:=h9) rfl (by kernel_rfl) rfl rfl bc)<|Bs 9 [(sv h9)] he (fun hn c9 ho=>?_)
     have be:Ap AF 9 F1 (some ⟨hn,0,none⟩) 1 [h9] (some hn,.cells ([(sv h9)]:List Value).toArray 9 (0,0)):=YH ⟨rfl,rfl⟩ (by simp)
     obtain ⟨ca,bf,bg⟩:=bS bd
     refine Ap1 NT ho hf (ho.rd0 be) bf (fun bh bi bj cb bk bl=>?_)
     refine Vs 1<|Nt<|Rg [0,1,2]<|Vs 3<|Yn ?_
     obtain rfl:=Aa bg
     exact .inl ⟨rfl,F1,bh,bi,bj,bk.dr0,(Ys _),fI,bl⟩
    ·refine Sc ?_
     obtain rfl:=Aa bb
     exact .inl ⟨rfl,F1,h2,h3,h4,he,(Ys _),fI,hf⟩
   ·rintro f cc ⟨F3,h6,h7,h8,bm,bn,⟨_,rfl⟩,bo⟩
    refine Ao<|Ab<|Rg [0,1,2]<|Vs 3<|Yn ?_
    have bp:=AA b8 hm
    exact ⟨hz,Nat.lt_succ_self _,(h5.1,h5.2,(W64 (h0.2.2 + 1))),F3,h6,h7,h8,bp,bm,(hl.t bn),fI,bo⟩
  ·refine Ex ?_
   refine Al<|Al<|Av rfl ?_
   have bq:=AB b3 hm
   exact .inl ⟨rfl,(h0.1,h0.2.1,h0.2.2),F1,h2,h3,h4,bq,he,hl,fI,hf⟩
 ·rintro f cd ⟨h1,F2,hb,hc,hd,rfl,br,ce,⟨_,rfl⟩,bs⟩
  have bt:=A4 hx
  refine Ab<|Sq (Rg (rG 7) ?_)
  refine Vs 3 ?_
  obtain ⟨ha,bu,bv⟩:=bS bt
  refine V 28 9 (CQ (t:=9) (x:=(.tmp 26)) (lo:=(some (.tmp 27))) (hi:=none) (a:=x0) (il:=h1.2.1) (ih:=(x0.length:Int)) (v:=ha) rfl (by kernel_rfl) rfl rfl bu)<|Bs 9 [(sv ha)] br (fun hp cf hq=>?_)
  have bw:Ap AF 9 F2 (some ⟨hp,0,none⟩) 1 [ha] (some hp,.cells ([(sv ha)]:List Value).toArray 9 (0,0)):=YH ⟨rfl,rfl⟩ (by simp)
  obtain ⟨bx,bz,c0⟩:=bS bv
  refine Ap1 NT hq bs (hq.rd0 bw) bz (fun hr hs cg ch c1 ht=>?_)
  refine Vs 1<|Nt<|Rt ?_
  have c3:=YF ht
  obtain ⟨F4,c4,ci,c5⟩:=c1.fr1 ht
  obtain rfl:=Aa c0
  exact Re [(sL hr bx hs)] c4 ⟨hr,hs,rfl,c3,c5⟩
def D9 (N:Nat) (x0:Int):Option Bool:=
 some ((decide (48<=x0))&&(decide (x0<=57)))
theorem Fw:Af Tryz.prog 204:=fun _ _=>by kernel_rfl
theorem Gk (N:Nat) (w0:World) (F0:Mem) (hF:YN w0 F0) (x0:Int) (r:Bool) (h:D9 N x0=some r):
  Calls Tryz.prog 204 ([(.int .u8 x0)]:List Value).toArray w0 (AC w0 F0 fun F' v=>v=(.bool r)):=by
 have h1:=Yt hF
 refine Go 9 Tryz.func204<|Sq (Rg [0] ?_)
 refine Vs 1<|Nss (Rg (rG 7) ?_)
 refine Yx (fun f w=>∃ (F1:Mem),HS w0 F0 w F1 []/\Yr F0 F1/\FI f [] [(2,(.bool ((decide (48<=x0))&&(decide (x0<=57)))))]) ?_ ?_
 ·refine Vs 3 ?_
  refine Yw (decide (48<=x0)) (fun h0=>?_) (fun h0=>?_)
  ·refine Vgs h0 2 ?_
   refine Pk1 h0<|Vs 1 ?_
   exact Yn ⟨rfl,F0,h1,(Ys _),(fJ ⟨(congrArg Value.bool (IG h0 rfl)),trivial⟩)⟩
  ·refine Ss h0 2 ?_
   refine Pk0 h0<|Vs 1 ?_
   exact Yn ⟨rfl,F0,h1,(Ys _),(fJ ⟨(congrArg Value.bool (IH h0 rfl)),trivial⟩)⟩
 ·rintro f h3 ⟨F1,h2,h4,⟨_,rfl⟩⟩
  refine Ab<|Rt ?_
  obtain rfl:=Aa h
  exact Re [(.bool ((decide (48<=x0))&&(decide (x0<=57))))] h2 rfl
def DD (N:Nat) (x0:YL):(Int×Int)->Option (A9 Int (Int×Int)):=fun h0=>
 (bif (decide (h0.2 < (x0.length:Int))) then ((Hu x0 h0.2).bind fun h1=>((D9 N h1).bind fun h2=>(bif (!h2) then some (.ret (-1)) else ((Hu x0 h0.2).bind fun h3=>some (.next ((W64 ((W64 (10 * h0.1)) + (W64 (IntKind.u8.wrap (h3 - 48))))),(W64 (h0.2 + 1)))))))) else some (.done (h0.1,h0.2)))
def Bp (N:Nat) (x0:YL):Option Int:=
 (bif ((decide ((x0.length:Int) < 1))||(decide ((x0.length:Int) > 9))) then some (-1) else ((AH (DD N x0) N (0,0)).bind fun o=>o.k (fun r=>some r) (fun h0=>some h0.1)))
theorem DG:Af Tryz.prog 168:=fun _ _=>by kernel_rfl
theorem Ef (N:Nat) (w0:World) (F0:Mem) (hF:YN w0 F0) (x0:YL) (r:Int) (h:Bp N x0=some r):
  Calls Tryz.prog 168 ([(sv x0)]:List Value).toArray w0 (AC w0 F0 fun F' v=>v=(vi r)):=by
 have h5:=Yt hF
 refine Go 33 Tryz.func168<|Sq (Rg [0] ?_)
 refine Vs 1<|Nss<|Sq (Rg (rG 8) ?_)
 refine Yx (fun f w=>∃ (F1:Mem),HS w0 F0 w F1 []/\Yr F0 F1/\FI f [] [(0,(sv x0)),(12,(.bool ((decide ((x0.length:Int) < 1))||(decide ((x0.length:Int) > 9)))))]) ?_ ?_
 ·refine Vs 4 ?_
  refine Yw (decide ((x0.length:Int) < 1)) (fun h1=>?_) (fun h1=>?_)
  ·refine Ss h1 3 ?_
   refine Pk1 h1 ?_
   exact Yn ⟨rfl,F0,h5,(Ys _),(fJ ⟨rfl,(congrArg Value.bool (Fc h1 rfl)),trivial⟩)⟩
  ·refine Vgs h1 3 ?_
   refine Pk0 h1 ?_
   exact Yn ⟨rfl,F0,h5,(Ys _),(fJ ⟨rfl,(congrArg Value.bool (Cm h1 rfl)),trivial⟩)⟩
 ·rintro f b4 ⟨F1,h6,b5,⟨_,rfl⟩⟩
  refine Ab<|Cd h (fun hd he=>?_) (fun hd hf=>?_)
  ·refine Sq (Rg [0] ?_)
   refine Vs 1<|Nt<|Rt<|Ad ?_
   obtain rfl:=Aa he
   exact Re [(vi (-1))] h6 rfl
  ·refine Sc ?_
   refine Ab<|Sq (Rg [0] ?_)
   refine Vs 1<|Nss<|Sq (Rg [0] ?_)
   refine Vs 1<|Nt ?_
   obtain ⟨h7,hg,h8⟩:=bS hf
   refine Yy (fun f w=>∃ (h2:(Int×Int)) (F3:Mem),h7=.done h2/\HS w0 F0 w F3 []/\Yr F1 F3/\FI f [] [(3,(vi h2.1))]) ?_ ?_
   ·refine Bk ?_
    refine Yq (by kernel_rfl) (fun m f w=>∃ (h0:(Int×Int)) (F2:Mem),AH (DD N x0) m h0=some h7/\HS w0 F0 w F2 []/\Yr F1 F2/\FI f [] [(0,(sv x0)),(3,(vi h0.1)),(4,(vi h0.2))]) N ⟨(0,0),F1,hg,h6,(Ys _),fI⟩ ?_
    rintro b6 f hh ⟨h0,F2,hk,h3,h9,⟨_,rfl⟩⟩
    obtain ⟨hl,b7,rfl,hm,h4⟩:=AD hk
    refine Sq<|Sq (Rg (rG 4) ?_)
    refine Vs 4<|Nt<|Cd hm (fun hn ho=>?_) (fun hn hp=>?_)
    ·refine Sc ?_
     refine Ab<|Sq<|Bk<|Sq<|Sq (Rg (rG 5) ?_)
     refine Vs 2 ?_
     obtain ⟨ha,hq,hr⟩:=bS ho
     refine V 21 5 (Ce (t:=9) (x:=(.tmp 19)) (y:=(.tmp 20)) (a:=x0) (k:=.i64) (i:=h0.2) (v:=ha) rfl rfl (by kernel_rfl) hq) ?_
     obtain ⟨b8,hs,ht⟩:=bS hr
     refine Cl' Fw h3 (Gk N hh F2 h3.pers ha _ hs) ?_
     rintro _ F4 b9 hb hu rfl
     refine Vs 1<|Nt<|Cd ht (fun hv hw=>?_) (fun hv hx=>?_)
     ·refine Sq (Rg [0] ?_)
      refine Vs 1<|Nt<|Rt<|Ad<|Aq<|Ad<|Ad<|Aq ?_
      have hret:=Bq hw h4
      subst hret
      refine .inr<|Ad ?_
      obtain rfl:=Aa h8
      exact Re [(vi (-1))] hb rfl
     ·refine Sc ?_
      refine Ab<|Rg (rG 9)<|Vs 4 ?_
      obtain ⟨hc,hy,hz⟩:=bS hx
      refine V 28 5 (Ce (t:=9) (x:=(.tmp 26)) (y:=(.tmp 27)) (a:=x0) (k:=.i64) (i:=h0.2) (v:=hc) rfl rfl (by kernel_rfl) hy)<|Vs 4<|Yn<|Ao<|Ab<|Rg [0,1,2]<|Vs 3<|Yn ?_
      have b0:=AA hz h4
      exact ⟨hl,Nat.lt_succ_self _,((W64 ((W64 (10 * h0.1)) + (W64 (IntKind.u8.wrap (hc - 48))))),(W64 (h0.2 + 1))),F4,b0,hb,(h9.t hu),fI⟩
    ·refine Ex ?_
     refine Al<|Al<|Av rfl ?_
     have b1:=AB hp h4
     exact .inl ⟨rfl,(h0.1,h0.2),F2,b1,h3,h9,fI⟩
   ·rintro f ba ⟨h2,F3,rfl,b2,bb,⟨_,rfl⟩⟩
    have b3:=A4 h8
    refine Ab<|Sq (Rg [0,1] ?_)
    refine Vs 2<|Nt<|Rt ?_
    obtain rfl:=Aa b3
    exact Re [(vi h2.1)] b2 rfl
def EP (N:Nat) (x0:YL):Option (Int×Int):=
 ((Gt N x0).bind fun h1=>(bif ((decide ((x0.length:Int) > 20))||((h1.length:Int)!=2)) then some (0,13) else ((idx h1 0).bind fun h4=>((Bp N h4).bind fun h2=>((idx h1 1).bind fun h5=>((Bp N h5).bind fun h0=>(bif ((decide (h2 < 1))||(decide (h0 < 0))) then some (0,13) else ((Ck N (W64 ((W64 ((W64 ((W64 (h2 - 1)) * 1440)) + (W64 ((W64 (Int.tdiv h0 100)) * 60)))) + (Int.tmod h0 100)))).bind fun h3=>(bif ((h3.2 !=0)||(h3.1 !=x0)) then some (0,13) else some ((W64 ((W64 ((W64 ((W64 (h2 - 1)) * 1440)) + (W64 ((W64 (Int.tdiv h0 100)) * 60)))) + (Int.tmod h0 100))),0))))))))))
theorem Lv:Af Tryz.prog 100:=fun _ _=>by kernel_rfl
theorem Ms (N:Nat) (w0:World) (F0:Mem) (hF:YN w0 F0) (x0:YL) (r:(Int×Int)) (h:EP N x0=some r):
  Calls Tryz.prog 100 ([(sv x0)]:List Value).toArray w0 (AC w0 F0 fun F' v=>v=(.tuple #[(vi r.1),(vi r.2)])):=by
 have h9:=Yt hF
 refine Go 57 Tryz.func100<|Sq (Rg [0,1] ?_)
 refine Vs 2<|Nss (Rg [0,1,2] ?_)
 refine Vs 1 ?_
 obtain ⟨ha,hf,hg⟩:=bS h
 refine Cl' J1 h9 (K7 N w0 F0 h9.pers x0 _ hf) ?_
 rintro _ F1 bg hb bh ⟨hh,hk,rfl,bi,hl⟩
 refine Vs 1<|Nss<|Sq (Rg (rG 8) ?_)
 refine Yx (fun f w=>∃ (F2:Mem),HS w0 F0 w F2 []/\Yr F1 F2/\FI f [] [(0,(sv x0)),(4,(sL hh ha hk)),(19,(.bool ((decide ((x0.length:Int) > 20))||((ha.length:Int)!=2))))]) ?_ ?_
 ·refine Vs 4 ?_
  refine Yw (decide ((x0.length:Int) > 20)) (fun h1=>?_) (fun h1=>?_)
  ·refine Ss h1 3 ?_
   refine Pk1 h1 ?_
   exact Yn ⟨rfl,F1,hb,(Ys _),(fJ ⟨rfl,rfl,(congrArg Value.bool (Fc h1 rfl)),trivial⟩)⟩
  ·refine Vgs h1 3 ?_
   refine Pk0 h1 ?_
   exact Yn ⟨rfl,F1,hb,(Ys _),(fJ ⟨rfl,rfl,(congrArg Value.bool (Cm h1 rfl)),trivial⟩)⟩
 ·rintro f hm ⟨F2,h5,hn,⟨_,rfl⟩⟩
  refine Ab<|Cd hg (fun ho hp=>?_) (fun ho hq=>?_)
  ·refine Sq (Rg [0,1] ?_)
   refine Vs 2<|Nt<|Rt<|Ad ?_
   obtain rfl:=Aa hp
   exact Re [(vi 0),(vi 13)] h5 rfl
  ·refine Sc ?_
   refine Ab<|Sq (Rg (rG 5) ?_)
   refine Vs 1 ?_
   obtain ⟨hr,hs,ht⟩:=bS hq
   obtain ⟨hu,hx41'⟩:=Ah hs
   obtain ⟨bj,bk,bl,bm,bn,rfl,hF50,hE51⟩:=Yz (Yu hl hn) hx41'
   have hv:=hE51 _ _ hx41'
   refine Ix hu<|Lx 0 (h5.pers _ _ hF50) hv ?_
   obtain ⟨h4,hw,hx⟩:=bS ht
   refine Cl' DG h5 (Ef N hm F2 h5.pers hr _ hw) ?_
   rintro _ F3 hy h6 hz rfl
   refine Vs 1<|Nss (Rg (rG 5) ?_)
   refine Vs 1 ?_
   obtain ⟨b0,b1,b2⟩:=bS hx
   obtain ⟨b3,hx63'⟩:=Ah b1
   have b4:=hE51 _ _ hx63'
   refine Ix b3<|Lx 0 (h6.pers _ _ (hz _ _ hF50)) b4 ?_
   obtain ⟨h0,b5,b6⟩:=bS b2
   refine Cl' DG h6 (Ef N hy F3 h6.pers b0 _ b5) ?_
   rintro _ F4 bo hc bp rfl
   refine Vs 1<|Nss<|Sq (Rg (rG 6) ?_)
   refine Yx (fun f w=>∃ (F5:Mem),HS w0 F0 w F5 []/\Yr F4 F5/\FI f [] [(0,(sv x0)),(5,(vi h4)),(6,(vi h0)),(33,(.bool ((decide (h4 < 1))||(decide (h0 < 0)))))]) ?_ ?_
   ·refine Vs 3 ?_
    refine Yw (decide (h4 < 1)) (fun h2=>?_) (fun h2=>?_)
    ·refine Ss h2 2 ?_
     refine Pk1 h2 ?_
     exact Yn ⟨rfl,F4,hc,(Ys _),(fJ ⟨rfl,rfl,rfl,(congrArg Value.bool (Fc h2 rfl)),trivial⟩)⟩
    ·refine Vgs h2 2 ?_
     refine Pk0 h2 ?_
     exact Yn ⟨rfl,F4,hc,(Ys _),(fJ ⟨rfl,rfl,rfl,(congrArg Value.bool (Cm h2 rfl)),trivial⟩)⟩
   ·rintro f b7 ⟨F5,h7,bq,⟨_,rfl⟩⟩
    refine Ab<|Cd b6 (fun b8 b9=>?_) (fun b8 ba=>?_)
    ·refine Sq (Rg [0,1] ?_)
     refine Vs 2<|Nt<|Rt<|Ad ?_
     obtain rfl:=Aa b9
     exact Re [(vi 0),(vi 13)] h7 rfl
    ·refine Sc ?_
     refine Ab<|Sq (Rg (rG 11) ?_)
     refine Vs 11<|Nss (Rg (rG 7) ?_)
     refine Vs 1 ?_
     obtain ⟨h8,bb,bc⟩:=bS ba
     refine Cl' Hj h7 (HO N b7 F5 h7.pers ((W64 ((W64 ((W64 ((W64 (h4 - 1)) * 1440)) + (W64 ((W64 (Int.tdiv h0 100)) * 60)))) + (Int.tmod h0 100)))) _ bb) ?_
     rintro _ F6 br hd bs rfl
     refine Vs 5<|Nss<|Sq (Rg (rG 7) ?_)
     refine Yx (fun f w=>∃ (F7:Mem),HS w0 F0 w F7 []/\Yr F6 F7/\FI f [] [(7,(vi (W64 ((W64 ((W64 ((W64 (h4 - 1)) * 1440)) + (W64 ((W64 (Int.tdiv h0 100)) * 60)))) + (Int.tmod h0 100))))),(55,(.bool ((h8.2 !=0)||(h8.1 !=x0))))]) ?_ ?_
     ·refine Vs 3 ?_
      refine Yw (h8.2 !=0) (fun h3=>?_) (fun h3=>?_)
      ·refine Ss h3 3 ?_
       refine Pk1 h3 ?_
       exact Yn ⟨rfl,F6,hd,(Ys _),(fJ ⟨rfl,(congrArg Value.bool (Fc h3 rfl)),trivial⟩)⟩
      ·refine Vgs h3 3 ?_
       refine Pk0 h3 ?_
       exact Yn ⟨rfl,F6,hd,(Ys _),(fJ ⟨rfl,(congrArg Value.bool (Cm h3 rfl)),trivial⟩)⟩
     ·rintro f bt ⟨F7,he,bu,⟨_,rfl⟩⟩
      refine Ab<|Cd bc (fun bd be=>?_) (fun bd bf=>?_)
      ·refine Sq (Rg [0,1] ?_)
       refine Vs 2<|Nt<|Rt<|Ad ?_
       obtain rfl:=Aa be
       exact Re [(vi 0),(vi 13)] he rfl
      ·refine Sc ?_
       refine Ab<|Sq (Rg [0,1,2] ?_)
       refine Vs 3<|Nt<|Rt ?_
       obtain rfl:=Aa bf
       exact Re [(vi (W64 ((W64 ((W64 ((W64 (h4 - 1)) * 1440)) + (W64 ((W64 (Int.tdiv h0 100)) * 60)))) + (Int.tmod h0 100)))),(vi 0)] he rfl
def Cl (N:Nat) (x0:Ac) (x1:YL):Option (Ae×Int):=
 (bif (decide ((x1.length:Int) > 100)) then some (({Report:=0,Serial:=0,Zone:=0}:Ae),1) else ((Gt N x1).bind fun h0=>((bif (x0.Report&&(decide (0 < (h0.length:Int)))) then ((idx h0 0).bind fun h5=>((Bp N h5).bind fun h6=>some ((W64 (0 + 1)),h6))) else some (0,0)).bind fun h1=>((bif (x0.Serial&&(decide (h1.1 < (h0.length:Int)))) then ((idx h0 h1.1).bind fun h7=>((Bp N h7).bind fun h8=>some ((W64 (h1.1 + 1)),h8))) else some (h1.1,0)).bind fun h2=>((bif (x0.Zone&&(decide (h2.1 < (h0.length:Int)))) then ((idx h0 h2.1).bind fun h9=>((Bp N h9).bind fun ha=>some ha)) else some 0).bind fun h3=>((A7 N ({Report:=x0.Report,Serial:=x0.Serial,Zone:=x0.Zone}:Ac) ({Report:=h1.2,Serial:=h2.2,Zone:=h3}:Ae)).bind fun h4=>(bif ((h4.2 !=0)||(h4.1 !=x1)) then some (({Report:=0,Serial:=0,Zone:=0}:Ae),1) else some (({Report:=h1.2,Serial:=h2.2,Zone:=h3}:Ae),0))))))))
theorem BE:Af Tryz.prog 101:=fun _ _=>by kernel_rfl
theorem BJ (N:Nat) (w0:World) (F0:Mem) (hF:YN w0 F0) (x0:Ac) (x1:YL) (r:(Ae×Int)) (h:Cl N x0 x1=some r):
  Calls Tryz.prog 101 ([(.agg (Ag x0)),(sv x1)]:List Value).toArray w0 (AC w0 F0 fun F' v=>v=(.tuple #[(.agg (A3 r.1)),(vi r.2)])):=by
 have hz:=Yt hF
 refine Go 81 Tryz.func101<|Sq (Rg [0,1,2] ?_)
 refine Bx' 23 (Ag x0) hz (fun h4 d1 b0=>?_)
 refine Al' 32 #[(vi 0),(vi 0),(vi 0)] b0 (fun h0 b1 hk=>?_)
 refine Vs 1<|Nss<|Sq (Rg [0,1,2] ?_)
 refine Vs 3<|Nt<|Cd h (fun b2 b3=>?_) (fun b2 b4=>?_)
 ·refine Sq (Rg [0,1,2] ?_)
  refine Vs 1<|St0 #[(vi 0),(vi 0),(vi 0)] hk (fun d2 ht=>?_)
  refine Vs 1<|Nt<|Rt<|Ad ?_
  obtain rfl:=Aa b3
  exact ⟨rfl,(.tuple #[(.agg #[(vi 0),(vi 0),(vi 0)]),(vi 1)]),AJ (l:=[.cell 4 32,.tmp 5]) (by kernel_rfl) (vs:=[(.agg #[(vi 0),(vi 0),(vi 0)]),(vi 1)]) ⟨h0,0,rfl,Ai (t:=32) (g:=true) (s:=3) (by kernel_rfl) ht.at0 rfl (by decide),⟨rfl,trivial⟩⟩,(.tuple #[(.agg #[(vi 0),(vi 0),(vi 0)]),(vi 1)]),F0,rfl,ht.clear,rfl⟩
 ·refine Sc ?_
  refine Ab<|Sq (Rg [0,1,2] ?_)
  refine Vs 1 ?_
  obtain ⟨h5,b5,b6⟩:=bS b4
  refine Cl' J1 hk (K7 N b1 F0 hk.pers x1 _ b5) ?_
  rintro _ F1 d3 b7 d4 ⟨hb,hc,rfl,d6,hl⟩
  refine Vs 1<|Nss (Rg [0,1,2] ?_)
  refine Vs 1<|Al' 32 #[(vi 0),(vi 0),(vi 0)] b7 (fun h2 d7 b8=>?_)
  refine St0 #[(vi 0),(vi 0),(vi 0)] b8 (fun d8 hm=>?_)
  refine Nss (Rg [0] ?_)
  refine Vs 1<|Nss<|Sq (Rg (rG 8) ?_)
  refine Yx (fun f w=>∃ (F2:Mem),HS w0 F0 w F2 [(sb h2 #[(vi 0),(vi 0),(vi 0)] 32),(sb h0 #[(vi 0),(vi 0),(vi 0)] 32),(sb h4 (Ag x0) 23)]/\Yr F1 F2/\FI f [] [(1,(sv x1)),(2,(pt h4 0)),(4,(pt h0 0)),(6,(sL hb h5 hc)),(7,(pt h2 0)),(8,(vi 0)),(25,(.bool (x0.Report&&(decide (0 < (h5.length:Int))))))]) ?_ ?_
  ·refine Vs 1 ?_
   refine Ld hm.at2<|Vs 1<|Yw x0.Report (fun h6=>?_) (fun h6=>?_)
   ·refine Vgs h6 4 ?_
    refine Pk1 h6 ?_
    exact Yn ⟨rfl,F1,hm,(Ys _),(fJ ⟨rfl,rfl,rfl,rfl,rfl,rfl,(congrArg Value.bool (IG h6 rfl)),trivial⟩)⟩
   ·refine Ss h6 4 ?_
    refine Pk0 h6 ?_
    exact Yn ⟨rfl,F1,hm,(Ys _),(fJ ⟨rfl,rfl,rfl,rfl,rfl,rfl,(congrArg Value.bool (IH h6 rfl)),trivial⟩)⟩
  ·rintro f b9 ⟨F2,he,hn,⟨_,rfl⟩⟩
   refine Ab ?_
   obtain ⟨h1,ba,bb⟩:=bS b6
   refine Yy (fun f w=>∃ (F3:Mem),HS w0 F0 w F3 [(sb h2 #[(vi h1.2),(vi 0),(vi 0)] 32),(sb h0 #[(vi 0),(vi 0),(vi 0)] 32),(sb h4 (Ag x0) 23)]/\Yr F2 F3/\FI f [] [(1,(sv x1)),(2,(pt h4 0)),(4,(pt h0 0)),(6,(sL hb h5 hc)),(7,(pt h2 0)),(8,(vi h1.1))]) ?_ ?_
   ·refine Cd ba (fun bc bd=>?_) (fun bc be=>?_)
    ·refine Sq (Rg (rG 7) ?_)
     refine Vs 2 ?_
     obtain ⟨bf,bg,bh⟩:=bS bd
     obtain ⟨bi,hx74'⟩:=Ah bg
     obtain ⟨d9,da,db,dc,dd,rfl,hF83,hE84⟩:=Yz (Yu hl hn) hx74'
     have bj:=hE84 _ _ hx74'
     refine Ix bi<|Lx 0 (he.pers _ _ hF83) bj ?_
     obtain ⟨bk,bl,bm⟩:=bS bh
     refine Cl' DG he (Ef N b9 F2 he.pers bf _ bl) ?_
     rintro _ F4 de bn bo rfl
     refine Vs 1<|St0 #[(vi bk),(vi 0),(vi 0)] bn (fun df bp=>?_)
     refine Nt<|Rg [0,1,2]<|Vs 3<|Yn ?_
     obtain rfl:=Aa bm
     exact .inl ⟨rfl,F4,bp,bo,fI⟩
    ·refine Sc ?_
     obtain rfl:=Aa be
     exact .inl ⟨rfl,F2,he,(Ys _),fI⟩
   ·rintro f dg ⟨F3,ho,hu,⟨_,rfl⟩⟩
    refine Ab<|Sq<|Sq (Rg (rG 8) ?_)
    refine Yx (fun f w=>∃ (F5:Mem),HS w0 F0 w F5 [(sb h2 #[(vi h1.2),(vi 0),(vi 0)] 32),(sb h0 #[(vi 0),(vi 0),(vi 0)] 32),(sb h4 (Ag x0) 23)]/\Yr F3 F5/\FI f [] [(1,(sv x1)),(2,(pt h4 0)),(4,(pt h0 0)),(6,(sL hb h5 hc)),(7,(pt h2 0)),(8,(vi h1.1)),(41,(.bool (x0.Serial&&(decide (h1.1 < (h5.length:Int))))))]) ?_ ?_
    ·refine Vs 1 ?_
     refine Ld ho.at2<|Vs 1<|Yw x0.Serial (fun h7=>?_) (fun h7=>?_)
     ·refine Vgs h7 4 ?_
      refine Pk1 h7 ?_
      exact Yn ⟨rfl,F3,ho,(Ys _),(fJ ⟨rfl,rfl,rfl,rfl,rfl,rfl,(congrArg Value.bool (IG h7 rfl)),trivial⟩)⟩
     ·refine Ss h7 4 ?_
      refine Pk0 h7 ?_
      exact Yn ⟨rfl,F3,ho,(Ys _),(fJ ⟨rfl,rfl,rfl,rfl,rfl,rfl,(congrArg Value.bool (IH h7 rfl)),trivial⟩)⟩
    ·rintro f bq ⟨F5,hf,hv,⟨_,rfl⟩⟩
     refine Ab ?_
     obtain ⟨h3,br,bs⟩:=bS bb
     refine Yy (fun f w=>∃ (F6:Mem),HS w0 F0 w F6 [(sb h2 #[(vi h1.2),(vi h3.2),(vi 0)] 32),(sb h0 #[(vi 0),(vi 0),(vi 0)] 32),(sb h4 (Ag x0) 23)]/\Yr F5 F6/\FI f [] [(1,(sv x1)),(2,(pt h4 0)),(4,(pt h0 0)),(6,(sL hb h5 hc)),(7,(pt h2 0)),(8,(vi h3.1))]) ?_ ?_
     ·refine Cd br (fun bt bu=>?_) (fun bt bv=>?_)
      ·refine Sq (Rg (rG 7) ?_)
       refine Vs 2 ?_
       obtain ⟨bw,bx,bz⟩:=bS bu
       obtain ⟨c0,hx126'⟩:=Ah bx
       obtain ⟨dh,di,dj,dk,dl,rfl,hF135,hE136⟩:=Yz (Yu hl ((hn.t hu).trans hv)) hx126'
       have c1:=hE136 _ _ hx126'
       refine Ix c0<|Lx 0 (hf.pers _ _ hF135) c1 ?_
       obtain ⟨c3,c4,c5⟩:=bS bz
       refine Cl' DG hf (Ef N bq F5 hf.pers bw _ c4) ?_
       rintro _ F7 dm c6 c7 rfl
       refine Vs 1<|St0 #[(vi h1.2),(vi c3),(vi 0)] c6 (fun dn c8=>?_)
       refine Nt<|Rg [0,1,2]<|Vs 3<|Yn ?_
       obtain rfl:=Aa c5
       exact .inl ⟨rfl,F7,c8,c7,fI⟩
      ·refine Sc ?_
       obtain rfl:=Aa bv
       exact .inl ⟨rfl,F5,hf,(Ys _),fI⟩
     ·rintro f dp ⟨F6,hp,c9,⟨_,rfl⟩⟩
      refine Ab<|Sq<|Sq (Rg (rG 8) ?_)
      refine Yx (fun f w=>∃ (F8:Mem),HS w0 F0 w F8 [(sb h2 #[(vi h1.2),(vi h3.2),(vi 0)] 32),(sb h0 #[(vi 0),(vi 0),(vi 0)] 32),(sb h4 (Ag x0) 23)]/\Yr F6 F8/\FI f [] [(1,(sv x1)),(2,(pt h4 0)),(4,(pt h0 0)),(6,(sL hb h5 hc)),(7,(pt h2 0)),(8,(vi h3.1)),(57,(.bool (x0.Zone&&(decide (h3.1 < (h5.length:Int))))))]) ?_ ?_
      ·refine Vs 1 ?_
       refine Ld hp.at2<|Vs 1<|Yw x0.Zone (fun h8=>?_) (fun h8=>?_)
       ·refine Vgs h8 4 ?_
        refine Pk1 h8 ?_
        exact Yn ⟨rfl,F6,hp,(Ys _),(fJ ⟨rfl,rfl,rfl,rfl,rfl,rfl,(congrArg Value.bool (IG h8 rfl)),trivial⟩)⟩
       ·refine Ss h8 4 ?_
        refine Pk0 h8 ?_
        exact Yn ⟨rfl,F6,hp,(Ys _),(fJ ⟨rfl,rfl,rfl,rfl,rfl,rfl,(congrArg Value.bool (IH h8 rfl)),trivial⟩)⟩
      ·rintro f ca ⟨F8,hg,cb,⟨_,rfl⟩⟩
       refine Ab ?_
       obtain ⟨h9,cc,cd⟩:=bS bs
       refine Yy (fun f w=>∃ (F9:Mem),HS w0 F0 w F9 [(sb h2 #[(vi h1.2),(vi h3.2),(vi h9)] 32),(sb h0 #[(vi 0),(vi 0),(vi 0)] 32),(sb h4 (Ag x0) 23)]/\Yr F8 F9/\FI f [] [(1,(sv x1)),(2,(pt h4 0)),(4,(pt h0 0)),(7,(pt h2 0))]) ?_ ?_
       ·refine Cd cc (fun ce cf=>?_) (fun ce cg=>?_)
        ·refine Sq (Rg (rG 7) ?_)
         refine Vs 2 ?_
         obtain ⟨ch,ci,cj⟩:=bS cf
         obtain ⟨cl,hx176'⟩:=Ah ci
         obtain ⟨dq,dr,ds,dt,du,rfl,hF185,hE186⟩:=Yz (Yu hl ((((hn.t hu).trans hv).trans c9).trans cb)) hx176'
         have cm:=hE186 _ _ hx176'
         refine Ix cl<|Lx 0 (hg.pers _ _ hF185) cm ?_
         obtain ⟨cn,co,cp⟩:=bS cj
         refine Cl' DG hg (Ef N ca F8 hg.pers ch _ co) ?_
         rintro _ cq dv cr ct rfl
         refine Vs 1<|St0 #[(vi h1.2),(vi h3.2),(vi cn)] cr (fun dw cu=>?_)
         refine Nt<|Rg [0,1,2]<|Vs 3<|Yn ?_
         obtain rfl:=Aa cp
         exact .inl ⟨rfl,cq,cu,ct,fI⟩
        ·refine Sc ?_
         obtain rfl:=Aa cg
         exact .inl ⟨rfl,F8,hg,(Ys _),fI⟩
       ·rintro f cv ⟨F9,hh,dx,⟨_,rfl⟩⟩
        refine Ab<|Sq (Rg (rG 8) ?_)
        refine Ld hh.at2<|Ld hh.at0 ?_
        obtain ⟨hq,cw,cx⟩:=bS cd
        refine Cl' Ds hh (DR N cv F9 hh.pers (({Report:=x0.Report,Serial:=x0.Serial,Zone:=x0.Zone}:Ac)) (({Report:=h1.2,Serial:=h3.2,Zone:=h9}:Ae)) _ cw) ?_
        rintro _ hr dy hw dz rfl
        refine Vs 5<|Nss<|Sq (Rg (rG 7) ?_)
        refine Yx (fun f w=>∃ (hd:Mem),HS w0 F0 w hd [(sb h2 #[(vi h1.2),(vi h3.2),(vi h9)] 32),(sb h0 #[(vi 0),(vi 0),(vi 0)] 32)]/\Yr hr hd/\FI f [] [(4,(pt h0 0)),(7,(pt h2 0)),(78,(.bool ((hq.2 !=0)||(hq.1 !=x1))))]) ?_ ?_
        ·refine Vs 3 ?_
         refine Yw (hq.2 !=0) (fun ha=>?_) (fun ha=>?_)
         ·refine Ss ha 3 ?_
          refine Pk1 ha ?_
          exact Yn ⟨rfl,hr,hw.dr2,(Ys _),(fJ ⟨rfl,rfl,(congrArg Value.bool (Fc ha rfl)),trivial⟩)⟩
         ·refine Vgs ha 3 ?_
          refine Pk0 ha ?_
          exact Yn ⟨rfl,hr,hw.dr2,(Ys _),(fJ ⟨rfl,rfl,(congrArg Value.bool (Cm ha rfl)),trivial⟩)⟩
        ·rintro f e0 ⟨hd,hs,e1,⟨_,rfl⟩⟩
         refine Ab<|Cd cx (fun cy cz=>?_) (fun cy d0=>?_)
         ·refine Sq (Rg [0,1,2] ?_)
          refine Vs 1<|St1 #[(vi 0),(vi 0),(vi 0)] hs (fun e2 hx=>?_)
          refine Vs 1<|Nt<|Rt<|Ad ?_
          obtain rfl:=Aa cz
          exact ⟨rfl,(.tuple #[(.agg #[(vi 0),(vi 0),(vi 0)]),(vi 1)]),AJ (l:=[.cell 4 32,.tmp 5]) (by kernel_rfl) (vs:=[(.agg #[(vi 0),(vi 0),(vi 0)]),(vi 1)]) ⟨h0,0,rfl,Ai (t:=32) (g:=true) (s:=3) (by kernel_rfl) hx.at1 rfl (by decide),⟨rfl,trivial⟩⟩,(.tuple #[(.agg #[(vi 0),(vi 0),(vi 0)]),(vi 1)]),hd,rfl,hx.clear,rfl⟩
         ·refine Sc ?_
          refine Ab<|Sq (Rg [0,1,2] ?_)
          refine Ld hs.at0<|St1 #[(vi h1.2),(vi h3.2),(vi h9)] hs (fun e3 hy=>?_)
          refine Vs 1<|Nt<|Rt ?_
          obtain rfl:=Aa d0
          exact ⟨rfl,(.tuple #[(.agg #[(vi h1.2),(vi h3.2),(vi h9)]),(vi 0)]),AJ (l:=[.cell 4 32,.tmp 5]) (by kernel_rfl) (vs:=[(.agg #[(vi h1.2),(vi h3.2),(vi h9)]),(vi 0)]) ⟨h0,0,rfl,Ai (t:=32) (g:=true) (s:=3) (by kernel_rfl) hy.at1 rfl (by decide),⟨rfl,trivial⟩⟩,(.tuple #[(.agg #[(vi h1.2),(vi h3.2),(vi h9)]),(vi 0)]),hd,rfl,hy.clear,rfl⟩

def Dh (N:Nat) (x0:(List YL)) (x1:YL):Option Bool:=
 ((AZ N x0 x1).bind fun h0=>some (decide (h0>=0)))
theorem Fv:Af Tryz.prog 122:=fun _ _=>by kernel_rfl
theorem FL (N:Nat) (w0:World) (F0:Mem) (hF:YN w0 F0) (x0:(List YL)) (h0:YM) (h1:Nat) (h3:LC x0.length h1) (h4:SlA AF F0 h0 x0) (x1:YL) (r:Bool) (h:Dh N x0 x1=some r):
  Calls Tryz.prog 122 ([(sL h0 x0 h1),(sv x1)]:List Value).toArray w0 (AC w0 F0 fun F' v=>v=(.bool r)):=by
 have h2:=Yt hF
 refine Go 9 Tryz.func122<|Sq (Rg [0] ?_)
 refine Vs 1<|Nss (Rg (rG 5) ?_)
 refine Vs 2 ?_
 obtain ⟨h5,h6,h7⟩:=bS h
 refine Cl' Dm h2 (DI N w0 F0 h2.pers x0 h0 h1 h3 h4 x1 _ h6) ?_
 rintro _ F1 h9 h8 ha rfl
 refine Vs 2<|Nt<|Rt ?_
 obtain rfl:=Aa h7
 exact Re [(.bool (decide (h5>=0)))] h8 rfl
def Bi (N:Nat) (x0:List Fix):(Int×Int×List Fix)->Option (A9 (List Fix) (Int×Int×List Fix)):=fun s4=>
 (bif (decide (s4.1 < s4.2.1)) then none else some (.done (s4.1,s4.2.1,s4.2.2)))
def BD (N:Nat) (x0:List Fix):Option (List Fix):=
 ((AH (Bi N x0) N (0,(W64 ((x0.length:Int) - 1)),x0)).bind fun o=>o.k (fun r=>some r) (fun h0=>some h0.2.2))
theorem Fe:Af Tryz.prog 126:=fun _ _=>by kernel_rfl
theorem FA (N:Nat) {wb w0:World} {Fb F0:Mem} {Lf:Own} (x0:List Fix) (a0:YM) (n0:Nat) (e0:Option Nat×Obj) (h4:Ap LO 64 F0 a0 n0 x0 e0) (h5:HS wb Fb w0 F0 (e0::Lf)) (r:List Fix) (h:BD N x0=some r):
  Calls Tryz.prog 126 ([.slice a0 x0.length n0]:List Value).toArray w0 (fun e w'=>∃ F' e',e=.returned (.tuple #[])/\HS wb Fb w' F' (e'::Lf)/\Yr F0 F'/\Ap LO 64 F' a0 n0 r e'):=by
 refine Pp (n:=28) (c:=Pw Tryz.f126) Tryz.func126 (by kernel_rfl) (by kernel_rfl) (by kernel_rfl)<|Sq (Rg (rG 5) ?_)
 refine Vs 1<|Vs 1<|Vs 1<|Vs 1<|Vs 1<|Nt ?_
 obtain ⟨o1,h6,h3⟩:=bS h
 refine Yy (fun f w=>∃ (h1:(Int×Int×List Fix)) (F2:Mem) (h2:Option Nat×Obj),o1=.done h1/\HS wb Fb w F2 (h2::Lf)/\Yr F0 F2/\FI f [] []/\Ap LO 64 F2 a0 n0 h1.2.2 h2) ?_ ?_
 ·refine Bk ?_
  refine Yq (by kernel_rfl) (fun m f w=>∃ (s4:(Int×Int×List Fix)) (F1:Mem) (h0:Option Nat×Obj),AH (Bi N x0) m s4=some o1/\HS wb Fb w F1 (h0::Lf)/\Yr F0 F1/\FI f [] [(0,(sL a0 s4.2.2 n0)),(2,(vi s4.1)),(3,(vi s4.2.1))]/\Ap LO 64 F1 a0 n0 s4.2.2 h0) N ⟨(0,(W64 ((x0.length:Int) - 1)),x0),F0,e0,h6,h5,(Ys _),fI,h4⟩ ?_
  rintro hn f w5 ⟨s4,F1,h0,h7,h8,h9,⟨_,rfl⟩,ha⟩
  obtain ⟨ho,hp,rfl,hb,hc⟩:=AD h7
  refine Sq<|Sq (Rg [0,1,2] ?_)
  refine Vs 1<|Vs 1<|Vs 1<|Nt<|Cd hb (fun hd he=>?_) (fun hd hf=>?_)
  ·cases he
  ·refine Ex ?_
   refine Al<|Al<|Av rfl ?_
   have hg:=AB hf hc
   exact .inl ⟨rfl,(s4.1,s4.2.1,s4.2.2),F1,h0,hg,h8,h9,fI,ha⟩
 ·rintro f hq ⟨h1,F2,h2,rfl,hh,hk,⟨_,rfl⟩,hl⟩
  have hm:=A4 h3
  have hfin:=Aa hm
  subst hfin
  exact ⟨rfl,.tuple #[],AJ (l:=[]) (by kernel_rfl) (vs:=[]) trivial,F2,_,rfl,hh,hk,hl⟩

def EO (N:Nat) (x0:YL):(List YL×Int×Int)->Option (A9 (List YL) (List YL×Int×Int)):=fun h0=>
 (bif (decide (h0.2.2 < (x0.length:Int))) then ((Hu x0 h0.2.2).bind fun h2=>((bif (h2==47) then ((G5 x0 h0.2.1 h0.2.2).bind fun h3=>((CD h0.1 [h3]).bind fun h4=>some (h4,(W64 (h0.2.2 + 1))))) else some (h0.1,h0.2.1)).bind fun h1=>some (.next (h1.1,h1.2,(W64 (h0.2.2 + 1)))))) else some (.done (h0.1,h0.2.1,h0.2.2)))
def GQ (N:Nat) (x0:YL):Option (List YL):=
 ((AH (EO N x0) N (([]:List YL),0,0)).bind fun o=>o.k (fun r=>some r) (fun h0=>((G5 x0 h0.2.1 (x0.length:Int)).bind fun h1=>((CD h0.1 [h1]).bind fun h2=>some h2))))
theorem N3:Af Tryz.prog 229:=fun _ _=>by kernel_rfl
theorem Pq (N:Nat) (w0:World) (F0:Mem) (hF:YN w0 F0) (x0:YL) (r:(List YL)) (h:GQ N x0=some r):
  Calls Tryz.prog 229 ([(sv x0)]:List Value).toArray w0 (AC w0 F0 fun F' v=>∃ (hg:YM) (hh:Nat),v=(sL hg r hh)/\LC r.length hh/\SlA AF F' hg r):=by
 have hu:=Yt hF
 refine Go 31 Tryz.func229<|Sq (Rg [0] ?_)
 refine Vs 1<|Nss (Rg [0] ?_)
 refine Vs 1<|Nss (Rg [0] ?_)
 refine Vs 1<|Nss<|Sq (Rg [0] ?_)
 refine Vs 1<|Nt ?_
 have hv:=hu.dummy (oc #[] 0)
 obtain ⟨hk,hw,hx⟩:=bS h
 refine Yy (fun f w=>∃ (h1:(List YL×Int×Int)) (F2:Mem) (hb:YM) (hc:Nat) (hd:Option Nat×Obj),hk=.done h1/\HS w0 F0 w F2 [hd]/\Yr F0 F2/\FI f [] [(0,(sv x0)),(3,(sL hb h1.1 hc)),(4,(vi h1.2.1))]/\Ap AF 9 F2 hb hc h1.1 hd) ?_ ?_
 ·refine Bk ?_
  refine Yq (by kernel_rfl) (fun m f w=>∃ (h0:(List YL×Int×Int)) (F1:Mem) (h2:YM) (h3:Nat) (h4:Option Nat×Obj),AH (EO N x0) m h0=some hk/\HS w0 F0 w F1 [h4]/\Yr F0 F1/\FI f [] [(0,(sv x0)),(3,(sL h2 h0.1 h3)),(4,(vi h0.2.1)),(5,(vi h0.2.2))]/\Ap AF 9 F1 h2 h3 h0.1 h4) N ⟨(([]:List YL),0,0),F0,none,0,(none,.cells #[] 0 (0,0)),hw,hv,(Ys _),fI,(YG AF 9 F0 _)⟩ ?_
  rintro c6 f c7 ⟨h0,F1,h2,h3,h4,hy,he,hl,⟨_,rfl⟩,hf⟩
  obtain ⟨hz,c8,rfl,b0,hm⟩:=AD hy
  refine Sq<|Sq (Rg (rG 4) ?_)
  refine Vs 4<|Nt<|Cd b0 (fun b1 b2=>?_) (fun b1 b3=>?_)
  ·refine Sc ?_
   refine Ab<|Sq<|Bk<|Sq (Rg (rG 4) ?_)
   refine Vs 2 ?_
   obtain ⟨b4,b5,b6⟩:=bS b2
   refine V 14 5 (Ce (t:=9) (x:=(.tmp 12)) (y:=(.tmp 13)) (a:=x0) (k:=.i64) (i:=h0.2.2) (v:=b4) rfl rfl (by kernel_rfl) b5)<|Vs 1<|Nt ?_
   obtain ⟨h5,b7,b8⟩:=bS b6
   refine Yy (fun f w=>∃ (F3:Mem) (h6:YM) (h7:Nat) (h8:Option Nat×Obj),HS w0 F0 w F3 [h8]/\Yr F1 F3/\FI f [] [(0,(sv x0)),(3,(sL h6 h5.1 h7)),(4,(vi h5.2)),(5,(vi h0.2.2))]/\Ap AF 9 F3 h6 h7 h5.1 h8) ?_ ?_
   ·refine Cd b7 (fun b9 ba=>?_) (fun b9 bb=>?_)
    ·refine Sq (Rg (rG 8) ?_)
     refine Vs 4 ?_
     obtain ⟨h9,bc,bd⟩:=bS ba
     refine V 20 9 (CQ (t:=9) (x:=(.tmp 17)) (lo:=(some (.tmp 18))) (hi:=(some (.tmp 19))) (a:=x0) (il:=h0.2.1) (ih:=h0.2.2) (v:=h9) rfl (by kernel_rfl) rfl rfl bc)<|Bs 9 [(sv h9)] he (fun hn c9 ho=>?_)
     have be:Ap AF 9 F1 (some ⟨hn,0,none⟩) 1 [h9] (some hn,.cells ([(sv h9)]:List Value).toArray 9 (0,0)):=YH ⟨rfl,rfl⟩ (by simp)
     obtain ⟨ca,bf,bg⟩:=bS bd
     refine Ap1 NT ho hf (ho.rd0 be) bf (fun bh bi bj cb bk bl=>?_)
     refine Vs 1<|Nt<|Rg [0,1,2]<|Vs 3<|Yn ?_
     obtain rfl:=Aa bg
     exact .inl ⟨rfl,F1,bh,bi,bj,bk.dr0,(Ys _),fI,bl⟩
    ·refine Sc ?_
     obtain rfl:=Aa bb
     exact .inl ⟨rfl,F1,h2,h3,h4,he,(Ys _),fI,hf⟩
   ·rintro f cc ⟨F3,h6,h7,h8,bm,bn,⟨_,rfl⟩,bo⟩
    refine Ao<|Ab<|Rg [0,1,2]<|Vs 3<|Yn ?_
    have bp:=AA b8 hm
    exact ⟨hz,Nat.lt_succ_self _,(h5.1,h5.2,(W64 (h0.2.2 + 1))),F3,h6,h7,h8,bp,bm,(hl.t bn),fI,bo⟩
  ·refine Ex ?_
   refine Al<|Al<|Av rfl ?_
   have bq:=AB b3 hm
   exact .inl ⟨rfl,(h0.1,h0.2.1,h0.2.2),F1,h2,h3,h4,bq,he,hl,fI,hf⟩
 ·rintro f cd ⟨h1,F2,hb,hc,hd,rfl,br,ce,⟨_,rfl⟩,bs⟩
  have bt:=A4 hx
  refine Ab<|Sq (Rg (rG 7) ?_)
  refine Vs 3 ?_
  obtain ⟨ha,bu,bv⟩:=bS bt
  refine V 28 9 (CQ (t:=9) (x:=(.tmp 26)) (lo:=(some (.tmp 27))) (hi:=none) (a:=x0) (il:=h1.2.1) (ih:=(x0.length:Int)) (v:=ha) rfl (by kernel_rfl) rfl rfl bu)<|Bs 9 [(sv ha)] br (fun hp cf hq=>?_)
  have bw:Ap AF 9 F2 (some ⟨hp,0,none⟩) 1 [ha] (some hp,.cells ([(sv ha)]:List Value).toArray 9 (0,0)):=YH ⟨rfl,rfl⟩ (by simp)
  obtain ⟨bx,bz,c0⟩:=bS bv
  refine Ap1 NT hq bs (hq.rd0 bw) bz (fun hr hs cg ch c1 ht=>?_)
  refine Vs 1<|Nt<|Rt ?_
  have c3:=YF ht
  obtain ⟨F4,c4,ci,c5⟩:=c1.fr1 ht
  obtain rfl:=Aa c0
  exact Re [(sL hr bx hs)] c4 ⟨hr,hs,rfl,c3,c5⟩
def GR (N:Nat) (x0:YL):(Int×Int)->Option (A9 Int (Int×Int)):=fun h0=>
 (bif (decide (h0.2 < (x0.length:Int))) then ((Hu x0 h0.2).bind fun h1=>((D9 N h1).bind fun h2=>some (.next ((bif h2 then (W64 (h0.2 + 1)) else h0.1),(W64 (h0.2 + 1)))))) else some (.done (h0.1,h0.2)))
def Ig (N:Nat) (x0:YL):Option Int:=
 ((AH (GR N x0) N (0,0)).bind fun o=>o.k (fun r=>some r) (fun h0=>some h0.1))
theorem Me:Af Tryz.prog 267:=fun _ _=>by kernel_rfl
theorem NM (N:Nat) (w0:World) (F0:Mem) (hF:YN w0 F0) (x0:YL) (r:Int) (h:Ig N x0=some r):
  Calls Tryz.prog 267 ([(sv x0)]:List Value).toArray w0 (AC w0 F0 fun F' v=>v=(vi r)):=by
 have ha:=Yt hF
 refine Go 18 Tryz.func267<|Sq (Rg [0] ?_)
 refine Vs 1<|Nss (Rg [0] ?_)
 refine Vs 1<|Nss<|Sq (Rg [0] ?_)
 refine Vs 1<|Nt ?_
 obtain ⟨h5,hb,hc⟩:=bS h
 refine Yy (fun f w=>∃ (h1:(Int×Int)) (F2:Mem),h5=.done h1/\HS w0 F0 w F2 []/\Yr F0 F2/\FI f [] [(3,(vi h1.1))]) ?_ ?_
 ·refine Bk ?_
  refine Yq (by kernel_rfl) (fun m f w=>∃ (h0:(Int×Int)) (F1:Mem),AH (GR N x0) m h0=some h5/\HS w0 F0 w F1 []/\Yr F0 F1/\FI f [] [(0,(sv x0)),(3,(vi h0.1)),(4,(vi h0.2))]) N ⟨(0,0),F0,hb,ha,(Ys _),fI⟩ ?_
  rintro hx f hd ⟨h0,F1,he,h2,h6,⟨_,rfl⟩⟩
  obtain ⟨hf,hy,rfl,hg,h7⟩:=AD he
  refine Sq<|Sq (Rg (rG 4) ?_)
  refine Vs 4<|Nt<|Cd hg (fun hh hk=>?_) (fun hh hl=>?_)
  ·refine Sc ?_
   refine Ab<|Sq<|Bk<|Sq (Rg (rG 4) ?_)
   refine Vs 2 ?_
   obtain ⟨h8,hm,hn⟩:=bS hk
   refine V 13 5 (Ce (t:=9) (x:=(.tmp 11)) (y:=(.tmp 12)) (a:=x0) (k:=.i64) (i:=h0.2) (v:=h8) rfl rfl (by kernel_rfl) hm) ?_
   obtain ⟨h3,ho,hp⟩:=bS hn
   refine Cl' Fw h2 (Gk N hd F1 h2.pers h8 _ ho) ?_
   rintro _ F3 hz h9 hq rfl
   refine Nt<|Yy (fun f w=>∃ (F4:Mem),HS w0 F0 w F4 []/\Yr F3 F4/\FI f [] [(0,(sv x0)),(3,(vi (bif h3 then (W64 (h0.2 + 1)) else h0.1))),(4,(vi h0.2))]) ?_ ?_
   ·refine Cp h3 (fun h4=>?_) (fun h4=>?_)
    ·refine Rg [0,1,2] ?_
     refine Vs 3<|Yn ?_
     exact .inl ⟨rfl,F3,h9,(Ys _),(fJ ⟨rfl,(congrArg (Value.int .i64) (IF h4 rfl)),rfl,trivial⟩)⟩
    ·refine Sc ?_
     exact .inl ⟨rfl,F3,h9,(Ys _),(fJ ⟨rfl,(congrArg (Value.int .i64) (K8 h4 rfl)),rfl,trivial⟩)⟩
   ·rintro f b0 ⟨F4,hr,hs,⟨_,rfl⟩⟩
    refine Ao<|Ab<|Rg [0,1,2]<|Vs 3<|Yn ?_
    have ht:=AA hp h7
    exact ⟨hf,Nat.lt_succ_self _,((bif h3 then (W64 (h0.2 + 1)) else h0.1),(W64 (h0.2 + 1))),F4,ht,hr,((h6.t hq).trans hs),fI⟩
  ·refine Ex ?_
   refine Al<|Al<|Av rfl ?_
   have hu:=AB hl h7
   exact .inl ⟨rfl,(h0.1,h0.2),F1,hu,h2,h6,fI⟩
 ·rintro f b1 ⟨h1,F2,rfl,hv,b2,⟨_,rfl⟩⟩
  have hw:=A4 hc
  refine Ab<|Sq (Rg [0,1] ?_)
  refine Vs 2<|Nt<|Rt ?_
  obtain rfl:=Aa hw
  exact Re [(vi h1.1)] hv rfl
def Fp (N:Nat) (x0:Int):Option Bool:=
 some ((decide (65<=x0))&&(decide (x0<=90)))
theorem Jm:Af Tryz.prog 286:=fun _ _=>by kernel_rfl
theorem Kd (N:Nat) (w0:World) (F0:Mem) (hF:YN w0 F0) (x0:Int) (r:Bool) (h:Fp N x0=some r):
  Calls Tryz.prog 286 ([(.int .u8 x0)]:List Value).toArray w0 (AC w0 F0 fun F' v=>v=(.bool r)):=by
 have h1:=Yt hF
 refine Go 9 Tryz.func286<|Sq (Rg [0] ?_)
 refine Vs 1<|Nss (Rg (rG 7) ?_)
 refine Yx (fun f w=>∃ (F1:Mem),HS w0 F0 w F1 []/\Yr F0 F1/\FI f [] [(2,(.bool ((decide (65<=x0))&&(decide (x0<=90)))))]) ?_ ?_
 ·refine Vs 3 ?_
  refine Yw (decide (65<=x0)) (fun h0=>?_) (fun h0=>?_)
  ·refine Vgs h0 2 ?_
   refine Pk1 h0<|Vs 1 ?_
   exact Yn ⟨rfl,F0,h1,(Ys _),(fJ ⟨(congrArg Value.bool (IG h0 rfl)),trivial⟩)⟩
  ·refine Ss h0 2 ?_
   refine Pk0 h0<|Vs 1 ?_
   exact Yn ⟨rfl,F0,h1,(Ys _),(fJ ⟨(congrArg Value.bool (IH h0 rfl)),trivial⟩)⟩
 ·rintro f h3 ⟨F1,h2,h4,⟨_,rfl⟩⟩
  refine Ab<|Rt ?_
  obtain rfl:=Aa h
  exact Re [(.bool ((decide (65<=x0))&&(decide (x0<=90))))] h2 rfl
def C6 (N:Nat) (x0:YL):Int->Option (A9 Bool Int):=fun h0=>
 (bif (decide (h0 < (x0.length:Int))) then (((Hu x0 h0).bind fun h1=>((Fp N h1).bind fun h2=>(bif (!h2) then ((Hu x0 h0).bind fun h3=>((D9 N h3).bind fun h4=>some (!h4))) else some false))).bind fun h5=>(bif h5 then some (.ret false) else some (.next (W64 (h0 + 1))))) else some (.done h0))
def E7 (N:Nat) (x0:YL):Option Bool:=
 ((AH (C6 N x0) N 0).bind fun o=>o.k (fun r=>some r) (fun h0=>some true))
theorem Hg:Af Tryz.prog 268:=fun _ _=>by kernel_rfl
theorem H8 (N:Nat) (w0:World) (F0:Mem) (hF:YN w0 F0) (x0:YL) (r:Bool) (h:E7 N x0=some r):
  Calls Tryz.prog 268 ([(sv x0)]:List Value).toArray w0 (AC w0 F0 fun F' v=>v=(.bool r)):=by
 have hd:=Yt hF
 refine Go 22 Tryz.func268<|Sq (Rg [0] ?_)
 refine Vs 1<|Nss<|Sq (Rg [0] ?_)
 refine Vs 1<|Nt ?_
 obtain ⟨h5,he,h6⟩:=bS h
 refine Yy (fun f w=>∃ (h7:Int) (F2:Mem),h5=.done h7/\HS w0 F0 w F2 []/\Yr F0 F2/\FI f [] []) ?_ ?_
 ·refine Bk ?_
  refine Yq (by kernel_rfl) (fun m f w=>∃ (h0:Int) (F1:Mem),AH (C6 N x0) m h0=some h5/\HS w0 F0 w F1 []/\Yr F0 F1/\FI f [] [(0,(sv x0)),(3,(vi h0))]) N ⟨0,F0,he,hd,(Ys _),fI⟩ ?_
  rintro bc f hf ⟨h0,F1,hg,h2,h8,⟨_,rfl⟩⟩
  obtain ⟨hh,bd,rfl,hk,h3⟩:=AD hg
  refine Sq<|Sq (Rg (rG 4) ?_)
  refine Vs 4<|Nt<|Cd hk (fun hl hm=>?_) (fun hl hn=>?_)
  ·refine Sc ?_
   refine Ab<|Sq<|Bk<|Sq (Rg (rG 12) ?_)
   obtain ⟨ho,hp,hq⟩:=bS hm
   refine Yx (fun f w=>∃ (F3:Mem),HS w0 F0 w F3 []/\Yr F1 F3/\FI f [] [(0,(sv x0)),(3,(vi h0)),(21,(.bool ho))]) ?_ ?_
   ·refine Vs 2 ?_
    obtain ⟨h9,hr,hs⟩:=bS hp
    refine V 12 5 (Ce (t:=9) (x:=(.tmp 10)) (y:=(.tmp 11)) (a:=x0) (k:=.i64) (i:=h0) (v:=h9) rfl rfl (by kernel_rfl) hr) ?_
    obtain ⟨be,ht,hu⟩:=bS hs
    refine Cl' Jm h2 (Kd N hf F1 h2.pers h9 _ ht) ?_
    rintro _ F4 hv h4 ha rfl
    refine Vs 2<|Sp hu (fun h1 hw=>?_) (fun h1 hx=>?_)
    ·refine Vgs h1 2 ?_
     obtain ⟨hb,hy,hz⟩:=bS hw
     refine Vg 18 5 5 true 15 h1 (Ce (t:=9) (x:=(.tmp 16)) (y:=(.tmp 17)) (a:=x0) (k:=.i64) (i:=h0) (v:=hb) rfl rfl (by kernel_rfl) hy) ?_
     obtain ⟨bf,b0,b1⟩:=bS hz
     refine Cg h1 Fw h4 (Gk N hv F4 h4.pers hb _ b0) ?_
     rintro _ F5 bg b2 b3 rfl
     refine Vgs h1 1<|Pk1 h1 ?_
     obtain rfl:=Aa b1
     exact Yn ⟨rfl,F5,b2,(ha.t b3),fI⟩
    ·refine Ss h1 5 ?_
     refine Pk0 h1 ?_
     obtain rfl:=Aa hx
     exact Yn ⟨rfl,F4,h4,ha,fI⟩
   ·rintro f bh ⟨F3,hc,b4,⟨_,rfl⟩⟩
    refine Ab<|Cd hq (fun b5 b6=>?_) (fun b5 b7=>?_)
    ·refine Sq (Rg [0] ?_)
     refine Vs 1<|Nt<|Rt<|Aq<|Ad<|Ad<|Aq ?_
     have hret:=Bq b6 h3
     subst hret
     refine .inr<|Ad ?_
     obtain rfl:=Aa h6
     exact Re [(.bool false)] hc rfl
    ·refine Sc ?_
     refine Ao<|Ab<|Rg [0,1,2]<|Vs 3<|Yn ?_
     have b8:=AA b7 h3
     exact ⟨hh,Nat.lt_succ_self _,(W64 (h0 + 1)),F3,b8,hc,(h8.t b4),fI⟩
  ·refine Ex ?_
   refine Al<|Al<|Av rfl ?_
   have b9:=AB hn h3
   exact .inl ⟨rfl,h0,F1,b9,h2,h8,fI⟩
 ·rintro f bi ⟨h7,F2,rfl,ba,bj,⟨_,rfl⟩⟩
  have bb:=A4 h6
  refine Ab<|Sq (Rg [0] ?_)
  refine Vs 1<|Nt<|Rt ?_
  obtain rfl:=Aa bb
  exact Re [(.bool true)] ba rfl
def Ci (N:Nat) (x0:YL):Int->Option (A9 Bool Int):=fun h0=>
 (bif (decide (h0 < (x0.length:Int))) then ((Hu x0 h0).bind fun h1=>((Fp N h1).bind fun h2=>(bif h2 then some (.ret true) else some (.next (W64 (h0 + 1)))))) else some (.done h0))
def D8 (N:Nat) (x0:YL):Option Bool:=
 ((AH (Ci N x0) N 0).bind fun o=>o.k (fun r=>some r) (fun h0=>some false))
theorem HI:Af Tryz.prog 269:=fun _ _=>by kernel_rfl
theorem IB (N:Nat) (w0:World) (F0:Mem) (hF:YN w0 F0) (x0:YL) (r:Bool) (h:D8 N x0=some r):
  Calls Tryz.prog 269 ([(sv x0)]:List Value).toArray w0 (AC w0 F0 fun F' v=>v=(.bool r)):=by
 have h9:=Yt hF
 refine Go 14 Tryz.func269<|Sq (Rg [0] ?_)
 refine Vs 1<|Nss<|Sq (Rg [0] ?_)
 refine Vs 1<|Nt ?_
 obtain ⟨h3,ha,h4⟩:=bS h
 refine Yy (fun f w=>∃ (h5:Int) (F2:Mem),h3=.done h5/\HS w0 F0 w F2 []/\Yr F0 F2/\FI f [] []) ?_ ?_
 ·refine Bk ?_
  refine Yq (by kernel_rfl) (fun m f w=>∃ (h0:Int) (F1:Mem),AH (Ci N x0) m h0=some h3/\HS w0 F0 w F1 []/\Yr F0 F1/\FI f [] [(0,(sv x0)),(3,(vi h0))]) N ⟨0,F0,ha,h9,(Ys _),fI⟩ ?_
  rintro hw f hb ⟨h0,F1,hc,h1,h6,⟨_,rfl⟩⟩
  obtain ⟨hd,hx,rfl,he,h2⟩:=AD hc
  refine Sq<|Sq (Rg (rG 4) ?_)
  refine Vs 4<|Nt<|Cd he (fun hf hg=>?_) (fun hf hh=>?_)
  ·refine Sc ?_
   refine Ab<|Sq<|Bk<|Sq (Rg (rG 4) ?_)
   refine Vs 2 ?_
   obtain ⟨h7,hk,hl⟩:=bS hg
   refine V 12 5 (Ce (t:=9) (x:=(.tmp 10)) (y:=(.tmp 11)) (a:=x0) (k:=.i64) (i:=h0) (v:=h7) rfl rfl (by kernel_rfl) hk) ?_
   obtain ⟨hy,hm,hn⟩:=bS hl
   refine Cl' Jm h1 (Kd N hb F1 h1.pers h7 _ hm) ?_
   rintro _ F3 hz h8 ho rfl
   refine Nt<|Cd hn (fun hp hq=>?_) (fun hp hr=>?_)
   ·refine Sq (Rg [0] ?_)
    refine Vs 1<|Nt<|Rt<|Aq<|Ad<|Ad<|Aq ?_
    have hret:=Bq hq h2
    subst hret
    refine .inr<|Ad ?_
    obtain rfl:=Aa h4
    exact Re [(.bool true)] h8 rfl
   ·refine Sc ?_
    refine Ao<|Ab<|Rg [0,1,2]<|Vs 3<|Yn ?_
    have hs:=AA hr h2
    exact ⟨hd,Nat.lt_succ_self _,(W64 (h0 + 1)),F3,hs,h8,(h6.t ho),fI⟩
  ·refine Ex ?_
   refine Al<|Al<|Av rfl ?_
   have ht:=AB hh h2
   exact .inl ⟨rfl,h0,F1,ht,h1,h6,fI⟩
 ·rintro f b0 ⟨h5,F2,rfl,hu,b1,⟨_,rfl⟩⟩
  have hv:=A4 h4
  refine Ab<|Sq (Rg [0] ?_)
  refine Vs 1<|Nt<|Rt ?_
  obtain rfl:=Aa hv
  exact Re [(.bool false)] hu rfl
def EU (N:Nat) (x0:YL):Option Bool:=
 ((Ig N x0).bind fun h0=>(((E7 N x0).bind fun h1=>(bif h1 then ((CR N h0 1 4).bind fun h2=>(bif h2 then ((G5 x0 0 h0).bind fun h3=>((D8 N h3).bind fun h4=>(bif h4 then ((CR N (W64 ((x0.length:Int) - h0)) 1 4).bind fun h5=>some h5) else some false))) else some false)) else some false)).bind fun h6=>some h6))
theorem Gg:Af Tryz.prog 230:=fun _ _=>by kernel_rfl
theorem GU (N:Nat) (w0:World) (F0:Mem) (hF:YN w0 F0) (x0:YL) (r:Bool) (h:EU N x0=some r):
  Calls Tryz.prog 230 ([(sv x0)]:List Value).toArray w0 (AC w0 F0 fun F' v=>v=(.bool r)):=by
 have h9:=Yt hF
 refine Go 25 Tryz.func230<|Sq (Rg [0] ?_)
 refine Vs 1<|Nss (Rg [0,1,2] ?_)
 refine Vs 1 ?_
 obtain ⟨h4,he,hf⟩:=bS h
 refine Cl' Me h9 (NM N w0 F0 h9.pers x0 _ he) ?_
 rintro _ F1 hg ha b7 rfl
 refine Vs 1<|Nss (Rg (rG 20) ?_)
 obtain ⟨hb,hh,hk⟩:=bS hf
 refine Yx (fun f w=>∃ (F2:Mem),HS w0 F0 w F2 []/\Yr F1 F2/\FI f [] [(2,(.bool hb))]) ?_ ?_
 ·refine Vs 1 ?_
  obtain ⟨b8,hl,hm⟩:=bS hh
  refine Cl' Hg ha (H8 N hg F1 ha.pers x0 _ hl) ?_
  rintro _ F3 hn h5 h3 rfl
  refine Vs 1<|Sp hm (fun h1 ho=>?_) (fun h1 hp=>?_)
  ·refine Vgs h1 1 ?_
   obtain ⟨b9,hq,hr⟩:=bS ho
   refine Cg h1 CL h5 (Dd N hn F3 h5.pers h4 1 4 _ hq) ?_
   rintro _ F4 hs h6 h7 rfl
   refine Pk1 h1<|Vs 1<|Sp hr (fun h0 ht=>?_) (fun h0 hu=>?_)
   ·refine Vgs h0 2 ?_
    obtain ⟨hc,hv,hw⟩:=bS ht
    refine Vg 15 9 6 true 12 h0 (CQ (t:=9) (x:=(.tmp 13)) (lo:=none) (hi:=(some (.tmp 14))) (a:=x0) (il:=0) (ih:=h4) (v:=hc) rfl (by kernel_rfl) rfl rfl hv) ?_
    obtain ⟨ba,hx,hy⟩:=bS hw
    refine Cg h0 HI h6 (IB N hs F4 h6.pers hc _ hx) ?_
    rintro _ F5 hz h8 hd rfl
    refine Pk1 h0<|Vs 1<|Sp hy (fun h2 b0=>?_) (fun h2 b1=>?_)
    ·refine Vgs h2 4 ?_
     obtain ⟨bb,b2,b3⟩:=bS b0
     refine Cg h2 CL h8 (Dd N hz F5 h8.pers ((W64 ((x0.length:Int) - h4))) 1 4 _ b2) ?_
     rintro _ F6 bc b4 b5 rfl
     refine Pk1 h2<|Vs 1 ?_
     obtain rfl:=Aa b3
     exact Yn ⟨rfl,F6,b4,(((h3.t h7).trans hd).trans b5),fI⟩
    ·refine Ss h2 5 ?_
     refine Pk0 h2<|Vs 1 ?_
     obtain rfl:=Aa b1
     exact Yn ⟨rfl,F5,h8,((h3.t h7).trans hd),fI⟩
   ·refine Ss h0 4 ?_
    refine Pk0 h0<|Vs 1<|Ss (rfl:false=false) 5<|Pk0 (rfl:false=false)<|Vs 1 ?_
    obtain rfl:=Aa hu
    exact Yn ⟨rfl,F4,h6,(h3.t h7),fI⟩
  ·refine Ss h1 2 ?_
   refine Pk0 h1<|Vs 1<|Ss (rfl:false=false) 4<|Pk0 (rfl:false=false)<|Vs 1<|Ss (rfl:false=false) 5<|Pk0 (rfl:false=false)<|Vs 1 ?_
   obtain rfl:=Aa hp
   exact Yn ⟨rfl,F3,h5,h3,fI⟩
 ·rintro f bd ⟨F2,b6,be,⟨_,rfl⟩⟩
  refine Ab<|Rt ?_
  obtain rfl:=Aa hk
  exact Re [(.bool hb)] b6 rfl
def G6 (N:Nat) (x0:YL):Option Bool:=
 (((E7 N x0).bind fun h0=>(bif h0 then ((CR N (x0.length:Int) 1 4).bind fun h1=>(bif h1 then ((D8 N x0).bind fun h2=>some h2) else some false)) else some false)).bind fun h3=>some h3)
theorem K1:Af Tryz.prog 231:=fun _ _=>by kernel_rfl
theorem Mr (N:Nat) (w0:World) (F0:Mem) (hF:YN w0 F0) (x0:YL) (r:Bool) (h:G6 N x0=some r):
  Calls Tryz.prog 231 ([(sv x0)]:List Value).toArray w0 (AC w0 F0 fun F' v=>v=(.bool r)):=by
 have h5:=Yt hF
 refine Go 14 Tryz.func231<|Sq (Rg [0] ?_)
 refine Vs 1<|Nss (Rg (rG 12) ?_)
 obtain ⟨h6,h8,h9⟩:=bS h
 refine Yx (fun f w=>∃ (F1:Mem),HS w0 F0 w F1 []/\Yr F0 F1/\FI f [] [(2,(.bool h6))]) ?_ ?_
 ·refine Vs 1 ?_
  obtain ⟨hr,ha,hb⟩:=bS h8
  refine Cl' Hg h5 (H8 N w0 F0 h5.pers x0 _ ha) ?_
  rintro _ F2 hc h2 h3 rfl
  refine Vs 1<|Sp hb (fun h0 hd=>?_) (fun h0 he=>?_)
  ·refine Vgs h0 2 ?_
   obtain ⟨hs,hf,hg⟩:=bS hd
   refine Cg h0 CL h2 (Dd N hc F2 h2.pers ((x0.length:Int)) 1 4 _ hf) ?_
   rintro _ F3 hh h4 h7 rfl
   refine Pk1 h0<|Vs 1<|Sp hg (fun h1 hk=>?_) (fun h1 hl=>?_)
   ·refine Vgs h1 1 ?_
    obtain ⟨ht,hm,hn⟩:=bS hk
    refine Cg h1 HI h4 (IB N hh F3 h4.pers x0 _ hm) ?_
    rintro _ F4 hu ho hp rfl
    refine Pk1 h1<|Vs 1 ?_
    obtain rfl:=Aa hn
    exact Yn ⟨rfl,F4,ho,((h3.t h7).trans hp),fI⟩
   ·refine Ss h1 2 ?_
    refine Pk0 h1<|Vs 1 ?_
    obtain rfl:=Aa hl
    exact Yn ⟨rfl,F3,h4,(h3.t h7),fI⟩
  ·refine Ss h0 3 ?_
   refine Pk0 h0<|Vs 1<|Ss (rfl:false=false) 2<|Pk0 (rfl:false=false)<|Vs 1 ?_
   obtain rfl:=Aa he
   exact Yn ⟨rfl,F2,h2,h3,fI⟩
 ·rintro f hv ⟨F1,hq,hw,⟨_,rfl⟩⟩
  refine Ab<|Rt ?_
  obtain rfl:=Aa h9
  exact Re [(.bool h6)] hq rfl
def Fm (N:Nat) (x0:YL):Option Bool:=
 ((bif ((x0.length:Int)==1) then ((Hu x0 0).bind fun h0=>((D9 N h0).bind fun h1=>some h1)) else some false).bind fun h2=>(bif h2 then some true else (((E7 N x0).bind fun h3=>(bif h3 then ((CR N (x0.length:Int) 1 4).bind fun h4=>(bif h4 then ((Ig N x0).bind fun h5=>some (h5==0)) else some false)) else some false)).bind fun h6=>some h6)))
theorem Jl:Af Tryz.prog 232:=fun _ _=>by kernel_rfl
theorem Kc (N:Nat) (w0:World) (F0:Mem) (hF:YN w0 F0) (x0:YL) (r:Bool) (h:Fm N x0=some r):
  Calls Tryz.prog 232 ([(sv x0)]:List Value).toArray w0 (AC w0 F0 fun F' v=>v=(.bool r)):=by
 have h3:=Yt hF
 refine Go 23 Tryz.func232<|Sq (Rg [0] ?_)
 refine Vs 1<|Nss<|Sq (Rg (rG 8) ?_)
 obtain ⟨hb,hc,hd⟩:=bS h
 refine Yx (fun f w=>∃ (F1:Mem),HS w0 F0 w F1 []/\Yr F0 F1/\FI f [] [(0,(sv x0)),(10,(.bool hb))]) ?_ ?_
 ·refine Vs 4 ?_
  refine Sp hc (fun h0 he=>?_) (fun h0 hf=>?_)
  ·refine Vgs h0 1 ?_
   obtain ⟨h8,hg,hh⟩:=bS he
   refine Vg 8 5 3 true 6 h0 (Ce (t:=9) (x:=(.tmp 7)) (y:=(.const (vi 0))) (a:=x0) (k:=.i64) (i:=0) (v:=h8) rfl rfl (by kernel_rfl) hg) ?_
   obtain ⟨b9,hk,hl⟩:=bS hh
   refine Cg h0 Fw h3 (Gk N w0 F0 h3.pers h8 _ hk) ?_
   rintro _ F2 ba hm hn rfl
   refine Pk1 h0 ?_
   obtain rfl:=Aa hl
   exact Yn ⟨rfl,F2,hm,hn,fI⟩
  ·refine Ss h0 3 ?_
   refine Pk0 h0 ?_
   obtain rfl:=Aa hf
   exact Yn ⟨rfl,F0,h3,(Ys _),fI⟩
 ·rintro f ho ⟨F1,h4,bb,⟨_,rfl⟩⟩
  refine Ab<|Cd hd (fun hp hq=>?_) (fun hp hr=>?_)
  ·refine Sq (Rg [0] ?_)
   refine Vs 1<|Nt<|Rt<|Ad ?_
   obtain rfl:=Aa hq
   exact Re [(.bool true)] h4 rfl
  ·refine Sc ?_
   refine Ab<|Sq (Rg (rG 13) ?_)
   obtain ⟨h9,hs,ht⟩:=bS hr
   refine Yx (fun f w=>∃ (F3:Mem),HS w0 F0 w F3 []/\Yr F1 F3/\FI f [] [(2,(.bool h9))]) ?_ ?_
   ·refine Vs 1 ?_
    obtain ⟨bc,hu,hv⟩:=bS hs
    refine Cl' Hg h4 (H8 N ho F1 h4.pers x0 _ hu) ?_
    rintro _ F4 hw h5 h6 rfl
    refine Vs 1<|Sp hv (fun h2 hx=>?_) (fun h2 hy=>?_)
    ·refine Vgs h2 2 ?_
     obtain ⟨bd,hz,b0⟩:=bS hx
     refine Cg h2 CL h5 (Dd N hw F4 h5.pers ((x0.length:Int)) 1 4 _ hz) ?_
     rintro _ F5 b1 h7 ha rfl
     refine Pk1 h2<|Vs 1<|Sp b0 (fun h1 b2=>?_) (fun h1 b3=>?_)
     ·refine Vgs h1 1 ?_
      obtain ⟨be,b4,b5⟩:=bS b2
      refine Cg h1 Me h7 (NM N b1 F5 h7.pers x0 _ b4) ?_
      rintro _ F6 bf b6 b7 rfl
      refine Vgs h1 1<|Pk1 h1<|Vs 1 ?_
      obtain rfl:=Aa b5
      exact Yn ⟨rfl,F6,b6,((h6.t ha).trans b7),fI⟩
     ·refine Ss h1 3 ?_
      refine Pk0 h1<|Vs 1 ?_
      obtain rfl:=Aa b3
      exact Yn ⟨rfl,F5,h7,(h6.t ha),fI⟩
    ·refine Ss h2 3 ?_
     refine Pk0 h2<|Vs 1<|Ss (rfl:false=false) 3<|Pk0 (rfl:false=false)<|Vs 1 ?_
     obtain rfl:=Aa hy
     exact Yn ⟨rfl,F4,h5,h6,fI⟩
   ·rintro f bg ⟨F3,b8,bh,⟨_,rfl⟩⟩
    refine Ab<|Rt ?_
    obtain rfl:=Aa ht
    exact Re [(.bool h9)] b8 rfl
def HB (N:Nat) (x0:YL):Option (YL×YL×YL×Bool):=
 (bif (decide ((x0.length:Int) > 16)) then some (([]:YL),([]:YL),([]:YL),false) else ((GQ N x0).bind fun h0=>((bif ((h0.length:Int)==1) then ((idx h0 0).bind fun h4=>((EU N h4).bind fun h5=>some h5)) else some false).bind fun h6=>(bif h6 then (((idx h0 0).bind fun h7=>some h7).bind fun h8=>some (([]:YL),h8,([]:YL),true)) else ((bif ((h0.length:Int)==2) then ((idx h0 0).bind fun h9=>((G6 N h9).bind fun ha=>(bif ha then ((idx h0 1).bind fun hb=>((EU N hb).bind fun hc=>(bif hc then ((idx h0 0).bind fun hd=>((idx h0 1).bind fun he=>some (decide ((hd.length:Int) < (he.length:Int))))) else some false))) else some false))) else some false).bind fun hf=>(bif hf then (((idx h0 0).bind fun hg=>((idx h0 1).bind fun hh=>some (hg,hh))).bind fun h2=>some (h2.1,h2.2,([]:YL),true)) else ((bif ((h0.length:Int)==2) then ((idx h0 0).bind fun hk=>((EU N hk).bind fun hl=>(bif hl then ((idx h0 1).bind fun hm=>((Fm N hm).bind fun hn=>some hn)) else some false))) else some false).bind fun ho=>(bif ho then (((idx h0 0).bind fun hp=>((idx h0 1).bind fun hq=>some (hp,hq))).bind fun h3=>some (([]:YL),h3.1,h3.2,true)) else ((bif ((h0.length:Int)==3) then ((idx h0 0).bind fun hr=>((G6 N hr).bind fun hs=>(bif hs then ((idx h0 1).bind fun ht=>((EU N ht).bind fun hu=>(bif hu then ((idx h0 2).bind fun hv=>((Fm N hv).bind fun hw=>some hw)) else some false))) else some false))) else some false).bind fun hx=>(bif hx then (((idx h0 0).bind fun hy=>((idx h0 1).bind fun hz=>((idx h0 2).bind fun b0=>some (hy,hz,b0)))).bind fun h1=>some (h1.1,h1.2.1,h1.2.2,true)) else some (([]:YL),([]:YL),([]:YL),false)))))))))))
theorem Pe:Af Tryz.prog 185:=fun _ _=>by kernel_rfl
theorem PX (N:Nat) (w0:World) (F0:Mem) (hF:YN w0 F0) (x0:YL) (r:(YL×YL×YL×Bool)) (h:HB N x0=some r):
  Calls Tryz.prog 185 ([(sv x0)]:List Value).toArray w0 (AC w0 F0 fun F' v=>v=(.tuple #[(sv r.1),(sv r.2.1),(sv r.2.2.1),(.bool r.2.2.2)])):=by
 have hx:=Yt hF
 refine Go 107 Tryz.func185<|Sq (Rg (rG 4) ?_)
 refine Vs 4<|Nss<|Sq (Rg [0,1,2] ?_)
 refine Vs 3<|Nt<|Cd h (fun bg bh=>?_) (fun bg bi=>?_)
 ·refine Sq (Rg (rG 4) ?_)
  refine Vs 4<|Nt<|Rt<|Ad ?_
  obtain rfl:=Aa bh
  exact Re [(sv (([]:YL))),(sv (([]:YL))),(sv (([]:YL))),(.bool false)] hx rfl
 ·refine Sc ?_
  refine Ab<|Sq (Rg [0,1,2] ?_)
  refine Vs 1 ?_
  obtain ⟨h3,bj,bk⟩:=bS bi
  refine Cl' N3 hx (Pq N w0 F0 hx.pers x0 _ bj) ?_
  rintro _ F1 bl hr j3 ⟨hk,h4,rfl,j4,h5⟩
  refine Vs 1<|Nss<|Sq (Rg (rG 9) ?_)
  obtain ⟨bm,bn,bo⟩:=bS bk
  refine Yx (fun f w=>∃ (F2:Mem),HS w0 F0 w F2 []/\Yr F1 F2/\FI f [] [(6,(sL hk h3 h4)),(20,(.bool bm))]) ?_ ?_
  ·refine Vs 4 ?_
   refine Sp bn (fun h6 bp=>?_) (fun h6 bq=>?_)
   ·refine Vgs h6 1 ?_
    obtain ⟨br,bs,bt⟩:=bS bp
    obtain ⟨bu,hx45'⟩:=Ah bs
    obtain ⟨j5,j6,j7,j8,j9,rfl,hF54,hE55⟩:=Yz h5 hx45'
    have bv:=hE55 _ _ hx45'
    refine Ixg h6 bu<|Lxg h6 0 (hr.pers _ _ hF54) bv ?_
    obtain ⟨ja,bw,bx⟩:=bS bt
    refine Cg h6 Gg hr (GU N bl F1 hr.pers br _ bw) ?_
    rintro _ F3 jb bz c0 rfl
    refine Pk1 h6 ?_
    obtain rfl:=Aa bx
    exact Yn ⟨rfl,F3,bz,c0,fI⟩
   ·refine Ss h6 4 ?_
    refine Pk0 h6 ?_
    obtain rfl:=Aa bq
    exact Yn ⟨rfl,F1,hr,(Ys _),fI⟩
  ·rintro f jc ⟨F2,b8,he,⟨_,rfl⟩⟩
   refine Ab<|Cd bo (fun c1 c3=>?_) (fun c1 c4=>?_)
   ·refine Sq ?_
    obtain ⟨b9,c5,c6⟩:=bS c3
    refine RD 7 7 [] [] b8 (fun f w=>∃ (F4:Mem),HS w0 F0 w F4 []/\Yr F2 F4/\FI f [] [(2,(sv (([]:YL)))),(3,(sv b9)),(4,(sv (([]:YL)))),(5,(.bool true))]) (fun jd c7=>?_) ?_
    ·refine Dv [0] ?_
     obtain ⟨je,c8,c9⟩:=bS c5
     obtain ⟨ca,hx83'⟩:=Ah c8
     obtain ⟨jf,jg,jh,ji,jj,rfl,hF92,hE93⟩:=Yz (Yu h5 he) hx83'
     have cb:=hE93 _ _ hx83'
     refine Di 1 ca<|Dx 2 0 (fun _ hq=>hq.1.1 _ _ hF92) cb<|Dv [3,4,5,6] ?_
     obtain rfl:=Aa c9
     exact YE (by kernel_rfl) ⟨F2,c7,(Ys _),fI⟩
    ·rintro f jk ⟨F4,cc,jl,⟨_,rfl⟩⟩
     refine Ab<|Rt<|Ad ?_
     obtain rfl:=Aa c6
     exact Re [(sv (([]:YL))),(sv b9),(sv (([]:YL))),(.bool true)] cc rfl
   ·refine Sc ?_
    refine Ab<|Sq<|Sq ?_
    obtain ⟨cd,ce,cf⟩:=bS c4
    refine RD 26 26 [] [] b8 (fun f w=>∃ (F5:Mem),HS w0 F0 w F5 []/\Yr F2 F5/\FI f [] [(6,(sL hk h3 h4)),(49,(.bool cd))]) (fun cg hy=>?_) ?_
    ·refine Dvl [0,1,2,3] (tf 4 22) ?_
     refine Sd ce (fun h7 ch=>?_) (fun h7 ci=>?_)
     ·refine Dgl 4 28 55 _ (tf 5 21) 3 true 27 h7 (fun _ hq=>mv 6 (sL hk h3 h4)) ?_
      obtain ⟨hz,cj,cl⟩:=bS ch
      obtain ⟨cm,hx111'⟩:=Ah cj
      obtain ⟨h1,h2,jm,jo,jp,rfl,hF120,hE121⟩:=Yz (Yu h5 he) hx111'
      have cn:=hE121 _ _ hx111'
      refine Dgl 5 29 0 (.pointer (some ⟨h1,(h2 + (0:Int).toNat * 1),none⟩)) (tf 6 20) 3 true 27 h7 (fun _ hq=>B2 (t:=55) (x:=(.tmp 28)) (y:=(.const (vi 0))) (b:=h1) (o:=h2) (E:=9) (s:=1) (by_:=16) rfl rfl (by kernel_rfl) cm)<|Dgl 6 30 9 _ (tf 7 19) 3 true 27 h7 (fun _ hq=>lx 9 29 0 1 false 1 (sv hz) (hq.1.1 _ _ hF120) cn)<|D1 7 ?_
      obtain ⟨co,cp,cq⟩:=bS cl
      refine YD (l':=[true,true,true,true,true,true,true,true,false,false,false,false,false,false,false,false,false,false,false,false,false,false,false,false,false,false]) (zd:=true) (by kernel_rfl) (by kernel_rfl) (by kernel_rfl) (dst:=(some 31)) (ty:=4) (g:=(some (3,true))) (by kernel_rfl) (IY (d:=27) (by kernel_rfl) rfl h7) (f0:=(.func 231)) (aos:=#[(.tmp 30)]) (ats:=#[9]) (fid:=231) (first:=#[]) (cap:=#[]) (args:=[(sv hz)]) rfl K1 rfl hy (Mr N cg F2 hy.pers hz _ cp) ?_
      rintro _ F6 cr b0 b1 rfl
      refine Dtl 8 32 4 _ (tf 9 17) (fun _ hq=>p1 27 (.tmp 31) (.const (.bool false)) (.bool co) h7)<|Dvl [9] (tf 10 16)<|Sd cq (fun h8 ct=>?_) (fun h8 cu=>?_)
      ·refine Dgl 10 34 55 _ (tf 11 15) 9 true 33 h8 (fun _ hq=>mv 6 (.slice (some ⟨h1,h2,none⟩) h3.length h4)) ?_
       obtain ⟨b2,cv,cw⟩:=bS ct
       obtain ⟨cx,hx136'⟩:=Ah cv
       have cy:=hE121 _ _ hx136'
       refine Dgl 11 35 0 (.pointer (some ⟨h1,(h2 + (1:Int).toNat * 1),none⟩)) (tf 12 14) 9 true 33 h8 (fun _ hq=>B2 (t:=55) (x:=(.tmp 34)) (y:=(.const (vi 1))) (b:=h1) (o:=h2) (E:=9) (s:=1) (by_:=16) rfl rfl (by kernel_rfl) cx)<|Dgl 12 36 9 _ (tf 13 13) 9 true 33 h8 (fun _ hq=>lx 9 35 0 1 false 1 (sv b2) (hq.1.1 _ _ hF120) cy)<|D1 13 ?_
       obtain ⟨cz,d0,d1⟩:=bS cw
       refine YD (l':=[true,true,true,true,true,true,true,true,true,true,true,true,true,true,false,false,false,false,false,false,false,false,false,false,false,false]) (zd:=true) (by kernel_rfl) (by kernel_rfl) (by kernel_rfl) (dst:=(some 37)) (ty:=4) (g:=(some (9,true))) (by kernel_rfl) (IY (d:=33) (by kernel_rfl) rfl h8) (f0:=(.func 230)) (aos:=#[(.tmp 36)]) (ats:=#[9]) (fid:=230) (first:=#[]) (cap:=#[]) (args:=[(sv b2)]) rfl Gg rfl b0 (GU N cr F6 b0.pers b2 _ d0) ?_
       rintro _ F7 jq ba bb rfl
       refine Dtl 14 38 4 _ (tf 15 11) (fun _ hq=>p1 33 (.tmp 37) (.const (.bool false)) (.bool cz) h8)<|Dvl [15] (tf 16 10)<|Sd d1 (fun h0 d2=>?_) (fun h0 d3=>?_)
       ·refine Dgl 16 40 55 _ (tf 17 9) 15 true 39 h0 (fun _ hq=>mv 6 (.slice (some ⟨h1,h2,none⟩) h3.length h4)) ?_
        obtain ⟨hf,d4,d6⟩:=bS d2
        obtain ⟨d7,hx153'⟩:=Ah d4
        have d8:=hE121 _ _ hx153'
        refine Dgl 17 41 0 (.pointer (some ⟨h1,(h2 + (0:Int).toNat * 1),none⟩)) (tf 18 8) 15 true 39 h0 (fun _ hq=>B2 (t:=55) (x:=(.tmp 40)) (y:=(.const (vi 0))) (b:=h1) (o:=h2) (E:=9) (s:=1) (by_:=16) rfl rfl (by kernel_rfl) d7)<|Dgl 18 42 9 _ (tf 19 7) 15 true 39 h0 (fun _ hq=>lx 9 41 0 1 false 1 (sv hf) (hq.1.1 _ _ hF120) d8)<|Dgl 19 43 3 (vi (hf.length:Int)) (tf 20 6) 15 true 39 h0 (fun _ hq=>Ia (x:=(.tmp 42)) (ats:=#[9]) (t:=9) (a:=hf) rfl rfl (by kernel_rfl))<|Dgl 20 44 55 _ (tf 21 5) 15 true 39 h0 (fun _ hq=>mv 6 (.slice (some ⟨h1,h2,none⟩) h3.length h4)) ?_
        obtain ⟨hg,d9,da⟩:=bS d6
        obtain ⟨db,hx159'⟩:=Ah d9
        have dc:=hE121 _ _ hx159'
        refine Dgl 21 45 0 (.pointer (some ⟨h1,(h2 + (1:Int).toNat * 1),none⟩)) (tf 22 4) 15 true 39 h0 (fun _ hq=>B2 (t:=55) (x:=(.tmp 44)) (y:=(.const (vi 1))) (b:=h1) (o:=h2) (E:=9) (s:=1) (by_:=16) rfl rfl (by kernel_rfl) db)<|Dgl 22 46 9 _ (tf 23 3) 15 true 39 h0 (fun _ hq=>lx 9 45 0 1 false 1 (sv hg) (hq.1.1 _ _ hF120) dc)<|Dgl 23 47 3 (vi (hg.length:Int)) (tf 24 2) 15 true 39 h0 (fun _ hq=>Ia (x:=(.tmp 46)) (ats:=#[9]) (t:=9) (a:=hg) rfl rfl (by kernel_rfl))<|Dgl 24 48 4 (.bool (decide ((hf.length:Int) < (hg.length:Int)))) (tf 25 1) 15 true 39 h0 (fun _ hq=>Kn (t:=3) (t':=3) (x:=(.tmp 43)) (y:=(.tmp 47)) (k:=.i64) (a:=(hf.length:Int)) (b:=(hg.length:Int)) rfl rfl)<|Dtl 25 49 4 _ (tf 26 0) (fun _ hq=>p1 39 (.tmp 48) (.const (.bool false)) (.bool (decide ((hf.length:Int) < (hg.length:Int)))) h0) ?_
        obtain rfl:=Aa da
        exact YE (by kernel_rfl) ⟨F7,ba,(b1.t bb),fI⟩
       ·refine Dkl [(16,40),(17,41),(18,42),(19,43),(20,44),(21,45)] 15 true 39 h0 (tf 22 4) ?_
        refine Dkl [(22,46),(23,47),(24,48)] 15 true 39 h0 (tf 25 1)<|Dtl 25 49 4 _ (tf 26 0) (fun _ hq=>p0 39 (.tmp 48) (.const (.bool false)) (.bool false) h0) ?_
        obtain rfl:=Aa d3
        exact YE (by kernel_rfl) ⟨F7,ba,(b1.t bb),fI⟩
      ·refine Dkl [(10,34),(11,35),(12,36),(13,37)] 9 true 33 h8 (tf 14 12) ?_
       refine Dtl 14 38 4 _ (tf 15 11) (fun _ hq=>p0 33 (.tmp 37) (.const (.bool false)) (.bool false) h8)<|Dvl [15] (tf 16 10)<|Dkl [(16,40),(17,41),(18,42),(19,43),(20,44),(21,45)] 15 true 39 rfl (tf 22 4)<|Dkl [(22,46),(23,47),(24,48)] 15 true 39 rfl (tf 25 1)<|Dtl 25 49 4 _ (tf 26 0) (fun _ hq=>p0 39 (.tmp 48) (.const (.bool false)) (.bool false) rfl) ?_
       obtain rfl:=Aa cu
       exact YE (by kernel_rfl) ⟨F6,b0,b1,fI⟩
     ·refine Dkl [(4,28),(5,29),(6,30),(7,31)] 3 true 27 h7 (tf 8 18) ?_
      refine Dtl 8 32 4 _ (tf 9 17) (fun _ hq=>p0 27 (.tmp 31) (.const (.bool false)) (.bool false) h7)<|Dvl [9] (tf 10 16)<|Dkl [(10,34),(11,35),(12,36),(13,37)] 9 true 33 rfl (tf 14 12)<|Dtl 14 38 4 _ (tf 15 11) (fun _ hq=>p0 33 (.tmp 37) (.const (.bool false)) (.bool false) rfl)<|Dvl [15] (tf 16 10)<|Dkl [(16,40),(17,41),(18,42),(19,43),(20,44),(21,45)] 15 true 39 rfl (tf 22 4)<|Dkl [(22,46),(23,47),(24,48)] 15 true 39 rfl (tf 25 1)<|Dtl 25 49 4 _ (tf 26 0) (fun _ hq=>p0 39 (.tmp 48) (.const (.bool false)) (.bool false) rfl) ?_
      obtain rfl:=Aa ci
      exact YE (by kernel_rfl) ⟨F2,hy,(Ys _),fI⟩
    ·rintro f dd ⟨F5,hl,hm,⟨_,rfl⟩⟩
     refine Ab<|Cd cf (fun de df=>?_) (fun de dg=>?_)
     ·refine Sq ?_
      obtain ⟨hs,dh,di⟩:=bS df
      refine RD 10 10 [] [] hl (fun f w=>∃ (F8:Mem),HS w0 F0 w F8 []/\Yr F5 F8/\FI f [] [(2,(sv hs.1)),(3,(sv hs.2)),(4,(sv (([]:YL)))),(5,(.bool true))]) (fun jr dj=>?_) ?_
      ·refine Dv [0] ?_
       obtain ⟨js,dk,dl⟩:=bS dh
       obtain ⟨dm,hx181'⟩:=Ah dk
       obtain ⟨jt,ju,jv,jw,jx,rfl,hF190,hE191⟩:=Yz (Yu h5 (he.t hm)) hx181'
       have dn:=hE191 _ _ hx181'
       refine Di 1 dm<|Dx 2 0 (fun _ hq=>hq.1.1 _ _ hF190) dn<|Dv [3] ?_
       obtain ⟨jy,dp,dq⟩:=bS dl
       obtain ⟨dr,hx195'⟩:=Ah dp
       have ds:=hE191 _ _ hx195'
       refine Di 4 dr<|Dx 5 0 (fun _ hq=>hq.1.1 _ _ hF190) ds<|Dv [6,7,8,9] ?_
       obtain rfl:=Aa dq
       exact YE (by kernel_rfl) ⟨F5,dj,(Ys _),fI⟩
      ·rintro f jz ⟨F8,dt,k0,⟨_,rfl⟩⟩
       refine Ab<|Rt<|Ad ?_
       obtain rfl:=Aa di
       exact Re [(sv hs.1),(sv hs.2),(sv (([]:YL))),(.bool true)] dt rfl
     ·refine Sc ?_
      refine Ab<|Sq<|Sq (Rg (rG 15) ?_)
      obtain ⟨du,dv,dw⟩:=bS dg
      refine Yx (fun f w=>∃ (F9:Mem),HS w0 F0 w F9 []/\Yr F5 F9/\FI f [] [(6,(sL hk h3 h4)),(70,(.bool du))]) ?_ ?_
      ·refine Vs 4 ?_
       refine Sp dv (fun h9 dx=>?_) (fun h9 dy=>?_)
       ·refine Vgs h9 1 ?_
        obtain ⟨dz,e0,e1⟩:=bS dx
        obtain ⟨e2,hx213'⟩:=Ah e0
        obtain ⟨k1,k2,k3,k4,k5,rfl,hF222,hE223⟩:=Yz (Yu h5 (he.t hm)) hx213'
        have e3:=hE223 _ _ hx213'
        refine Ixg h9 e2<|Lxg h9 0 (hl.pers _ _ hF222) e3 ?_
        obtain ⟨k6,e4,e6⟩:=bS e1
        refine Cg h9 Gg hl (GU N dd F5 hl.pers dz _ e4) ?_
        rintro _ bc e7 ht b3 rfl
        refine Pk1 h9<|Vs 1<|Sp e6 (fun ha e8=>?_) (fun ha e9=>?_)
        ·refine Vgs ha 1 ?_
         obtain ⟨ea,eb,ec⟩:=bS e8
         obtain ⟨ed,hx238'⟩:=Ah eb
         have ee:=hE223 _ _ hx238'
         refine Ixg ha ed<|Lxg ha 0 (ht.pers _ _ (b3 _ _ hF222)) ee ?_
         obtain ⟨k7,ef,eg⟩:=bS ec
         refine Cg ha Jl ht (Kc N e7 bc ht.pers ea _ ef) ?_
         rintro _ eh k8 ei ej rfl
         refine Pk1 ha ?_
         obtain rfl:=Aa eg
         exact Yn ⟨rfl,eh,ei,(b3.t ej),fI⟩
        ·refine Ss ha 4 ?_
         refine Pk0 ha ?_
         obtain rfl:=Aa e9
         exact Yn ⟨rfl,bc,ht,b3,fI⟩
       ·refine Ss h9 4 ?_
        refine Pk0 h9<|Vs 1<|Ss (rfl:false=false) 4<|Pk0 (rfl:false=false) ?_
        obtain rfl:=Aa dy
        exact Yn ⟨rfl,F5,hl,(Ys _),fI⟩
      ·rintro f ek ⟨F9,hn,b4,⟨_,rfl⟩⟩
       refine Ab<|Cd dw (fun el en=>?_) (fun el eo=>?_)
       ·refine Sq ?_
        obtain ⟨hu,ep,er⟩:=bS en
        refine RD 10 10 [] [] hn (fun f w=>∃ (b5:Mem),HS w0 F0 w b5 []/\Yr F9 b5/\FI f [] [(2,(sv (([]:YL)))),(3,(sv hu.1)),(4,(sv hu.2)),(5,(.bool true))]) (fun k9 et=>?_) ?_
        ·refine Dv [0] ?_
         obtain ⟨ka,eu,ev⟩:=bS ep
         obtain ⟨ew,hx268'⟩:=Ah eu
         obtain ⟨kb,kc,kd,ke,kf,rfl,hF277,hE278⟩:=Yz (Yu h5 ((he.t hm).trans b4)) hx268'
         have ex:=hE278 _ _ hx268'
         refine Di 1 ew<|Dx 2 0 (fun _ hq=>hq.1.1 _ _ hF277) ex<|Dv [3] ?_
         obtain ⟨kg,ey,ez⟩:=bS ev
         obtain ⟨g0,hx282'⟩:=Ah ey
         have g1:=hE278 _ _ hx282'
         refine Di 4 g0<|Dx 5 0 (fun _ hq=>hq.1.1 _ _ hF277) g1<|Dv [6,7,8,9] ?_
         obtain rfl:=Aa ez
         exact YE (by kernel_rfl) ⟨F9,et,(Ys _),fI⟩
        ·rintro f kh ⟨b5,g2,ki,⟨_,rfl⟩⟩
         refine Ab<|Rt<|Ad ?_
         obtain rfl:=Aa er
         exact Re [(sv (([]:YL))),(sv hu.1),(sv hu.2),(.bool true)] g2 rfl
       ·refine Sc ?_
        refine Ab<|Sq<|Sq (Rg (rG 21) ?_)
        obtain ⟨g3,g4,g5⟩:=bS eo
        refine Yx (fun f w=>∃ (ho:Mem),HS w0 F0 w ho []/\Yr F9 ho/\FI f [] [(6,(sL hk h3 h4)),(97,(.bool g3))]) ?_ ?_
        ·refine Vs 4 ?_
         refine Sp g4 (fun hb g6=>?_) (fun hb g7=>?_)
         ·refine Vgs hb 1 ?_
          obtain ⟨g8,g9,ga⟩:=bS g6
          obtain ⟨gh,hx300'⟩:=Ah g9
          obtain ⟨kj,kl,km,kn,ko,rfl,hF309,hE310⟩:=Yz (Yu h5 ((he.t hm).trans b4)) hx300'
          have gi:=hE310 _ _ hx300'
          refine Ixg hb gh<|Lxg hb 0 (hn.pers _ _ hF309) gi ?_
          obtain ⟨kp,gk,gl⟩:=bS ga
          refine Cg hb K1 hn (Mr N ek F9 hn.pers g8 _ gk) ?_
          rintro _ bd gm hv hp rfl
          refine Pk1 hb<|Vs 1<|Sp gl (fun hc gn=>?_) (fun hc go=>?_)
          ·refine Vgs hc 1 ?_
           obtain ⟨gp,gr,gs⟩:=bS gn
           obtain ⟨gu,hx325'⟩:=Ah gr
           have gv:=hE310 _ _ hx325'
           refine Ixg hc gu<|Lxg hc 0 (hv.pers _ _ (hp _ _ hF309)) gv ?_
           obtain ⟨kr,gw,gx⟩:=bS gs
           refine Cg hc Gg hv (GU N gm bd hv.pers gp _ gw) ?_
           rintro _ be gy hw b6 rfl
           refine Pk1 hc<|Vs 1<|Sp gx (fun hd gz=>?_) (fun hd i0=>?_)
           ·refine Vgs hd 1 ?_
            obtain ⟨i1,i2,i3⟩:=bS gz
            obtain ⟨i4,hx342'⟩:=Ah i2
            have i5:=hE310 _ _ hx342'
            refine Ixg hd i4<|Lxg hd 0 (hw.pers _ _ ((hp.t b6) _ _ hF309)) i5 ?_
            obtain ⟨ks,i6,i7⟩:=bS i3
            refine Cg hd Jl hw (Kc N gy be hw.pers i1 _ i6) ?_
            rintro _ i8 kt i9 ia rfl
            refine Pk1 hd ?_
            obtain rfl:=Aa i7
            exact Yn ⟨rfl,i8,i9,((hp.t b6).trans ia),fI⟩
           ·refine Ss hd 4 ?_
            refine Pk0 hd ?_
            obtain rfl:=Aa i0
            exact Yn ⟨rfl,be,hw,(hp.t b6),fI⟩
          ·refine Ss hc 4 ?_
           refine Pk0 hc<|Vs 1<|Ss (rfl:false=false) 4<|Pk0 (rfl:false=false) ?_
           obtain rfl:=Aa go
           exact Yn ⟨rfl,bd,hv,hp,fI⟩
         ·refine Ss hb 4 ?_
          refine Pk0 hb<|Vs 1<|Ss (rfl:false=false) 4<|Pk0 (rfl:false=false)<|Vs 1<|Ss (rfl:false=false) 4<|Pk0 (rfl:false=false) ?_
          obtain rfl:=Aa g7
          exact Yn ⟨rfl,F9,hn,(Ys _),fI⟩
        ·rintro f ku ⟨ho,bf,ib,⟨_,rfl⟩⟩
         refine Ab<|Cd g5 (fun ic ie=>?_) (fun ic ig=>?_)
         ·refine Sq ?_
          obtain ⟨hh,ii,ij⟩:=bS ie
          refine RD 13 13 [] [] bf (fun f w=>∃ (b7:Mem),HS w0 F0 w b7 []/\Yr ho b7/\FI f [] [(2,(sv hh.1)),(3,(sv hh.2.1)),(4,(sv hh.2.2)),(5,(.bool true))]) (fun kw ik=>?_) ?_
          ·refine Dv [0] ?_
           obtain ⟨ky,io,ip⟩:=bS ii
           obtain ⟨iq,hx372'⟩:=Ah io
           obtain ⟨kz,l0,l1,l2,l3,rfl,hF381,hE382⟩:=Yz (Yu h5 (((he.t hm).trans b4).trans ib)) hx372'
           have ir:=hE382 _ _ hx372'
           refine Di 1 iq<|Dx 2 0 (fun _ hq=>hq.1.1 _ _ hF381) ir<|Dv [3] ?_
           obtain ⟨l4,it,iu⟩:=bS ip
           obtain ⟨iv,hx386'⟩:=Ah it
           have iw:=hE382 _ _ hx386'
           refine Di 4 iv<|Dx 5 0 (fun _ hq=>hq.1.1 _ _ hF381) iw<|Dv [6] ?_
           obtain ⟨l5,iy,iz⟩:=bS iu
           obtain ⟨j0,hx392'⟩:=Ah iy
           have j1:=hE382 _ _ hx392'
           refine Di 7 j0<|Dx 8 0 (fun _ hq=>hq.1.1 _ _ hF381) j1<|Dv [9,10,11,12] ?_
           obtain rfl:=Aa iz
           exact YE (by kernel_rfl) ⟨ho,ik,(Ys _),fI⟩
          ·rintro f l6 ⟨b7,j2,l7,⟨_,rfl⟩⟩
           refine Ab<|Rt<|Ad ?_
           obtain rfl:=Aa ij
           exact Re [(sv hh.1),(sv hh.2.1),(sv hh.2.2),(.bool true)] j2 rfl
         ·refine Sc ?_
          refine Ab<|Sq (Rg (rG 4) ?_)
          refine Vs 4<|Nt<|Rt ?_
          obtain rfl:=Aa ig
          exact Re [(sv (([]:YL))),(sv (([]:YL))),(sv (([]:YL))),(.bool false)] bf rfl
def DE (N:Nat) (x0:YL):Option Bool:=
 ((HB N x0).bind fun h0=>some h0.2.2.2)
theorem Hh:Af Tryz.prog 144:=fun _ _=>by kernel_rfl
theorem HN (N:Nat) (w0:World) (F0:Mem) (hF:YN w0 F0) (x0:YL) (r:Bool) (h:DE N x0=some r):
  Calls Tryz.prog 144 ([(sv x0)]:List Value).toArray w0 (AC w0 F0 fun F' v=>v=(.bool r)):=by
 have h0:=Yt hF
 refine Go 15 Tryz.func144<|Sq (Rg [0] ?_)
 refine Vs 1<|Nss (Rg (rG 11) ?_)
 refine Vs 1 ?_
 obtain ⟨h1,h2,h3⟩:=bS h
 refine Cl' Pe h0 (PX N w0 F0 h0.pers x0 _ h2) ?_
 rintro _ F1 h5 h4 h6 rfl
 refine Vs 9<|Nss (Rg [0,1] ?_)
 refine Vs 2<|Nt<|Rt ?_
 obtain rfl:=Aa h3
 exact Re [(.bool h1.2.2.2)] h4 rfl
def BG (N:Nat) (x0:(List Line)) (x1:Int) (x2:(Line->Int->Option Int)):(Int×Int)->Option (A9 (Int×Bool) (Int×Int)):=fun h0=>
 (bif (decide (h0.1 < h0.2)) then ((idx x0 (W64 (Int.fdiv (IntKind.u64.wrap (W64 (h0.1 + h0.2))) (2 ^ min (1:Int).toNat IntKind.u64.bits)))).bind fun h1=>((x2 h1 x1).bind fun h2=>(bif (decide (h2 < 0)) then none else some (.next (h0.1,(W64 (Int.fdiv (IntKind.u64.wrap (W64 (h0.1 + h0.2))) (2 ^ min (1:Int).toNat IntKind.u64.bits)))))))) else some (.done (h0.1,h0.2)))
def BQ (N:Nat) (x0:(List Line)) (x1:Int) (x2:(Line->Int->Option Int)):Option (Int×Bool):=
 ((AH (BG N x0 x1 x2) N (0,(x0.length:Int))).bind fun o=>o.k (fun r=>some r) (fun h0=>(bif (decide (h0.1 < (x0.length:Int))) then ((idx x0 h0.1).bind fun h1=>((x2 h1 x1).bind fun h2=>some (h0.1,(h2==0)))) else none)))
theorem CF:Af Tryz.prog 252:=fun _ _=>by kernel_rfl
theorem CV (N:Nat) (w0:World) (F0:Mem) (hF:YN w0 F0) (x0:(List Line)) (h5:YM) (h6:Nat) (bk:LC x0.length h6) (hc:SlA AM F0 h5 x0) (x1:Int) (h4:FuncId) (h2 h3:List Value) (x2:Line->Int->Option Int) (hd:Af Tryz.prog h4) (he:TZ F0 h4 h2 h3 x2) (r:(Int×Bool)) (h:BQ N x0 x1 x2=some r):
  Calls Tryz.prog 252 ([(sL h5 x0 h6),(vi x1),(.func (.func h4) h2.toArray h3.toArray)]:List Value).toArray w0 (AC w0 F0 fun F' v=>v=(.tuple #[(vi r.1),(.bool r.2)])):=by
 have hk:=Yt hF
 refine Go 49 Tryz.func252<|Sq (Rg [0,1] ?_)
 refine Vs 2<|Nss (Rg [0,1,2] ?_)
 refine Vs 3<|Nss (Rg [0,1,2] ?_)
 refine Vs 3<|Nss ?_
 obtain ⟨hf,hl,hm⟩:=bS h
 refine Yy (fun f w=>∃ (h7:(Int×Int)) (F2:Mem),hf=.done h7/\HS w0 F0 w F2 []/\Yr F0 F2/\FI f [] [(0,(sL h5 x0 h6)),(1,(vi x1)),(2,(.func (.func h4) h2.toArray h3.toArray)),(8,(vi (x0.length:Int))),(9,(vi h7.1))]) ?_ ?_
 ·refine Bk ?_
  refine Yq (by kernel_rfl) (fun m f w=>∃ (h0:(Int×Int)) (F1:Mem),AH (BG N x0 x1 x2) m h0=some hf/\HS w0 F0 w F1 []/\Yr F0 F1/\FI f [] [(0,(sL h5 x0 h6)),(1,(vi x1)),(2,(.func (.func h4) h2.toArray h3.toArray)),(8,(vi (x0.length:Int))),(9,(vi h0.1)),(10,(vi h0.2))]) N ⟨(0,(x0.length:Int)),F0,hl,hk,(Ys _),fI⟩ ?_
  rintro bl f hn ⟨h0,F1,ho,h8,h9,⟨_,rfl⟩⟩
  obtain ⟨hp,bm,rfl,hq,hg⟩:=AD ho
  refine Sq<|Sq (Rg [0,1,2] ?_)
  refine Vs 3<|Nt<|Cd hq (fun hr hs=>?_) (fun hr ht=>?_)
  ·refine Sc ?_
   refine Ab<|Bk<|Sq (Rg (rG 7) ?_)
   refine Vs 4<|V 22 222 (VV (t:=222) (t':=222) (x:=(.tmp 21)) (y:=(.const (.int .u64 1))) (k:=.u64) (q:=.u64) (a:=(IntKind.u64.wrap (W64 (h0.1 + h0.2)))) (b:=1) rfl rfl (by decide))<|Vs 2<|Nss (Rg (rG 8) ?_)
   refine Vs 3 ?_
   obtain ⟨hu,hv,hw⟩:=bS hs
   obtain ⟨hx,hx55'⟩:=Ah hv
   obtain ⟨bn,bo,bp,bq,br,rfl,hF64,hE65⟩:=Yz (Yu hc h9) hx55'
   have hy:=hE65 _ _ hx55'
   refine Ix hx<|Lx 0 (h8.pers _ _ hF64) hy<|Vs 1 ?_
   obtain ⟨bs,hz,b0⟩:=bS hw
   refine Cq hd h8 (he hn F1 hu x1 _ h9 h8.pers hz) ?_
   rintro _ F3 bt b1 b2 rfl
   refine Vs 1<|Nt<|Cd b0 (fun b3 b4=>?_) (fun b3 b5=>?_)
   ·cases b4
   ·refine Rg [0,1] ?_
    refine Vs 2<|Yn<|Ao ?_
    have b6:=AA b5 hg
    exact ⟨hp,Nat.lt_succ_self _,(h0.1,(W64 (Int.fdiv (IntKind.u64.wrap (W64 (h0.1 + h0.2))) (2 ^ min (1:Int).toNat IntKind.u64.bits)))),F3,b6,b1,(h9.t b2),fI⟩
  ·refine Ex ?_
   refine Al<|Al<|Av rfl ?_
   have b7:=AB ht hg
   exact .inl ⟨rfl,(h0.1,h0.2),F1,b7,h8,h9,fI⟩
 ·rintro f b8 ⟨h7,F2,rfl,ha,hh,⟨_,rfl⟩⟩
  have b9:=A4 hm
  refine Ab<|Sq (Rg (rG 16) ?_)
  refine Vs 5<|Sp b9 (fun h1 ba=>?_) (fun h1 bb=>?_)
  ·refine Vgs h1 3 ?_
   obtain ⟨hb,bc,bd⟩:=bS ba
   obtain ⟨be,hx86'⟩:=Ah bc
   obtain ⟨bu,bv,bw,bx,bz,rfl,hF95,hE96⟩:=Yz (Yu hc hh) hx86'
   have bf:=hE96 _ _ hx86'
   refine Ixg h1 be<|Lxg h1 0 (ha.pers _ _ hF95) bf<|Vgs h1 1 ?_
   obtain ⟨bg,bh,bi⟩:=bS bd
   refine RWP.call (dst:=(some 46)) (ty:=3) (g:=(some (4,true))) (by kernel_rfl) (IY (d:=39) (by kernel_rfl) rfl h1) (f0:=(.tmp 40)) (aos:=#[(.tmp 44),(.tmp 45)]) (ats:=#[34,3]) (fid:=h4) (first:=h2.toArray) (cap:=h3.toArray) (args:=(h2++(([(.agg (BX hb)),(vi x1)]:List Value)++h3))) rfl hd (E9 (l:=[(.agg (BX hb)),(vi x1)]) (fi:=h2) (k:=h3) rfl) ha (he b8 F2 hb x1 _ hh ha.pers bh) ?_
   rintro _ F4 c0 bj c1 rfl
   refine Vgs h1 1<|Pk1 h1<|Vs 2<|Nt<|Rt ?_
   obtain rfl:=Aa bi
   exact Re [(vi h7.1),(.bool (bg==0))] bj rfl
  ·cases bb
def H7 (N:Nat) (x0:Int):Option Bool:=
 some (x0 !=x0)
theorem Iw:Af Tryz.prog 281:=fun _ _=>by kernel_rfl
theorem Js (N:Nat) (w0:World) (F0:Mem) (hF:YN w0 F0) (x0:Int) (r:Bool) (h:H7 N x0=some r):
  Calls Tryz.prog 281 ([(vi x0)]:List Value).toArray w0 (AC w0 F0 fun F' v=>v=(.bool r)):=by
 have h0:=Yt hF
 refine Go 6 Tryz.func281<|Sq (Rg [0] ?_)
 refine Vs 1<|Nss (Rg (rG 4) ?_)
 refine Vs 4<|Nt<|Rt ?_
 obtain rfl:=Aa h
 exact Re [(.bool (x0 !=x0))] h0 rfl
def Jp (N:Nat) (x0 x1:Int):Option Int:=
 ((H7 N x0).bind fun h0=>((H7 N x1).bind fun h1=>(bif h0 then none else (bif h1 then none else (bif (decide (x0 < x1)) then none else (bif (decide (x0 > x1)) then none else some 0))))))
theorem LA:Af Tryz.prog 254:=fun _ _=>by kernel_rfl
theorem Mx (N:Nat) (w0:World) (F0:Mem) (hF:YN w0 F0) (x0 x1 r:Int) (h:Jp N x0 x1=some r):
  Calls Tryz.prog 254 ([(vi x0),(vi x1)]:List Value).toArray w0 (AC w0 F0 fun F' v=>v=(vi r)):=by
 have h0:=Yt hF
 refine Go 20 Tryz.func254<|Sq (Rg [0] ?_)
 refine Vs 1<|Nss (Rg [0,1,2] ?_)
 refine Vs 1 ?_
 obtain ⟨hm,h2,h3⟩:=bS h
 refine Cl' Iw h0 (Js N w0 F0 h0.pers x0 _ h2) ?_
 rintro _ F1 h4 h1 hn rfl
 refine Vs 1<|Nss (Rg [0,1,2] ?_)
 refine Vs 1 ?_
 obtain ⟨ho,h5,h6⟩:=bS h3
 refine Cl' Iw h1 (Js N h4 F1 h1.pers x1 _ h5) ?_
 rintro _ F2 hp h7 hq rfl
 refine Vs 1<|Nss<|Sq (Rg [0] ?_)
 refine Vs 1<|Nt<|Cd h6 (fun h8 h9=>?_) (fun h8 ha=>?_)
 ·cases h9
 ·refine Sc ?_
  refine Ab<|Sq<|Sq (Rg [0] ?_)
  refine Vs 1<|Nt<|Cd ha (fun hb hc=>?_) (fun hb hd=>?_)
  ·cases hc
  ·refine Sc ?_
   refine Ab<|Sq<|Sq (Rg [0,1,2] ?_)
   refine Vs 3<|Nt<|Cd hd (fun he hf=>?_) (fun he hg=>?_)
   ·cases hf
   ·refine Sc ?_
    refine Ab<|Sq<|Sq (Rg [0,1,2] ?_)
    refine Vs 3<|Nt<|Cd hg (fun hh hk=>?_) (fun hh hl=>?_)
    ·cases hk
    ·refine Sc ?_
     refine Ab<|Sq (Rg [0] ?_)
     refine Vs 1<|Nt<|Rt ?_
     obtain rfl:=Aa hl
     exact Re [(vi 0)] h7 rfl

end Go.Proofs.YthljkpeimofbbaaGreatDoor

namespace Go.Proofs.YthljkpeimofbbaaGreatDoor
end Go.Proofs.YthljkpeimofbbaaGreatDoor
