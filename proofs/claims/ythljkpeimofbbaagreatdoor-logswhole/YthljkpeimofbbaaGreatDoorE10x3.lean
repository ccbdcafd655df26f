/- Lemmas of the claim LogsWhole, printed by a program of the claimant and by hand. No statement of the seat is proved here. -/
import Derived.Test.YthljkpeimofbbaaGreatDoorE10x2
set_option linter.unusedVariables false
set_option linter.unusedSimpArgs false
set_option linter.unusedSectionVars false
set_option maxHeartbeats 4000000
set_option maxRecDepth 100000
namespace Go.Proofs.YthljkpeimofbbaaGreatDoor
def up (b:UInt8):UInt8:=if 97<=b.toNat/\b.toNat<=122 then b - 32 else b
def wsF (b:UInt8):Bool:=b==32||(b==9||b==13)
def rfS (st:XL×Bool) (b:UInt8):XL×Bool:=if wsF b=true then (st.1,true) else ((if st.2=true/\st.1≠[] then st.1++[32] else st.1)++[up b],false)
def Ev (s:XL):XL:=(s.foldl rfS ([],false)).1
set_option maxRecDepth 100000 in
theorem Vz {b:UInt8} (h:wsF b=false):up b≠9/\up b≠13/\up b≠32:=by
 have:∀ n:Fin 256,wsF (UInt8.ofNat n.val)=false->up (UInt8.ofNat n.val)≠9/\up (UInt8.ofNat n.val)≠13/\up (UInt8.ofNat n.val)≠32:=by decide
 have h2:=this ⟨b.toNat,b.toNat_lt⟩
 simp only [UInt8.ofNat_toNat] at h2
 exact h2 h
theorem KV (s:XL):(Ev s).length<=s.length:=by
 have:∀ (s:XL) (st:XL×Bool),(s.foldl rfS st).1.length + 0<=st.1.length + s.length + (if st.2=true/\st.1≠[] then 1 else 0):=by
  intro s
  induction s with
  | nil=>intro st;simp
  | cons b s ih=>
   intro st
   rw [List.foldl_cons]
   have h:=ih (rfS st b)
   refine Nat.le_trans h ?_
   unfold rfS
   by_cases hw:wsF b=true
   ·rw [if_pos hw]
    simp only [List.length_cons]
    split <;> split <;> omega
   ·rw [if_neg hw]
    simp only [List.length_append,List.length_cons,List.length_nil]
    by_cases hg:st.2=true/\st.1≠[]
    ·simp only [if_pos hg,List.length_append,List.length_cons,List.length_nil,Bool.false_eq_true,false_and,if_false];omega
    ·simp only [if_neg hg,List.length_append,List.length_cons,List.length_nil,Bool.false_eq_true,false_and,if_false];omega
 have:=this s ([],false)
 unfold Ev
 simpa using this
section
open Go.Lib (decDigits)
def S0:XL:=[67,65,76,76]
def VV:XL:=[67,65,84,69,71,79,82,89]
def VT:XL:=[80,79,87,69,82]
def VU:XL:=[67,76,65,73,77,69,68]
def LN:XL:=[74,85,77,80,83]
def FB:XL:=[69,78,68]
def SJ:List Int->Bool
 | []=>true
 | [_]=>true
 | a::b::r=>decide (a < b)&&SJ (b::r)
def HM (l:List Int):Bool:=l.all (fun n=>decide (1<=n/\n<=20000))&&(SJ l&&decide (l.length<=16))
def hdW (l:Log) (k:Nat):List XL:=match k with
 | 0=>[S0,l.Call]
 | 1=>[VV,decDigits l.Category.toNat]
 | 2=>[VT,decDigits l.Power.toNat]
 | 3=>[VU,decDigits l.Claimed.toNat]
 | _=>LN::l.Jumps.map fun n=>decDigits n.toNat
def hdT (l:Log) (k:Nat):XL:=jn (hdW l k)
def hdV (l:Log) (k:Nat):Bool:=match k with
 | 0=>Ei l.Call
 | 1=>decide (1<=l.Category/\l.Category<=9)
 | 2=>decide (1<=l.Power/\l.Power<=9999)
 | 3=>decide (0<=l.Claimed/\l.Claimed<=1000000)
 | _=>HM l.Jumps
def hdS (k:Nat) (v l:Log):Log:=match k with
 | 0=>{l with Call:=v.Call}
 | 1=>{l with Category:=v.Category}
 | 2=>{l with Power:=v.Power}
 | 3=>{l with Claimed:=v.Claimed}
 | _=>{l with Jumps:=v.Jumps}
theorem SS {s:XL} (h:Ei s=true):∀ b,b∈s->isL b=true\/isD b=true\/b=47:=by
 unfold Ei at h
 cases hc:callB s with
 | none=>rw [hc] at h;cases h
 | some t=>
  obtain ⟨h1,h2⟩:=Q9 hc
  have e:∀ {l:XL},l.all isE=true->∀ b,b∈l->isL b=true\/isD b=true\/b=47:=fun hl b hb=>by
   have:=List.all_eq_true.1 hl b hb
   unfold isE at this
   rw [Bool.or_eq_true] at this
   rcases this with h | h
   ·exact .inl h
   ·exact .inr (.inl h)
  unfold okT at h1
  simp only [Bool.and_eq_true,Bool.or_eq_true,decide_eq_true_eq] at h1
  obtain ⟨⟨⟨⟨a1,a2⟩,a3⟩,_⟩,_⟩:=h1
  intro b hb
  rw [h2] at hb
  unfold LE at hb
  rcases List.mem_append.1 hb with hb | hb
  ·by_cases ht:t.1=[]
   ·rw [if_pos ht] at hb;exact e (RZ a2) b hb
   ·rw [if_neg ht] at hb
    rcases List.mem_append.1 hb with hb | hb
    ·rcases a1 with a1 | a1
     ·exact absurd a1 ht
     ·exact e (Vv a1) b hb
    ·rcases List.mem_cons.1 hb with rfl | hb
     ·exact .inr (.inr rfl)
     ·exact e (RZ a2) b hb
  ·by_cases ht:t.2.2=[]
   ·rw [if_pos ht] at hb;cases hb
   ·rw [if_neg ht] at hb
    rcases List.mem_cons.1 hb with rfl | hb
    ·exact .inr (.inr rfl)
    ·rcases a3 with a3 | a3
     ·exact absurd a3 ht
     ·exact e (Se a3) b hb
def plB (b:UInt8):Bool:=decide (33<=b.toNat)&&decide (b.toNat<=95)
theorem Tk {b:UInt8} (h:plB b=true):b≠32/\b≠10/\b≠9/\b≠13/\ ¬ (97<=b.toNat/\b.toNat<=122):=by
 unfold plB at h
 simp only [Bool.and_eq_true,decide_eq_true_eq] at h
 refine ⟨?_,?_,?_,?_,by omega⟩ <;> · rintro rfl;revert h;decide
theorem TV {b:UInt8} (h:isL b=true):plB b=true:=by unfold isL at h;unfold plB;simp at h ⊢;omega
theorem Nd {b:UInt8} (h:isD b=true):plB b=true:=by unfold isD at h;unfold plB;simp at h ⊢;omega
theorem WZ (u:Nat):(decDigits u).all plB=true:=by
 rw [List.all_eq_true]
 exact fun b hb=>Nd (List.all_eq_true.1 (Ij u) b hb)
def Wd (w:XL):Prop:=w≠[]/\w.all plB=true
theorem Mt (u:Nat):Wd (decDigits u):=⟨by have:=Nl u;intro e;rw [e] at this;simp at this,WZ u⟩
theorem Wd.no32 {w:XL} (h:Wd w):(32:UInt8)∉w:=fun hm=>(Tk (List.all_eq_true.1 h.2 _ hm)).1 rfl
theorem Ng {l:Log} {k:Nat} (h:hdV l k=true):hdW l k≠[]/\ ∀ w,w∈hdW l k->Wd w:=by
 match k,h with
 | 0,h=>
  refine ⟨by simp [hdW],fun w hw=>?_⟩
  simp only [hdW,List.mem_cons,List.not_mem_nil,or_false] at hw
  rcases hw with rfl | rfl
  ·exact ⟨by decide,by decide⟩
  ·refine ⟨?_,?_⟩
   ·rintro e
    have h:Ei l.Call=true:=h
    rw [e] at h;revert h;decide
   ·rw [List.all_eq_true]
    intro b hb
    rcases SS h b hb with h | h | rfl
    ·exact TV h
    ·exact Nd h
    ·decide
 | 1,h=>
  refine ⟨by simp [hdW],fun w hw=>?_⟩
  simp only [hdW,List.mem_cons,List.not_mem_nil,or_false] at hw
  rcases hw with rfl | rfl
  ·exact ⟨by decide,by decide⟩
  ·exact Mt _
 | 2,h=>
  refine ⟨by simp [hdW],fun w hw=>?_⟩
  simp only [hdW,List.mem_cons,List.not_mem_nil,or_false] at hw
  rcases hw with rfl | rfl
  ·exact ⟨by decide,by decide⟩
  ·exact Mt _
 | 3,h=>
  refine ⟨by simp [hdW],fun w hw=>?_⟩
  simp only [hdW,List.mem_cons,List.not_mem_nil,or_false] at hw
  rcases hw with rfl | rfl
  ·exact ⟨by decide,by decide⟩
  ·exact Mt _
 | k + 4,h=>
  refine ⟨by simp [hdW],fun w hw=>?_⟩
  simp only [hdW,List.mem_cons,List.mem_map] at hw
  rcases hw with rfl | ⟨n,_,rfl⟩
  ·exact ⟨by decide,by decide⟩
  ·exact Mt _
theorem O1 {l:Log} {k:Nat} (h:hdV l k=true):pcs 32 (hdT l k)=hdW l k:=RB (Ng h).1 fun w hw=>((Ng h).2 w hw).no32
theorem TR:∀ {l:List XL} {b:UInt8},b∈jn l->b=32\/ ∃ w,w∈l/\b∈w
 | [],b,h=>by rw [QV] at h;cases h
 | [x],b,h=>by rw [Dj] at h;exact .inr ⟨x,by simp,h⟩
 | x::y::r,b,h=>by
  rw [CR (by simp)] at h
  rcases List.mem_append.1 h with h | h
  ·exact .inr ⟨x,by simp,h⟩
  ·rcases List.mem_cons.1 h with rfl | h
   ·exact .inl rfl
   ·rcases TR h with h | ⟨w,hw,hb⟩
    ·exact .inl h
    ·exact .inr ⟨w,List.mem_cons_of_mem _ hw,hb⟩
theorem Vd (m:Int):Wd (JF m):=by
 unfold JF
 split
 ·exact ⟨by decide,by decide⟩
 ·split <;> exact ⟨by decide,by decide⟩
theorem T8 {o:Ac} {E:Ae} (h:CP o E=true):∀ w,w∈fsw o E->Wd w:=by
 intro w hw
 unfold fsw at hw
 split at hw
 ·simp at hw;subst hw;exact ⟨by decide,by decide⟩
 ·obtain ⟨h1,h2,h3⟩:=Kl (okE h) w hw
  refine ⟨by rintro rfl;simp at h3,?_⟩
  rw [List.all_eq_true] at h2 ⊢
  exact fun b hb=>Nd (h2 b hb)
theorem Wz {b:UInt8} (h:Qb b=true):plB b=true:=by
 unfold Qb at h
 simp only [Bool.or_eq_true,beq_iff_eq] at h
 rcases h with (h | h) | rfl
 ·exact TV h
 ·exact Nd h
 ·decide
theorem Vc {o:Ac} {x:Line} (h:OkL o x):Ed o x≠[]/\ ∀ w,w∈Ed o x->Wd w:=by
 have hc:=JG h.c
 have h0:x.Call.all plB=true:=by
  have:=h.c
  unfold Hj at this
  simp only [Bool.and_eq_true] at this
  rw [List.all_eq_true]
  exact fun b hb=>Wz (List.all_eq_true.1 this.2 b hb)
 have hall:(dP 2 (x.Minute.toNat / 60 % 24)++dP 2 (x.Minute.toNat % 60)).all isD=true:=by rw [List.all_append,Gz,Gz];rfl
 refine ⟨by unfold Ed HD;simp,fun w hw=>?_⟩
 unfold Ed HD tW at hw
 simp only [List.mem_append,List.mem_cons,List.not_mem_nil,or_false] at hw
 rcases hw with (((rfl | rfl | rfl | rfl) | (rfl | rfl)) | (rfl | rfl)) | hw | rfl | hw
 ·exact ⟨by decide,by decide⟩
 ·exact Mt _
 ·exact Mt _
 ·exact Vd _
 ·exact Mt _
 ·refine ⟨fun e=>?_,?_⟩
  ·have h1:=congrArg List.length e
   have h2:=(KY 2 (x.Minute.toNat / 60 % 24)).1
   rw [List.length_append,List.length_nil] at h1
   omega
  ·rw [List.all_eq_true] at hall ⊢
   exact fun b hb=>Nd (hall b hb)
 ·exact ⟨by intro e;rw [e] at hc;simp at hc,h0⟩
 ·exact ⟨by decide,by decide⟩
 ·exact T8 h.s w hw
 ·exact ⟨by decide,by decide⟩
 ·exact T8 h.g w hw
theorem RQ {l:List XL} (h:∀ w,w∈l->Wd w):(10:UInt8)∉jn l:=fun hm=>by
 rcases TR hm with h1 | ⟨w,hw,hb⟩
 ·revert h1;decide
 ·exact (Tk (List.all_eq_true.1 (h w hw).2 _ hb)).2.1 rfl
theorem SB {o:Ac} {x:Line} (h:OkL o x):(10:UInt8)∉Bz o x:=RQ (Vc h).2
theorem Kk {l:Log} {k:Nat} (h:hdV l k=true):(10:UInt8)∉hdT l k:=RQ (Ng h).2
def fw (s:XL):XL:=(pcs 32 s).headD []
def fwK (k:Nat):XL:=match k with | 0=>S0 | 1=>VV | 2=>VT | 3=>VU | _=>LN
theorem RT {l:Log} {k:Nat} (h:hdV l k=true):fw (hdT l k)=fwK k:=by
 unfold fw
 rw [O1 h]
 match k with
 | 0=>rfl
 | 1=>rfl
 | 2=>rfl
 | 3=>rfl
 | k + 4=>rfl
theorem RS {o:Ac} {x:Line} (h:OkL o x):fw (Bz o x)=QSO:=by unfold fw;rw [FJ h];rfl
theorem T7:fw FB=FB:=rfl
theorem Vk {u v:Log} {j k:Nat} (hj:j<=4) (hk:k<=4) (hu:hdV u j=true) (hv:hdV v k=true) (h:hdT u j=hdT v k):j=k:=by
 have e:=RT hu
 rw [h,RT hv] at e
 have a:j=0\/j=1\/j=2\/j=3\/j=4:=by omega
 have b:k=0\/k=1\/k=2\/k=3\/k=4:=by omega
 rcases a with rfl | rfl | rfl | rfl | rfl <;> rcases b with rfl | rfl | rfl | rfl | rfl <;> first | rfl | exact absurd e (by decide)
theorem P0 {u:Log} {k:Nat} {o:Ac} {x:Line} (hu:hdV u k=true) (hx:OkL o x):hdT u k≠Bz o x:=by
 intro h
 have e:=RT hu
 rw [h,RS hx] at e
 match k with
 | 0=>exact absurd e (by decide)
 | 1=>exact absurd e (by decide)
 | 2=>exact absurd e (by decide)
 | 3=>exact absurd e (by decide)
 | k + 4=>exact absurd e (by show ¬ _=LN;decide)
theorem Nh {u:Log} {k:Nat} (hu:hdV u k=true):hdT u k≠FB:=by
 intro h
 have e:=RT hu
 rw [h,T7] at e
 match k with
 | 0=>exact absurd e (by decide)
 | 1=>exact absurd e (by decide)
 | 2=>exact absurd e (by decide)
 | 3=>exact absurd e (by decide)
 | k + 4=>exact absurd e (by show ¬ _=LN;decide)
theorem OS {o:Ac} {x:Line} (hx:OkL o x):Bz o x≠FB:=by
 intro h
 have e:=RS hx
 rw [h,T7] at e
 exact absurd e (by decide)
theorem IQ {l:List Int} (h:HM l=true):∀ n,n∈l->1<=n/\n<=20000:=by
 unfold HM at h
 simp only [Bool.and_eq_true,List.all_eq_true,decide_eq_true_eq] at h
 exact h.1
theorem Ly:∀ {a b:List Int},(∀ n,n∈a->0<=n)->(∀ n,n∈b->0<=n)->(a.map fun n=>decDigits n.toNat)=(b.map fun n=>decDigits n.toNat)->a=b
 | [],[],_,_,_=>rfl
 | [],_::_,_,_,h=>by simp at h
 | _::_,[],_,_,h=>by simp at h
 | x::a,y::b,ha,hb,h=>by
  simp only [List.map_cons,List.cons.injEq] at h
  rw [IU (ha x (by simp)) (hb y (by simp)) h.1,Ly (fun n hn=>ha n (by simp [hn])) (fun n hn=>hb n (by simp [hn])) h.2]
theorem Wj {u v:Log} {k:Nat} (hu:hdV u k=true) (hv:hdV v k=true) (h:hdT u k=hdT v k):∀ l,hdS k u l=hdS k v l:=by
 have e:hdW u k=hdW v k:=by rw [<-O1 hu,<-O1 hv,h]
 intro l
 match k,hu,hv,e with
 | 0,hu,hv,e=>
  simp only [hdW,List.cons.injEq,and_true,true_and] at e
  simp only [hdS,e]
 | 1,hu,hv,e=>
  simp only [hdW,List.cons.injEq,and_true,true_and] at e
  simp only [hdV,decide_eq_true_eq] at hu hv
  simp only [hdS,IU (by omega) (by omega) e]
 | 2,hu,hv,e=>
  simp only [hdW,List.cons.injEq,and_true,true_and] at e
  simp only [hdV,decide_eq_true_eq] at hu hv
  simp only [hdS,IU (by omega) (by omega) e]
 | 3,hu,hv,e=>
  simp only [hdW,List.cons.injEq,and_true,true_and] at e
  simp only [hdV,decide_eq_true_eq] at hu hv
  simp only [hdS,IU (by omega) (by omega) e]
 | k + 4,hu,hv,e=>
  simp only [hdW,List.cons.injEq,true_and] at e
  have:=Ly (fun n hn=>by have:=IQ (show HM u.Jumps=true from hu) n hn;omega) (fun n hn=>by have:=IQ (show HM v.Jumps=true from hv) n hn;omega) e
  simp only [hdS,this]
end
section
open Go.Lib (decDigits)
def lnE (s:XL):List (XL×Bool):=match (pcs 10 s).getLast?,(pcs 10 s).dropLast with
 | some [],l=>l.map fun x=>(x,true)
 | some x,l=>l.map (fun x=>(x,true))++[(x,false)]
 | none,l=>l.map fun x=>(x,true)
theorem MR {c:UInt8}:∀ {L:List XL} {x:XL},(∀ y,y∈L->c∉y)->c∉x->pcs c (L.flatMap (fun y=>y++[c])++x)=L++[x]
 | [],x,_,hx=>by simpa using E0 hx
 | y::L,x,hL,hx=>by
  have ih:=MR (L:=L) (x:=x) (fun z hz=>hL z (by simp [hz])) hx
  rw [List.flatMap_cons]
  have:y++[c]++L.flatMap (fun y=>y++[c])++x=y++c::(L.flatMap (fun y=>y++[c])++x):=by simp
  rw [this,Gc (hL y (by simp)),ih];rfl
theorem RO {L:List XL} (h:∀ y,y∈L->(10:UInt8)∉y):lnE (L.flatMap fun y=>y++[10])=L.map fun x=>(x,true):=by
 have:=MR (c:=10) (L:=L) (x:=[]) h (by simp)
 rw [List.append_nil] at this
 unfold lnE
 rw [this]
 simp
theorem TK (s:XL):(lnE s).flatMap (fun p=>if p.2=true then p.1++[10] else p.1)=s:=by
 have h:=J6 10 s
 have hn:=G6 10 s
 have key:∀ (l:List XL),l≠[]->[(10:UInt8)].intercalate l=l.dropLast.flatMap (fun y=>y++[10])++(l.getLast?.getD []):=by
  intro l
  induction l with
  | nil=>intro h;exact absurd rfl h
  | cons x r ih=>
   intro _
   cases r with
   | nil=>simp [List.intercalate]
   | cons y r=>
    have:=ih (by simp)
    simp only [List.intercalate,List.intersperse,List.flatten_cons] at this ⊢
    rw [this]
    simp
 rw [key _ hn] at h
 unfold lnE
 cases hl:(pcs 10 s).getLast? with
 | none=>exact absurd (List.getLast?_eq_none_iff.1 hl) hn
 | some x=>
  rw [hl] at h
  have e:∀ l:List XL,(l.map fun x=>(x,true)).flatMap (fun p=>if p.2=true then p.1++[10] else p.1)=l.flatMap fun y=>y++[10]:=by
   intro l
   induction l with
   | nil=>rfl
   | cons a l ih=>rw [List.map_cons,List.flatMap_cons,List.flatMap_cons,ih];rfl
  cases x with
  | nil=>
   simp only
   rw [e]
   simpa using h
  | cons b x=>
   simp only
   rw [List.flatMap_append,e]
   simpa using h
def JB (o:Ac) (l:List Line) (i:Nat):Bool:=match l[i]? with
 | some x=>Cy o x&&(decide (i=0)||match l[i - 1]? with
  | some y=>decide (y.Num < x.Num)&&decide (y.Minute<=x.Minute)
  | none=>true)
 | none=>true
def Hk (o:Ac) (l:List Line):Option Nat:=(List.range l.length).find? fun i=>!JB o l i
def P2 (l:Log):Bool:=hdV l 0&&(hdV l 1&&(hdV l 2&&(hdV l 3&&hdV l 4)))
def chk (o:Ac) (l:Log):Int×Int:=
 if l.Jumps.length > 16\/l.Lines.length > 400 then (2,0)
 else if P2 l=false then (21,0)
 else match Hk o l.Lines with
  | some i=>(21,(i:Int) + 1)
  | none=>(0,0)
def Kc (o:Ac) (l:Log):List XL:=[hdT l 0,hdT l 1,hdT l 2,hdT l 3,hdT l 4]++l.Lines.map (Bz o)++[FB]
def Ia (o:Ac) (l:Log):XL:=(Kc o l).flatMap fun y=>y++[10]
end
def AQ (N:Nat) (x0 x1 x2:Int):Option Bool:=
 some ((decide (x1<=x0))&&(decide (x0<=x2)))
theorem AC:Aj Tryz.prog 73:=fun _ _=>by kernel_rfl
theorem AK (N:Nat) (w0:World) (F0:Mem) (hF:XN w0 F0) (x0 x1 x2:Int) (r:Bool) (h:AQ N x0 x1 x2=some r):
  Calls Tryz.prog 73 ([(vi x0),(vi x1),(vi x2)]:List Value).toArray w0 (AA w0 F0 fun F' v=>v=(.bool r)):=by
 have h1:=Xs hF
 refine Go 15 Tryz.func73<|Sq (Rg [0] ?_)
 refine Vs 1<|Nss (Rg (rG 9) ?_)
 refine Xw (fun f w=>∃ (F1:Mem),HS w0 F0 w F1 []/\Xq F0 F1/\FI f [] [(6,(.bool ((decide (x1<=x0))&&(decide (x0<=x2)))))]) ?_ ?_
 ·refine Vs 4 ?_
  refine Xv (decide (x1<=x0)) (fun h0=>?_) (fun h0=>?_)
  ·refine Vgs h0 3 ?_
   refine Pk1 h0<|Vs 1 ?_
   exact Xm ⟨rfl,F0,h1,(Xr _),(fJ ⟨(congrArg Value.bool (Ot h0 rfl)),trivial⟩)⟩
  ·refine Ss h0 3 ?_
   refine Pk0 h0<|Vs 1 ?_
   exact Xm ⟨rfl,F0,h1,(Xr _),(fJ ⟨(congrArg Value.bool (Ou h0 rfl)),trivial⟩)⟩
 ·rintro f h3 ⟨F1,h2,h4,⟨_,rfl⟩⟩
  refine Ab<|Rt ?_
  obtain rfl:=Aa h
  exact Re [(.bool ((decide (x1<=x0))&&(decide (x0<=x2))))] h2 rfl
def DR (N:Nat) (x0:XL) (h5:Bool):(Bool×Int)->Option (BC Bool (Bool×Int)):=fun h0=>
 (bif (decide (h0.2 < (x0.length:Int))) then ((Sf x0 h0.2).bind fun h1=>((bif h0.1 then ((AQ N (W64 h1) 65 90).bind fun h2=>(bif h2 then some true else ((AQ N (W64 h1) 48 57).bind fun h3=>(bif h3 then some true else some (h1==47))))) else some false).bind fun h4=>some (.next (h4,(W64 (h0.2 + 1)))))) else some (.done (h0.1,h0.2)))
def He (N:Nat) (x0:XL):Option Bool:=
 ((AQ N (x0.length:Int) 1 16).bind fun h0=>((AU (DR N x0 h0) N (h0,0)).bind fun o=>o.k (fun r=>some r) (fun h1=>some h1.1)))
theorem NP:Aj Tryz.prog 74:=fun _ _=>by kernel_rfl
theorem Pi (N:Nat) (w0:World) (F0:Mem) (hF:XN w0 F0) (x0:XL) (r:Bool) (h:He N x0=some r):
  Calls Tryz.prog 74 ([(sv x0)]:List Value).toArray w0 (AA w0 F0 fun F' v=>v=(.bool r)):=by
 have h9:=Xs hF
 refine Go 34 Tryz.func74<|Sq (Rg [0] ?_)
 refine Vs 1<|Nss (Rg (rG 4) ?_)
 refine Vs 2 ?_
 obtain ⟨ha,hl,hm⟩:=bS h
 refine Cl' AC h9 (AK N w0 F0 h9.pers ((x0.length:Int)) 1 16 _ hl) ?_
 rintro _ F1 bj hn bk rfl
 refine Vs 1<|Nss<|Sq (Rg [0,1,2] ?_)
 refine Vs 3<|Nt ?_
 obtain ⟨hb,ho,hp⟩:=bS hm
 refine Xx (fun f w=>∃ (h4:(Bool×Int)) (F3:Mem),hb=.done h4/\HS w0 F0 w F3 []/\Xq F1 F3/\FI f [] [(3,(.bool h4.1))]) ?_ ?_
 ·refine Bk ?_
  refine Xp (by kernel_rfl) (fun m f w=>∃ (h1:(Bool×Int)) (F2:Mem),AU (DR N x0 ha) m h1=some hb/\HS w0 F0 w F2 []/\Xq F1 F2/\FI f [] [(0,(sv x0)),(3,(.bool h1.1)),(10,(vi (x0.length:Int))),(11,(vi h1.2))]) N ⟨(ha,0),F1,ho,hn,(Xr _),fI⟩ ?_
  rintro bl f hq ⟨h1,F2,hr,h5,hc,⟨_,rfl⟩⟩
  obtain ⟨ht,bm,rfl,hu,he⟩:=AV hr
  refine Sq (Rg [0] ?_)
  refine Vs 1<|Nss<|Cd hu (fun hv hw=>?_) (fun hv hx=>?_)
  ·refine Sc ?_
   refine Ab<|Sq<|Bk<|Sq (Rg [0,1] ?_)
   refine Vs 2<|Nss (Rg (rG 4) ?_)
   refine Vs 2 ?_
   obtain ⟨h6,hy,hz⟩:=bS hw
   refine V 16 5 (PA (t:=9) (x:=(.tmp 14)) (y:=(.tmp 15)) (a:=x0) (k:=.i64) (i:=h1.2) (v:=h6) rfl rfl (by kernel_rfl) hy)<|Vs 1<|Nt<|Rg (rG 16) ?_
   obtain ⟨hf,b0,b1⟩:=bS hz
   refine Xw (fun f w=>∃ (F4:Mem),HS w0 F0 w F4 []/\Xq F2 F4/\FI f [] [(0,(sv x0)),(3,(.bool hf)),(10,(vi (x0.length:Int))),(11,(vi h1.2))]) ?_ ?_
   ·refine Vs 2 ?_
    refine Sp b0 (fun h0 b2=>?_) (fun h0 b3=>?_)
    ·refine Vgs h0 2 ?_
     obtain ⟨bn,b4,b5⟩:=bS b2
     refine Cg h0 AC h5 (AK N hq F2 h5.pers ((W64 h6)) 65 90 _ b4) ?_
     rintro _ F5 b6 h7 h8 rfl
     refine Vgs h0 1<|Sp b5 (fun h2 b7=>?_) (fun h2 b8=>?_)
     ·refine Ss h2 3 ?_
      refine Pg1 h0 h2<|Vgs h0 1<|Ss (rfl:true=true) 2<|Pg1 h0 (rfl:true=true)<|Pk1 h0<|Vs 1 ?_
      obtain rfl:=Aa b7
      exact Xm ⟨rfl,F5,h7,h8,fI⟩
     ·refine Vgs h2 2 ?_
      obtain ⟨bo,b9,ba⟩:=bS b8
      refine Cg h2 AC h7 (AK N b6 F5 h7.pers ((W64 h6)) 48 57 _ b9) ?_
      rintro _ F6 bp hg hh rfl
      refine Pg0 h0 h2<|Vgs h0 1<|Sp ba (fun h3 bb=>?_) (fun h3 bc=>?_)
      ·refine Ss h3 2 ?_
       refine Pg1 h0 h3<|Pk1 h0<|Vs 1 ?_
       obtain rfl:=Aa bb
       exact Xm ⟨rfl,F6,hg,(h8.t hh),fI⟩
      ·refine Vgs h3 2 ?_
       refine Pg0 h0 h3<|Pk1 h0<|Vs 1 ?_
       obtain rfl:=Aa bc
       exact Xm ⟨rfl,F6,hg,(h8.t hh),fI⟩
    ·refine Ss h0 4 ?_
     refine Su' 3<|Ss h0 2<|Su' 2<|Ss h0 1<|Pk0 h0<|Vs 1 ?_
     obtain rfl:=Aa b3
     exact Xm ⟨rfl,F2,h5,(Xr _),fI⟩
   ·rintro f bq ⟨F4,bd,be,⟨_,rfl⟩⟩
    refine Av<|Ab<|Rg [0,1]<|Vs 2<|Xm ?_
    have bf:=AW b1 he
    exact ⟨ht,Nat.lt_succ_self _,(hf,(W64 (h1.2 + 1))),F4,bf,bd,(hc.t be),fI⟩
  ·refine Ex ?_
   refine Au<|Au<|AB rfl ?_
   have bg:=AX hx he
   exact .inl ⟨rfl,(h1.1,h1.2),F2,bg,h5,hc,fI⟩
 ·rintro f br ⟨h4,F3,rfl,bh,bs,⟨_,rfl⟩⟩
  have bi:=BX hp
  refine Ab<|Sq (Rg [0,1] ?_)
  refine Vs 2<|Nt<|Rt ?_
  obtain rfl:=Aa bi
  exact Re [(.bool h4.1)] bh rfl
def CD (N:Nat) (x0:Ac) (x1:Line):Option Bool:=
 (((AQ N x1.Num 1 65535).bind fun h0=>(bif h0 then ((AQ N x1.Khz 1 10000000).bind fun h1=>(bif h1 then ((AQ N x1.Mode 1 3).bind fun h2=>(bif h2 then ((AQ N x1.Minute 0 20000).bind fun h3=>(bif h3 then ((He N x1.Call).bind fun h4=>(bif h4 then ((BW N ({Report:=x0.Report,Serial:=x0.Serial,Zone:=x0.Zone}:Ac) ({Report:=x1.Sent.Report,Serial:=x1.Sent.Serial,Zone:=x1.Sent.Zone}:Ae)).bind fun h5=>(bif h5 then ((BW N ({Report:=x0.Report,Serial:=x0.Serial,Zone:=x0.Zone}:Ac) ({Report:=x1.Got.Report,Serial:=x1.Got.Serial,Zone:=x1.Got.Zone}:Ae)).bind fun h6=>some h6) else some false)) else some false)) else some false)) else some false)) else some false)) else some false)).bind fun h7=>some h7)
theorem Gn:Aj Tryz.prog 21:=fun _ _=>by kernel_rfl
theorem GY (N:Nat) (w0:World) (F0:Mem) (hF:XN w0 F0) (x0:Ac) (x1:Line) (r:Bool) (h:CD N x0 x1=some r):
  Calls Tryz.prog 21 ([(.agg (Al x0)),(.agg (Cn x1))]:List Value).toArray w0 (AA w0 F0 fun F' v=>v=(.bool r)):=by
 have ho:=Xs hF
 refine Go 40 Tryz.func21<|Sq (Rg [0,1,2] ?_)
 refine Bx' 23 (Al x0) ho (fun bt bu hp=>?_)
 refine Bx' 34 (Cn x1) hp (fun bv hq hh=>?_)
 refine Vs 1<|Nss (Rg (rG 36) ?_)
 obtain ⟨hm,hr,ht⟩:=bS h
 refine Xw (fun f w=>∃ (F1:Mem),HS w0 F0 w F1 []/\Xq F0 F1/\FI f [] [(4,(.bool hm))]) ?_ ?_
 ·refine Vs 1 ?_
  refine Ld hh.at0 ?_
  obtain ⟨bw,hu,hv⟩:=bS hr
  refine Cl' AC hh (AK N hq F0 hh.pers x1.Num 1 65535 _ hu) ?_
  rintro _ F2 hw hb h2 rfl
  refine Vs 1<|Sp hv (fun h3 hx=>?_) (fun h3 hy=>?_)
  ·refine Vgs h3 1 ?_
   refine Lg h3 hb.at0 ?_
   obtain ⟨bx,hz,b0⟩:=bS hx
   refine Cg h3 AC hb (AK N hw F2 hb.pers x1.Khz 1 10000000 _ hz) ?_
   rintro _ F3 b1 hc h7 rfl
   refine Pk1 h3<|Vs 1<|Sp b0 (fun h4 b2=>?_) (fun h4 b3=>?_)
   ·refine Vgs h4 1 ?_
    refine Lg h4 hc.at0 ?_
    obtain ⟨bz,b4,b5⟩:=bS b2
    refine Cg h4 AC hc (AK N b1 F3 hc.pers x1.Mode 1 3 _ b4) ?_
    rintro _ F4 b6 he h8 rfl
    refine Pk1 h4<|Vs 1<|Sp b5 (fun h5 b7=>?_) (fun h5 b8=>?_)
    ·refine Vgs h5 1 ?_
     refine Lg h5 he.at0 ?_
     obtain ⟨c0,b9,ba⟩:=bS b7
     refine Cg h5 AC he (AK N b6 F4 he.pers x1.Minute 0 20000 _ b9) ?_
     rintro _ F5 bb hf hg rfl
     refine Pk1 h5<|Vs 1<|Sp ba (fun h6 bc=>?_) (fun h6 bd=>?_)
     ·refine Vgs h6 1 ?_
      refine Lg h6 hf.at0 ?_
      obtain ⟨c1,be,bf⟩:=bS bc
      refine Cg h6 NP hf (Pi N bb F5 hf.pers x1.Call _ be) ?_
      rintro _ F6 bg h9 hl rfl
      refine Pk1 h6<|Vs 1<|Sp bf (fun h0 bh=>?_) (fun h0 bi=>?_)
      ·refine Lg h0 h9.at1 ?_
       refine Vgs h0 1<|Lg h0 h9.at0 ?_
       obtain ⟨c3,bj,bk⟩:=bS bh
       refine Cg h0 Dm h9 (DK N bg F6 h9.pers (({Report:=x0.Report,Serial:=x0.Serial,Zone:=x0.Zone}:Ac)) (({Report:=x1.Sent.Report,Serial:=x1.Sent.Serial,Zone:=x1.Sent.Zone}:Ae)) _ bj) ?_
       rintro _ F7 bl ha hn rfl
       refine Pk1 h0<|Vs 1<|Sp bk (fun h1 bm=>?_) (fun h1 bn=>?_)
       ·refine Lg h1 ha.at1 ?_
        refine Vgs h1 1<|Lg h1 ha.at0 ?_
        obtain ⟨c4,bo,bp⟩:=bS bm
        refine Cg h1 Dm ha (DK N bl F7 ha.pers (({Report:=x0.Report,Serial:=x0.Serial,Zone:=x0.Zone}:Ac)) (({Report:=x1.Got.Report,Serial:=x1.Got.Serial,Zone:=x1.Got.Zone}:Ae)) _ bo) ?_
        rintro _ F8 c5 bq br rfl
        refine Pk1 h1<|Vs 1 ?_
        obtain rfl:=Aa bp
        exact Xm ⟨rfl,F8,bq.dr0.dr0,((((((h2.t h7).trans h8).trans hg).trans hl).trans hn).trans br),fI⟩
       ·refine Ss h1 4 ?_
        refine Pk0 h1<|Vs 1 ?_
        obtain rfl:=Aa bn
        exact Xm ⟨rfl,F7,ha.dr0.dr0,(((((h2.t h7).trans h8).trans hg).trans hl).trans hn),fI⟩
      ·refine Ss h0 4 ?_
       refine Pk0 h0<|Vs 1<|Ss (rfl:false=false) 4<|Pk0 (rfl:false=false)<|Vs 1 ?_
       obtain rfl:=Aa bi
       exact Xm ⟨rfl,F6,h9.dr0.dr0,((((h2.t h7).trans h8).trans hg).trans hl),fI⟩
     ·refine Ss h6 3 ?_
      refine Pk0 h6<|Vs 1<|Ss (rfl:false=false) 4<|Pk0 (rfl:false=false)<|Vs 1<|Ss (rfl:false=false) 4<|Pk0 (rfl:false=false)<|Vs 1 ?_
      obtain rfl:=Aa bd
      exact Xm ⟨rfl,F5,hf.dr0.dr0,(((h2.t h7).trans h8).trans hg),fI⟩
    ·refine Ss h5 3 ?_
     refine Pk0 h5<|Vs 1<|Ss (rfl:false=false) 3<|Pk0 (rfl:false=false)<|Vs 1<|Ss (rfl:false=false) 4<|Pk0 (rfl:false=false)<|Vs 1<|Ss (rfl:false=false) 4<|Pk0 (rfl:false=false)<|Vs 1 ?_
     obtain rfl:=Aa b8
     exact Xm ⟨rfl,F4,he.dr0.dr0,((h2.t h7).trans h8),fI⟩
   ·refine Ss h4 3 ?_
    refine Pk0 h4<|Vs 1<|Ss (rfl:false=false) 3<|Pk0 (rfl:false=false)<|Vs 1<|Ss (rfl:false=false) 3<|Pk0 (rfl:false=false)<|Vs 1<|Ss (rfl:false=false) 4<|Pk0 (rfl:false=false)<|Vs 1<|Ss (rfl:false=false) 4<|Pk0 (rfl:false=false)<|Vs 1 ?_
    obtain rfl:=Aa b3
    exact Xm ⟨rfl,F3,hc.dr0.dr0,(h2.t h7),fI⟩
  ·refine Ss h3 3 ?_
   refine Pk0 h3<|Vs 1<|Ss (rfl:false=false) 3<|Pk0 (rfl:false=false)<|Vs 1<|Ss (rfl:false=false) 3<|Pk0 (rfl:false=false)<|Vs 1<|Ss (rfl:false=false) 3<|Pk0 (rfl:false=false)<|Vs 1<|Ss (rfl:false=false) 4<|Pk0 (rfl:false=false)<|Vs 1<|Ss (rfl:false=false) 4<|Pk0 (rfl:false=false)<|Vs 1 ?_
   obtain rfl:=Aa hy
   exact Xm ⟨rfl,F2,hb.dr0.dr0,h2,fI⟩
 ·rintro f c6 ⟨F1,bs,c7,⟨_,rfl⟩⟩
  refine Ab<|Rt ?_
  obtain rfl:=Aa ht
  exact Re [(.bool hm)] bs rfl




def EP (N:Nat) (x0:(List Int)):Int->Option (BC Bool Int):=fun h0=>
 (bif (decide (h0 < (x0.length:Int))) then ((idx x0 h0).bind fun h1=>(((AQ N h1 1 20000).bind fun h2=>(bif (!h2) then some true else (bif (decide (h0 > 0)) then ((idx x0 (W64 (h0 - 1))).bind fun h3=>some (decide (h1<=h3))) else some false))).bind fun h4=>(bif h4 then some (.ret false) else some (.next (W64 (h0 + 1)))))) else some (.done h0))
def De (N:Nat) (x0:(List Int)):Option Bool:=
 ((AU (EP N x0) N 0).bind fun o=>o.k (fun r=>some r) (fun h0=>some (decide ((x0.length:Int)<=16))))
theorem GD:Aj Tryz.prog 80:=fun _ _=>by kernel_rfl
theorem Hs (N:Nat) (w0:World) (F0:Mem) (hF:XN w0 F0) (x0:(List Int)) (h4:XM) (h2:Nat) (bl:LC x0.length h2) (hh:SlA AE F0 h4 x0) (r:Bool) (h:De N x0=some r):
  Calls Tryz.prog 80 ([(sL h4 x0 h2)]:List Value).toArray w0 (AA w0 F0 fun F' v=>v=(.bool r)):=by
 have hl:=Xs hF
 refine Go 32 Tryz.func80<|Sq (Rg [0] ?_)
 refine Vs 1<|Nss<|Sq (Rg [0,1,2] ?_)
 refine Vs 3<|Nt ?_
 obtain ⟨ha,hm,hb⟩:=bS h
 refine Xx (fun f w=>∃ (hc:Int) (F2:Mem),ha=.done hc/\HS w0 F0 w F2 []/\Xq F0 F2/\FI f [] [(0,(sL h4 x0 h2))]) ?_ ?_
 ·refine Bk ?_
  refine Xp (by kernel_rfl) (fun m f w=>∃ (h3:Int) (F1:Mem),AU (EP N x0) m h3=some ha/\HS w0 F0 w F1 []/\Xq F0 F1/\FI f [] [(0,(sL h4 x0 h2)),(5,(sL h4 x0 h2)),(6,(vi (x0.length:Int))),(7,(vi h3))]) N ⟨0,F0,hm,hl,(Xr _),fI⟩ ?_
  rintro bm f hn ⟨h3,F1,ho,h5,h8,⟨_,rfl⟩⟩
  obtain ⟨hp,bn,rfl,hq,h9⟩:=AV ho
  refine Sq (Rg [0] ?_)
  refine Vs 1<|Nss<|Cd hq (fun hr ht=>?_) (fun hr hu=>?_)
  ·refine Sc ?_
   refine Ab<|Sq<|Bk<|Sq (Rg (rG 5) ?_)
   refine Vs 1 ?_
   obtain ⟨hv,hw,hx⟩:=bS ht
   obtain ⟨hy,hx49'⟩:=Ap hw
   obtain ⟨he,hf,bo,bp,bq,rfl,hF58,hE59⟩:=Xy (Xt hh h8) hx49'
   have hz:=hE59 _ _ hx49'
   refine Ix hy<|Lx 0 (h5.pers _ _ hF58) hz<|Vs 2<|Nss (Rg (rG 16) ?_)
   obtain ⟨b0,b1,b2⟩:=bS hx
   refine Xw (fun f w=>∃ (F3:Mem),HS w0 F0 w F3 []/\Xq F1 F3/\FI f [] [(0,(.slice (some ⟨he,hf,none⟩) x0.length h2)),(5,(.slice (some ⟨he,hf,none⟩) x0.length h2)),(6,(vi (x0.length:Int))),(7,(vi h3)),(27,(.bool b0))]) ?_ ?_
   ·refine Vs 1 ?_
    obtain ⟨br,b3,b4⟩:=bS b1
    refine Cl' AC h5 (AK N hn F1 h5.pers hv 1 20000 _ b3) ?_
    rintro _ F4 bs h6 h7 rfl
    refine Vs 2<|Sp b4 (fun h0 b5=>?_) (fun h0 b6=>?_)
    ·refine Ss h0 3 ?_
     refine Su' 7<|Ss h0 1<|Pk1 h0 ?_
     obtain rfl:=Aa b5
     exact Xm ⟨rfl,F4,h6,h7,fI⟩
    ·refine Vgs h0 3 ?_
     refine Sp b6 (fun h1 b7=>?_) (fun h1 b8=>?_)
     ·refine Vgs h1 4 ?_
      obtain ⟨bt,b9,ba⟩:=bS b7
      obtain ⟨bb,hx89'⟩:=Ap b9
      have bc:=hE59 _ _ hx89'
      refine Ixg h1 bb<|Lxg h1 0 (h6.pers _ _ (h7 _ _ hF58)) bc<|Vgs h1 1<|Pg1 h0 h1<|Pk0 h0 ?_
      obtain rfl:=Aa ba
      exact Xm ⟨rfl,F4,h6,h7,fI⟩
     ·refine Ss h1 7 ?_
      refine Pg0 h0 h1<|Pk0 h0 ?_
      obtain rfl:=Aa b8
      exact Xm ⟨rfl,F4,h6,h7,fI⟩
   ·rintro f bu ⟨F3,hg,bd,⟨_,rfl⟩⟩
    refine Ab<|Cd b2 (fun be bf=>?_) (fun be bg=>?_)
    ·refine Sq (Rg [0] ?_)
     refine Vs 1<|Nt<|Rt<|Ay<|Af<|Af<|Ay ?_
     have hret:=CV bf h9
     subst hret
     refine .inr<|Af ?_
     obtain rfl:=Aa hb
     exact Re [(.bool false)] hg rfl
    ·refine Sc ?_
     refine Av<|Ab<|Rg [0,1]<|Vs 2<|Xm ?_
     have bh:=AW bg h9
     exact ⟨hp,Nat.lt_succ_self _,(W64 (h3 + 1)),F3,bh,hg,(h8.t bd),fI⟩
  ·refine Ex ?_
   refine Au<|Au<|AB rfl ?_
   have bi:=AX hu h9
   exact .inl ⟨rfl,h3,F1,bi,h5,h8,fI⟩
 ·rintro f bv ⟨hc,F2,rfl,bj,bw,⟨_,rfl⟩⟩
  have bk:=BX hb
  refine Ab<|Sq (Rg (rG 4) ?_)
  refine Vs 4<|Nt<|Rt ?_
  obtain rfl:=Aa bk
  exact Re [(.bool (decide ((x0.length:Int)<=16)))] bj rfl
def DT (N:Nat) (x0:Ac) (x1:Log) (h6:Bool):Int->Option (BC (Int×Int) Int):=fun h0=>
 (bif (decide (h0 < (x1.Lines.length:Int))) then ((idx x1.Lines h0).bind fun h1=>(((CD N ({Report:=x0.Report,Serial:=x0.Serial,Zone:=x0.Zone}:Ac) h1).bind fun h2=>(bif (!h2) then some true else (bif (decide (h0 > 0)) then ((idx x1.Lines (W64 (h0 - 1))).bind fun h3=>(bif (decide (h1.Num<=h3.Num)) then some true else ((idx x1.Lines (W64 (h0 - 1))).bind fun h4=>some (decide (h1.Minute < h4.Minute))))) else some false))).bind fun h5=>(bif h5 then some (.ret (21,(W64 (h0 + 1)))) else some (.next (W64 (h0 + 1)))))) else some (.done h0))
def D6 (N:Nat) (x0:Ac) (x1:Log):Option (Int×Int):=
 (bif ((decide ((x1.Jumps.length:Int) > 16))||(decide ((x1.Lines.length:Int) > 400))) then some (2,0) else (((DW N x1.Call).bind fun h1=>(bif (!h1) then some true else ((AQ N x1.Category 1 9).bind fun h2=>(bif (!h2) then some true else ((AQ N x1.Power 1 9999).bind fun h3=>(bif (!h3) then some true else ((AQ N x1.Claimed 0 1000000).bind fun h4=>(bif (!h4) then some true else ((De N x1.Jumps).bind fun h5=>some (!h5)))))))))).bind fun h0=>(bif h0 then some (21,0) else ((AU (DT N x0 x1 h0) N 0).bind fun o=>o.k (fun r=>some r) (fun h6=>some (0,0))))))
theorem GF:Aj Tryz.prog 23:=fun _ _=>by kernel_rfl
theorem Ht (N:Nat) (w0:World) (F0:Mem) (hF:XN w0 F0) (hG:BB F0) (x0:Ac) (x1:Log) (h9:XM) (ha:Nat) (bg:LC x1.Jumps.length ha) (bh:SlA AE F0 h9 x1.Jumps) (hl:XM) (h8:Nat) (du:LC x1.Lines.length h8) (bi:SlA AD F0 hl x1.Lines) (r:(Int×Int)) (h:D6 N x0 x1=some r):
  Calls Tryz.prog 23 ([(.agg (Al x0)),(.agg (AL x1 h9 ha hl h8))]:List Value).toArray w0 (AA w0 F0 fun F' v=>v=(.tuple #[(vi r.1),(vi r.2)])):=by
 have bj:=Xs hF
 refine Go 89 Tryz.func23<|Sq (Rg (rG 4) ?_)
 refine Bx' 23 (Al x0) bj (fun hb dv bk=>?_)
 refine Bx' 27 (AL x1 h9 ha hl h8) bk (fun h2 dw hr=>?_)
 refine Vs 2<|Nss<|Sq (Rg (rG 10) ?_)
 refine Xw (fun f w=>∃ (F1:Mem),HS w0 F0 w F1 [(sb h2 (AL x1 h9 ha hl h8) 27),(sb hb (Al x0) 23)]/\Xq F0 F1/\FI f [] [(2,(pt hb 0)),(3,(pt h2 0)),(17,(.bool ((decide ((x1.Jumps.length:Int) > 16))||(decide ((x1.Lines.length:Int) > 400)))))]) ?_ ?_
 ·refine Vs 1 ?_
  refine Ld hr.at0<|Vs 3<|Xv (decide ((x1.Jumps.length:Int) > 16)) (fun hc=>?_) (fun hc=>?_)
  ·refine Ss hc 4 ?_
   refine Pk1 hc ?_
   exact Xm ⟨rfl,F0,hr,(Xr _),(fJ ⟨rfl,rfl,(congrArg Value.bool (G9 hc rfl)),trivial⟩)⟩
  ·refine Vgs hc 1 ?_
   refine Lg hc hr.at0<|Vgs hc 2<|Pk0 hc ?_
   exact Xm ⟨rfl,F0,hr,(Xr _),(fJ ⟨rfl,rfl,(congrArg Value.bool (C9 hc rfl)),trivial⟩)⟩
 ·rintro f bl ⟨F1,ht,b4,⟨_,rfl⟩⟩
  refine Ab<|Cd h (fun bm bn=>?_) (fun bm bo=>?_)
  ·refine Sq (Rg [0,1] ?_)
   refine Vs 2<|Nt<|Rt<|Af ?_
   obtain rfl:=Aa bn
   exact Re [(vi 2),(vi 0)] ht rfl
  ·refine Sc ?_
   refine Ab<|Sq<|Sq (Rg (rG 28) ?_)
   obtain ⟨ba,bp,bq⟩:=bS bo
   refine Xw (fun f w=>∃ (F2:Mem),HS w0 F0 w F2 [(sb h2 (AL x1 h9 ha hl h8) 27),(sb hb (Al x0) 23)]/\Xq F1 F2/\FI f [] [(2,(pt hb 0)),(3,(pt h2 0)),(45,(.bool ba))]) ?_ ?_
   ·refine Vs 1 ?_
    refine Ld ht.at0 ?_
    obtain ⟨dx,br,bs⟩:=bS bp
    refine Cl' EK ht (Fh N bl F1 ht.pers (hG.mono b4) x1.Call _ br) ?_
    rintro _ F3 bt hu hn rfl
    refine Vs 2<|Sp bs (fun he bu=>?_) (fun he bv=>?_)
    ·refine Ss he 4 ?_
     refine Pk1 he<|Vs 1<|Ss (rfl:true=true) 4<|Pk1 (rfl:true=true)<|Vs 1<|Ss (rfl:true=true) 4<|Pk1 (rfl:true=true)<|Vs 1<|Ss (rfl:true=true) 4<|Pk1 (rfl:true=true) ?_
     obtain rfl:=Aa bu
     exact Xm ⟨rfl,F3,hu,hn,fI⟩
    ·refine Vgs he 1 ?_
     refine Lg he hu.at0 ?_
     obtain ⟨dy,bw,bx⟩:=bS bv
     refine Cg he AC hu (AK N bt F3 hu.pers x1.Category 1 9 _ bw) ?_
     rintro _ F4 bz hv hp rfl
     refine Vgs he 1<|Pk0 he<|Vs 1<|Sp bx (fun hf c0=>?_) (fun hf c1=>?_)
     ·refine Ss hf 4 ?_
      refine Pk1 hf<|Vs 1<|Ss (rfl:true=true) 4<|Pk1 (rfl:true=true)<|Vs 1<|Ss (rfl:true=true) 4<|Pk1 (rfl:true=true) ?_
      obtain rfl:=Aa c0
      exact Xm ⟨rfl,F4,hv,(hn.t hp),fI⟩
     ·refine Vgs hf 1 ?_
      refine Lg hf hv.at0 ?_
      obtain ⟨dz,c3,c4⟩:=bS c1
      refine Cg hf AC hv (AK N bz F4 hv.pers x1.Power 1 9999 _ c3) ?_
      rintro _ F5 c5 hw hx rfl
      refine Vgs hf 1<|Pk0 hf<|Vs 1<|Sp c4 (fun hg c6=>?_) (fun hg c7=>?_)
      ·refine Ss hg 4 ?_
       refine Pk1 hg<|Vs 1<|Ss (rfl:true=true) 4<|Pk1 (rfl:true=true) ?_
       obtain rfl:=Aa c6
       exact Xm ⟨rfl,F5,hw,((hn.t hp).trans hx),fI⟩
      ·refine Vgs hg 1 ?_
       refine Lg hg hw.at0 ?_
       obtain ⟨e0,c8,c9⟩:=bS c7
       refine Cg hg AC hw (AK N c5 F5 hw.pers x1.Claimed 0 1000000 _ c8) ?_
       rintro _ F6 ca hy b5 rfl
       refine Vgs hg 1<|Pk0 hg<|Vs 1<|Sp c9 (fun hh cb=>?_) (fun hh cc=>?_)
       ·refine Ss hh 4 ?_
        refine Pk1 hh ?_
        obtain rfl:=Aa cb
        exact Xm ⟨rfl,F6,hy,(((hn.t hp).trans hx).trans b5),fI⟩
       ·refine Vgs hh 1 ?_
        refine Lg hh hy.at0 ?_
        obtain ⟨e1,cd,ce⟩:=bS cc
        refine Cg hh GD hy (Hs N ca F6 hy.pers x1.Jumps h9 ha bg (Xt bh ((((b4.t hn).trans hp).trans hx).trans b5)) _ cd) ?_
        rintro _ F7 e2 cf cg rfl
        refine Vgs hh 1<|Pk0 hh ?_
        obtain rfl:=Aa ce
        exact Xm ⟨rfl,F7,cf,((((hn.t hp).trans hx).trans b5).trans cg),fI⟩
   ·rintro f e3 ⟨F2,b6,ch,⟨_,rfl⟩⟩
    refine Ab<|Cd bq (fun ci cj=>?_) (fun ci cl=>?_)
    ·refine Sq (Rg [0,1] ?_)
     refine Vs 2<|Nt<|Rt<|Af ?_
     obtain rfl:=Aa cj
     exact Re [(vi 21),(vi 0)] b6 rfl
    ·refine Sc ?_
     refine Ab<|Sq<|Sq (Rg (rG 4) ?_)
     refine Vs 1<|Ld b6.at0<|Vs 2<|Nt ?_
     obtain ⟨bb,cm,bc⟩:=bS cl
     refine Xx (fun f w=>∃ (bd:Int) (F9:Mem),bb=.done bd/\HS w0 F0 w F9 []/\Xq F2 F9/\FI f [] []) ?_ ?_
     ·refine Bk ?_
      refine Xp (by kernel_rfl) (fun m f w=>∃ (h0:Int) (F8:Mem),AU (DT N x0 x1 ba) m h0=some bb/\HS w0 F0 w F8 [(sb h2 (AL x1 h9 ha hl h8) 27),(sb hb (Al x0) 23)]/\Xq F2 F8/\FI f [] [(2,(pt hb 0)),(3,(pt h2 0)),(47,(sL hl x1.Lines h8)),(48,(vi (x1.Lines.length:Int))),(49,(vi h0))]) N ⟨0,F2,cm,b6,(Xr _),fI⟩ ?_
      rintro e4 f e6 ⟨h0,F8,cn,b7,b8,⟨_,rfl⟩⟩
      obtain ⟨co,e7,rfl,cp,b9⟩:=AV cn
      refine Sq (Rg [0] ?_)
      refine Vs 1<|Nss<|Cd cp (fun cq cr=>?_) (fun cq ct=>?_)
      ·refine Sc ?_
       refine Ab<|Sq<|Bk<|Sq (Rg (rG 6) ?_)
       refine Vs 1 ?_
       obtain ⟨h5,cu,cv⟩:=bS cr
       obtain ⟨cw,hx131'⟩:=Ap cu
       obtain ⟨h6,h3,e8,e9,ea,rfl,hF140,hE141⟩:=Xy (Xt bi ((b4.t ch).trans b8)) hx131'
       have cx:=hE141 _ _ hx131'
       refine Ix cw<|Lx 0 (b7.pers _ _ hF140) cx<|Al' 34 #[(vi 0),(vi 0),(vi 0),(vi 0),(sv (([]:XL))),(vi 0),(vi 0),(vi 0),(vi 0),(vi 0),(vi 0)] b7 (fun hm eb cy=>?_)
       refine Vs 1<|St0 (Cn h5) cy (fun ec cz=>?_)
       refine Nss ?_
       obtain ⟨d0,d1,d2⟩:=bS cv
       refine RD 32 32 [(sb hm (Cn h5) 34),(sb h2 (AL x1 h9 ha (some ⟨h6,h3,none⟩) h8) 27),(sb hb (Al x0) 23)] [] cz (fun f w=>∃ (hz:Mem),HS w0 F0 w hz [(sb h2 (AL x1 h9 ha (some ⟨h6,h3,none⟩) h8) 27),(sb hb (Al x0) 23)]/\Xq F8 hz/\FI f [] [(2,(pt hb 0)),(3,(pt h2 0)),(6,(vi h0)),(47,(.slice (some ⟨h6,h3,none⟩) x1.Lines.length h8)),(48,(vi (x1.Lines.length:Int))),(49,(vi h0)),(85,(.bool d0))]) (fun d3 be=>?_) ?_
       ·refine Dl 0 (fun _ hq=>(hq.1.2 2 _ _ rfl)) ?_
        refine Dl 1 (fun _ hq=>(hq.1.2 0 _ _ rfl))<|D1 2 ?_
        obtain ⟨ed,d4,d6⟩:=bS d1
        refine DCl Gn be (GY N d3 F8 be.pers (({Report:=x0.Report,Serial:=x0.Serial,Zone:=x0.Zone}:Ac)) h5 _ d4) ?_
        rintro _ b0 ee b1 b2 rfl
        refine Dvl [3,4] (tf 5 27)<|Sd d6 (fun h7 d7=>?_) (fun h7 d8=>?_)
        ·refine Dkl [(5,59),(6,60),(7,61)] 4 false 58 h7 (tf 8 24) ?_
         refine Dul [(8,62),(9,63),(10,64),(11,65),(12,66),(13,67)] 7 true 61 (tf 14 18)<|Dul [(14,68),(15,69),(16,70),(17,71),(18,72)] 7 true 61 (tf 19 13)<|Dul [(19,73),(20,74),(21,75),(22,76),(23,77),(24,78)] 18 false 72 (tf 25 7)<|Dul [(25,79),(26,80),(27,81),(28,82)] 18 false 72 (tf 29 3)<|Dul [(29,83)] 7 true 61 (tf 30 2)<|Dkl [(30,84)] 4 false 58 h7 (tf 31 1)<|Dtl 31 85 4 _ (tf 32 0) (fun _ hq=>p1 58 (.const (.bool true)) (.tmp 84) (.bool true) h7) ?_
         obtain rfl:=Aa d7
         exact XD (by kernel_rfl) ⟨b0,b1.dr0,b2,fI⟩
        ·refine Dgl 5 59 3 _ (tf 6 26) 4 false 58 h7 (fun _ hq=>mv 6 (vi h0)) ?_
         refine Dgl 6 60 4 (.bool (decide (h0 > 0))) (tf 7 25) 4 false 58 h7 (fun _ hq=>OG (t:=3) (t':=3) (x:=(.tmp 59)) (y:=(.const (vi 0))) (k:=.i64) (a:=h0) (b:=0) rfl rfl)<|Dgl 7 61 4 _ (tf 8 24) 4 false 58 h7 (fun _ hq=>mv 60 (.bool (decide (h0 > 0))))<|Sd d8 (fun h1 d9=>?_) (fun h1 da=>?_)
         ·refine Dgl 8 62 0 (pt hm 0) (tf 9 23) 7 true 61 h1 (fun _ hq=>fa 34 7 0 0 1 hm 0 0) ?_
          refine Dgl 9 63 3 _ (tf 10 22) 7 true 61 h1 (fun _ hq=>ld 3 62 hm 0 false 1 (vi h5.Num) (hq.1.2 0 _ _ rfl))<|Dgl 10 64 0 (pt h2 5) (tf 11 21) 7 true 61 h1 (fun _ hq=>fa 27 3 5 5 1 h2 0 5)<|Dgl 11 65 25 _ (tf 12 20) 7 true 61 h1 (fun _ hq=>ld 25 64 h2 5 false 1 (.slice (some ⟨h6,h3,none⟩) x1.Lines.length h8) (hq.1.2 1 _ _ rfl))<|Dgl 12 66 3 _ (tf 13 19) 7 true 61 h1 (fun _ hq=>mv 6 (vi h0))<|Dgl 13 67 3 (vi (W64 (h0 - 1))) (tf 14 18) 7 true 61 h1 (fun _ hq=>JY (t:=3) (t':=3) (x:=(.tmp 66)) (y:=(.const (vi 1))) (k:=.i64) (a:=h0) (b:=1) rfl rfl) ?_
          obtain ⟨b3,db,dc⟩:=bS d9
          obtain ⟨dd,hx180'⟩:=Ap db
          have de:=hE141 _ _ hx180'
          refine Dgl 14 68 0 (.pointer (some ⟨h6,(h3 + ((W64 (h0 - 1)):Int).toNat * 11),none⟩)) (tf 15 17) 7 true 61 h1 (fun _ hq=>ix 25 65 67 h6 h3 34 11 96 dd)<|Dgl 15 69 0 (.pointer (some ⟨h6,(h3 + ((W64 (h0 - 1)):Int).toNat * 11),none⟩)) (tf 16 16) 7 true 61 h1 (fun _ hq=>fa 34 68 0 0 1 h6 (h3 + ((W64 (h0 - 1)):Int).toNat * 11) (h3 + ((W64 (h0 - 1)):Int).toNat * 11))<|Dgl 16 70 3 _ (tf 17 15) 7 true 61 h1 (fun _ hq=>lx 3 69 0 11 false 1 (vi b3.Num) (hq.1.1 _ _ hF140) de)<|Dgl 17 71 4 (.bool (decide (h5.Num<=b3.Num))) (tf 18 14) 7 true 61 h1 (fun _ hq=>Mj (t:=3) (t':=3) (x:=(.tmp 63)) (y:=(.tmp 70)) (k:=.i64) (a:=h5.Num) (b:=b3.Num) rfl rfl)<|Dgl 18 72 4 _ (tf 19 13) 7 true 61 h1 (fun _ hq=>mv 71 (.bool (decide (h5.Num<=b3.Num))))<|Sd dc (fun h4 df=>?_) (fun h4 dg=>?_)
          ·refine Dkl [(19,73),(20,74),(21,75),(22,76),(23,77),(24,78)] 18 false 72 h4 (tf 25 7) ?_
           refine Dkl [(25,79),(26,80),(27,81),(28,82)] 18 false 72 h4 (tf 29 3)<|Dgl 29 83 4 _ (tf 30 2) 7 true 61 h1 (fun _ hq=>p1 72 (.const (.bool true)) (.tmp 82) (.bool true) h4)<|Dgl 30 84 4 _ (tf 31 1) 4 false 58 h7 (fun _ hq=>p1 61 (.tmp 83) (.const (.bool false)) (.bool true) h1)<|Dtl 31 85 4 _ (tf 32 0) (fun _ hq=>p0 58 (.const (.bool true)) (.tmp 84) (.bool true) h7) ?_
           obtain rfl:=Aa df
           exact XD (by kernel_rfl) ⟨b0,b1.dr0,b2,fI⟩
          ·refine Dgl 19 73 0 (pt hm 3) (tf 20 12) 18 false 72 h4 (fun _ hq=>fa 34 7 3 3 1 hm 0 3) ?_
           refine Dgl 20 74 3 _ (tf 21 11) 18 false 72 h4 (fun _ hq=>ld 3 73 hm 3 false 1 (vi h5.Minute) (hq.1.2 0 _ _ rfl))<|Dgl 21 75 0 (pt h2 5) (tf 22 10) 18 false 72 h4 (fun _ hq=>fa 27 3 5 5 1 h2 0 5)<|Dgl 22 76 25 _ (tf 23 9) 18 false 72 h4 (fun _ hq=>ld 25 75 h2 5 false 1 (.slice (some ⟨h6,h3,none⟩) x1.Lines.length h8) (hq.1.2 1 _ _ rfl))<|Dgl 23 77 3 _ (tf 24 8) 18 false 72 h4 (fun _ hq=>mv 6 (vi h0))<|Dgl 24 78 3 (vi (W64 (h0 - 1))) (tf 25 7) 18 false 72 h4 (fun _ hq=>JY (t:=3) (t':=3) (x:=(.tmp 77)) (y:=(.const (vi 1))) (k:=.i64) (a:=h0) (b:=1) rfl rfl) ?_
           obtain ⟨ho,dh,di⟩:=bS dg
           obtain ⟨dj,hx189'⟩:=Ap dh
           have dk:=hE141 _ _ hx189'
           refine Dgl 25 79 0 (.pointer (some ⟨h6,(h3 + ((W64 (h0 - 1)):Int).toNat * 11),none⟩)) (tf 26 6) 18 false 72 h4 (fun _ hq=>ix 25 76 78 h6 h3 34 11 96 dj)<|Dgl 26 80 0 (.pointer (some ⟨h6,((h3 + ((W64 (h0 - 1)):Int).toNat * 11) + 3),none⟩)) (tf 27 5) 18 false 72 h4 (fun _ hq=>fa 34 79 3 3 1 h6 (h3 + ((W64 (h0 - 1)):Int).toNat * 11) ((h3 + ((W64 (h0 - 1)):Int).toNat * 11) + 3))<|Dgl 27 81 3 _ (tf 28 4) 18 false 72 h4 (fun _ hq=>lx 3 80 3 11 false 1 (vi ho.Minute) (hq.1.1 _ _ hF140) dk)<|Dgl 28 82 4 (.bool (decide (h5.Minute < ho.Minute))) (tf 29 3) 18 false 72 h4 (fun _ hq=>J0 (t:=3) (t':=3) (x:=(.tmp 74)) (y:=(.tmp 81)) (k:=.i64) (a:=h5.Minute) (b:=ho.Minute) rfl rfl)<|Dgl 29 83 4 _ (tf 30 2) 7 true 61 h1 (fun _ hq=>p0 72 (.const (.bool true)) (.tmp 82) (.bool (decide (h5.Minute < ho.Minute))) h4)<|Dgl 30 84 4 _ (tf 31 1) 4 false 58 h7 (fun _ hq=>p1 61 (.tmp 83) (.const (.bool false)) (.bool (decide (h5.Minute < ho.Minute))) h1)<|Dtl 31 85 4 _ (tf 32 0) (fun _ hq=>p0 58 (.const (.bool true)) (.tmp 84) (.bool (decide (h5.Minute < ho.Minute))) h7) ?_
           obtain rfl:=Aa di
           exact XD (by kernel_rfl) ⟨b0,b1.dr0,b2,fI⟩
         ·refine Dkl [(8,62),(9,63),(10,64),(11,65),(12,66),(13,67)] 7 true 61 h1 (tf 14 18) ?_
          refine Dkl [(14,68),(15,69),(16,70),(17,71),(18,72)] 7 true 61 h1 (tf 19 13)<|Dul [(19,73),(20,74),(21,75),(22,76),(23,77),(24,78)] 18 false 72 (tf 25 7)<|Dul [(25,79),(26,80),(27,81),(28,82)] 18 false 72 (tf 29 3)<|Dkl [(29,83)] 7 true 61 h1 (tf 30 2)<|Dgl 30 84 4 _ (tf 31 1) 4 false 58 h7 (fun _ hq=>p0 61 (.tmp 83) (.const (.bool false)) (.bool false) h1)<|Dtl 31 85 4 _ (tf 32 0) (fun _ hq=>p0 58 (.const (.bool true)) (.tmp 84) (.bool false) h7) ?_
          obtain rfl:=Aa da
          exact XD (by kernel_rfl) ⟨b0,b1.dr0,b2,fI⟩
       ·rintro f ef ⟨hz,bf,dl,⟨_,rfl⟩⟩
        refine Ab<|Cd d2 (fun dm dn=>?_) (fun dm dp=>?_)
        ·refine Sq (Rg (rG 4) ?_)
         refine Vs 4<|Nt<|Rt<|Ay<|Af<|Af<|Ay ?_
         have hret:=CV dn b9
         subst hret
         refine .inr<|Af ?_
         obtain rfl:=Aa bc
         exact Re [(vi 21),(vi (W64 (h0 + 1)))] bf rfl
        ·refine Sc ?_
         refine Av<|Ab<|Rg [0,1]<|Vs 2<|Xm ?_
         have dq:=AW dp b9
         exact ⟨co,Nat.lt_succ_self _,(W64 (h0 + 1)),hz,dq,bf,(b8.t dl),fI⟩
      ·refine Ex ?_
       refine Au<|Au<|AB rfl ?_
       have dr:=AX ct b9
       exact .inl ⟨rfl,h0,F8,dr,b7.dr0.dr0,b8,fI⟩
     ·rintro f eg ⟨bd,F9,rfl,ds,eh,⟨_,rfl⟩⟩
      have dt:=BX bc
      refine Ab<|Sq (Rg [0,1] ?_)
      refine Vs 2<|Nt<|Rt ?_
      obtain rfl:=Aa dt
      exact Re [(vi 0),(vi 0)] ds rfl



def Jh (N:Nat) (x0:Ac) (x1:Log):Option Bool:=
 ((D6 N ({Report:=x0.Report,Serial:=x0.Serial,Zone:=x0.Zone}:Ac) x1).bind fun h0=>some (h0.1==0))
theorem K4:Aj Tryz.prog 25:=fun _ _=>by kernel_rfl
theorem Me (N:Nat) (w0:World) (F0:Mem) (hF:XN w0 F0) (hG:BB F0) (x0:Ac) (x1:Log) (h0:XM) (h1:Nat) (h5:LC x1.Jumps.length h1) (h6:SlA AE F0 h0 x1.Jumps) (h2:XM) (h3:Nat) (h7:LC x1.Lines.length h3) (h8:SlA AD F0 h2 x1.Lines) (r:Bool) (h:Jh N x0 x1=some r):
  Calls Tryz.prog 25 ([(.agg (Al x0)),(.agg (AL x1 h0 h1 h2 h3))]:List Value).toArray w0 (AA w0 F0 fun F' v=>v=(.bool r)):=by
 have h9:=Xs hF
 refine Go 15 Tryz.func25<|Sq (Rg [0,1,2] ?_)
 refine Bx' 23 (Al x0) h9 (fun hh hl ha=>?_)
 refine Bx' 27 (AL x1 h0 h1 h2 h3) ha (fun hm hb h4=>?_)
 refine Vs 1<|Nss (Rg (rG 8) ?_)
 refine Ld h4.at1<|Ld h4.at0 ?_
 obtain ⟨hc,he,hf⟩:=bS h
 refine Cl' GF h4 (Ht N hb F0 h4.pers hG (({Report:=x0.Report,Serial:=x0.Serial,Zone:=x0.Zone}:Ac)) x1 h0 h1 h5 h6 h2 h3 h7 h8 _ he) ?_
 rintro _ F1 hn hg ho rfl
 refine Vs 5<|Nss (Rg [0,1,2] ?_)
 refine Vs 3<|Nt<|Rt ?_
 obtain rfl:=Aa hf
 exact Re [(.bool (hc.1==0))] hg rfl

def Es (N:Nat) (x0:(List Line)):Int->Option (BC Bool Int):=fun h0=>
 (bif (decide (h0 < (x0.length:Int))) then ((idx x0 h0).bind fun h1=>(bif (decide ((h1.Call.length:Int) > 40)) then some (.ret false) else some (.next (W64 (h0 + 1))))) else some (.done h0))
def E4 (N:Nat) (x0:(List Line)):Option Bool:=
 ((AU (Es N x0) N 0).bind fun o=>o.k (fun r=>some r) (fun h0=>some true))
theorem It:Aj Tryz.prog 61:=fun _ _=>by kernel_rfl
theorem Jr (N:Nat) (w0:World) (F0:Mem) (hF:XN w0 F0) (x0:(List Line)) (h2:XM) (h3:Nat) (hy:LC x0.length h3) (h9:SlA AD F0 h2 x0) (r:Bool) (h:E4 N x0=some r):
  Calls Tryz.prog 61 ([(sL h2 x0 h3)]:List Value).toArray w0 (AA w0 F0 fun F' v=>v=(.bool r)):=by
 have ha:=Xs hF
 refine Go 17 Tryz.func61<|Sq (Rg [0] ?_)
 refine Vs 1<|Nss<|Sq (Rg [0] ?_)
 refine Vs 1<|Nt ?_
 obtain ⟨h6,hb,h7⟩:=bS h
 refine Xx (fun f w=>∃ (h8:Int) (F2:Mem),h6=.done h8/\HS w0 F0 w F2 []/\Xq F0 F2/\FI f [] []) ?_ ?_
 ·refine Bk ?_
  refine Xp (by kernel_rfl) (fun m f w=>∃ (h0:Int) (F1:Mem),AU (Es N x0) m h0=some h6/\HS w0 F0 w F1 []/\Xq F0 F1/\FI f [] [(0,(sL h2 x0 h3)),(3,(vi h0))]) N ⟨0,F0,hb,ha,(Xr _),fI⟩ ?_
  rintro hz f b0 ⟨h0,F1,hc,h1,h4,⟨_,rfl⟩⟩
  obtain ⟨he,b1,rfl,hf,h5⟩:=AV hc
  refine Sq<|Sq (Rg (rG 4) ?_)
  refine Vs 4<|Nt<|Cd hf (fun hg hh=>?_) (fun hg hl=>?_)
  ·refine Sc ?_
   refine Ab<|Sq<|Bk<|Sq (Rg (rG 7) ?_)
   refine Vs 2 ?_
   obtain ⟨b2,hm,hn⟩:=bS hh
   obtain ⟨ho,hx46'⟩:=Ap hm
   obtain ⟨b3,b4,b5,b6,b7,rfl,hF55,hE56⟩:=Xy (Xt h9 h4) hx46'
   have hp:=hE56 _ _ hx46'
   refine Ix ho<|Vs 1<|Lx 4 (h1.pers _ _ hF55) hp<|Vs 2<|Nt<|Cd hn (fun hq hr=>?_) (fun hq ht=>?_)
   ·refine Sq (Rg [0] ?_)
    refine Vs 1<|Nt<|Rt<|Ay<|Af<|Af<|Ay ?_
    have hret:=CV hr h5
    subst hret
    refine .inr<|Af ?_
    obtain rfl:=Aa h7
    exact Re [(.bool false)] h1 rfl
   ·refine Sc ?_
    refine Av<|Ab<|Rg [0,1,2]<|Vs 3<|Xm ?_
    have hu:=AW ht h5
    exact ⟨he,Nat.lt_succ_self _,(W64 (h0 + 1)),F1,hu,h1,h4,fI⟩
  ·refine Ex ?_
   refine Au<|Au<|AB rfl ?_
   have hv:=AX hl h5
   exact .inl ⟨rfl,h0,F1,hv,h1,h4,fI⟩
 ·rintro f b8 ⟨h8,F2,rfl,hw,b9,⟨_,rfl⟩⟩
  have hx:=BX h7
  refine Ab<|Sq (Rg [0] ?_)
  refine Vs 1<|Nt<|Rt ?_
  obtain rfl:=Aa hx
  exact Re [(.bool true)] hw rfl
def IM (N:Nat) (x0:Log):Option Bool:=
 ((bif (decide ((x0.Lines.length:Int)<=60)) then (bif (decide ((x0.Jumps.length:Int)<=40)) then (bif (decide ((x0.Call.length:Int)<=40)) then ((E4 N x0.Lines).bind fun h0=>some h0) else some false) else some false) else (bif (decide ((x0.Lines.length:Int) > 400)) then (bif (decide ((x0.Lines.length:Int)<=800)) then (bif (decide ((x0.Jumps.length:Int)<=40)) then (bif (decide ((x0.Call.length:Int)<=40)) then ((E4 N x0.Lines).bind fun h1=>some h1) else some false) else some false) else some false) else some false)).bind fun h2=>some h2)
theorem Pc:Aj Tryz.prog 20:=fun _ _=>by kernel_rfl
theorem Qe (N:Nat) (w0:World) (F0:Mem) (hF:XN w0 F0) (x0:Log) (h8:XM) (h9:Nat) (bc:LC x0.Jumps.length h9) (bd:SlA AE F0 h8 x0.Jumps) (ha:XM) (hb:Nat) (hc:LC x0.Lines.length hb) (he:SlA AD F0 ha x0.Lines) (r:Bool) (h:IM N x0=some r):
  Calls Tryz.prog 20 ([(.agg (AL x0 h8 h9 ha hb))]:List Value).toArray w0 (AA w0 F0 fun F' v=>v=(.bool r)):=by
 have hl:=Xs hF
 refine Go 36 Tryz.func20<|Sq (Rg [0,1] ?_)
 refine Bx' 27 (AL x0 h8 h9 ha hb) hl (fun hf hg h0=>?_)
 refine Vs 1<|Nss (Rg (rG 34) ?_)
 obtain ⟨hh,hm,hn⟩:=bS h
 refine Xw (fun f w=>∃ (F1:Mem),HS w0 F0 w F1 []/\Xq F0 F1/\FI f [] [(2,(.bool hh))]) ?_ ?_
 ·refine Vs 1 ?_
  refine Ld h0.at0<|Vs 3<|Sp hm (fun h1 ho=>?_) (fun h1 hp=>?_)
  ·refine Ss h1 5 ?_
   refine Su' 4<|Ss h1 1<|Pk1 h1<|Vs 1<|Vg 20 0 16 true 19 rfl (fa 27 1 4 4 1 hf 0 4)<|Vg 21 24 16 true 19 rfl (ld 24 20 hf 4 false 1 (sL h8 x0.Jumps h9) h0.at0)<|Vg 22 3 16 true 19 rfl (ln 21 24 h8 x0.Jumps.length h9 3 1 8)<|Vg 23 4 16 true 19 rfl (Mj (t:=3) (t':=3) (x:=(.tmp 22)) (y:=(.const (vi 40))) (k:=.i64) (a:=(x0.Jumps.length:Int)) (b:=40) rfl rfl)<|Pk1 (rfl:true=true)<|Vs 1<|Sp ho (fun h2 hq=>?_) (fun h2 hr=>?_)
   ·refine Vgs h2 1 ?_
    refine Lg h2 h0.at0<|Vgs h2 2<|Pk1 h2<|Vs 1<|Sp hq (fun h3 ht=>?_) (fun h3 hu=>?_)
    ·refine Vgs h3 1 ?_
     refine Lg h3 h0.at0 ?_
     obtain ⟨be,hv,hw⟩:=bS ht
     refine Cg h3 It h0 (Jr N hg F0 h0.pers x0.Lines ha hb hc he _ hv) ?_
     rintro _ F2 bf hx hy rfl
     refine Pk1 h3<|Vs 1 ?_
     obtain rfl:=Aa hw
     exact Xm ⟨rfl,F2,hx.dr0,hy,fI⟩
    ·refine Ss h3 3 ?_
     refine Pk0 h3<|Vs 1 ?_
     obtain rfl:=Aa hu
     exact Xm ⟨rfl,F0,h0.dr0,(Xr _),fI⟩
   ·refine Ss h2 4 ?_
    refine Pk0 h2<|Vs 1<|Ss (rfl:false=false) 3<|Pk0 (rfl:false=false)<|Vs 1 ?_
    obtain rfl:=Aa hr
    exact Xm ⟨rfl,F0,h0.dr0,(Xr _),fI⟩
  ·refine Vgs h1 1 ?_
   refine Lg h1 h0.at0<|Vgs h1 3<|Sp hp (fun h4 hz=>?_) (fun h4 b0=>?_)
   ·refine Vgs h4 1 ?_
    refine Lg h4 h0.at0<|Vgs h4 2<|Pg1 h1 h4<|Pk0 h1<|Vs 1<|Sp hz (fun h5 b1=>?_) (fun h5 b2=>?_)
    ·refine Vgs h5 1 ?_
     refine Lg h5 h0.at0<|Vgs h5 2<|Pk1 h5<|Vs 1<|Sp b1 (fun h6 b3=>?_) (fun h6 b4=>?_)
     ·refine Vgs h6 1 ?_
      refine Lg h6 h0.at0<|Vgs h6 2<|Pk1 h6<|Vs 1<|Sp b3 (fun h7 b5=>?_) (fun h7 b6=>?_)
      ·refine Vgs h7 1 ?_
       refine Lg h7 h0.at0 ?_
       obtain ⟨bg,b7,b8⟩:=bS b5
       refine Cg h7 It h0 (Jr N hg F0 h0.pers x0.Lines ha hb hc he _ b7) ?_
       rintro _ F3 bh b9 ba rfl
       refine Pk1 h7<|Vs 1 ?_
       obtain rfl:=Aa b8
       exact Xm ⟨rfl,F3,b9.dr0,ba,fI⟩
      ·refine Ss h7 3 ?_
       refine Pk0 h7<|Vs 1 ?_
       obtain rfl:=Aa b6
       exact Xm ⟨rfl,F0,h0.dr0,(Xr _),fI⟩
     ·refine Ss h6 4 ?_
      refine Pk0 h6<|Vs 1<|Ss (rfl:false=false) 3<|Pk0 (rfl:false=false)<|Vs 1 ?_
      obtain rfl:=Aa b4
      exact Xm ⟨rfl,F0,h0.dr0,(Xr _),fI⟩
    ·refine Ss h5 4 ?_
     refine Pk0 h5<|Vs 1<|Ss (rfl:false=false) 4<|Pk0 (rfl:false=false)<|Vs 1<|Ss (rfl:false=false) 3<|Pk0 (rfl:false=false)<|Vs 1 ?_
     obtain rfl:=Aa b2
     exact Xm ⟨rfl,F0,h0.dr0,(Xr _),fI⟩
   ·refine Ss h4 4 ?_
    refine Pg0 h1 h4<|Pk0 h1<|Vs 1<|Ss (rfl:false=false) 4<|Pk0 (rfl:false=false)<|Vs 1<|Ss (rfl:false=false) 4<|Pk0 (rfl:false=false)<|Vs 1<|Ss (rfl:false=false) 3<|Pk0 (rfl:false=false)<|Vs 1 ?_
    obtain rfl:=Aa b0
    exact Xm ⟨rfl,F0,h0.dr0,(Xr _),fI⟩
 ·rintro f bi ⟨F1,bb,bj,⟨_,rfl⟩⟩
  refine Ab<|Rt ?_
  obtain rfl:=Aa hn
  exact Re [(.bool hh)] bb rfl
section
open Go.Lib (decDigits)
theorem Fp {ρ σ:Type} {body:σ->Option (BC ρ σ)} (st:Nat->σ) {o:BC ρ σ} (k:Nat) (hb:∀ i,i < k->body (st i)=some (.next (st (i + 1)))) (he:body (st k)=some o) (ho:∀ s',o≠.next s') {N:Nat} (hN:k < N):AU body N (st 0)=some o:=by
 have key:∀ j i M,i + j=k->j < M->AU body M (st i)=some o:=by
  intro j
  induction j with
  | zero=>
   intro i M hi hM
   obtain ⟨m,rfl⟩:∃ m,M=m + 1:=⟨M - 1,by omega⟩
   rw [Nat.add_zero] at hi
   subst hi
   rw [AU,he]
   cases o with
   | next s=>exact absurd rfl (ho s)
   | done s=>rfl
   | ret r=>rfl
  | succ j ih=>
   intro i M hi hM
   obtain ⟨m,rfl⟩:∃ m,M=m + 1:=⟨M - 1,by omega⟩
   rw [AU,hb i (by omega)]
   exact ih (i + 1) m (by omega) (by omega)
 exact key k 0 N (by omega) hN
section
variable {N : Nat}
theorem lw (a b c:Int):AQ N a b c=some (decide (b<=a)&&decide (a<=c)):=rfl
theorem Qo (b:UInt8):W64 (b.toNat:Int)=(b.toNat:Int):=by
 have:=b.toNat_lt
 exact Eb (by omega) (by omega)
theorem Vt (b:UInt8):Qb b=((decide (65<=(b.toNat:Int))&&decide ((b.toNat:Int)<=90))||((decide (48<=(b.toNat:Int))&&decide ((b.toNat:Int)<=57))||((b.toNat:Int)==47))):=by
 have e1:isL b=(decide (65<=(b.toNat:Int))&&decide ((b.toNat:Int)<=90)):=by
  unfold isL;congr 1 <;> (rw [decide_eq_decide];omega)
 have e2:isD b=(decide (48<=(b.toNat:Int))&&decide ((b.toNat:Int)<=57)):=by
  unfold isD;congr 1 <;> (rw [decide_eq_decide];omega)
 have e3:(b==47)=((b.toNat:Int)==47):=by
  rw [Bool.eq_iff_iff,beq_iff_eq,beq_iff_eq]
  constructor
  ·rintro rfl;rfl
  ·intro h
   have:b.toNat=47:=by omega
   exact UInt8.toNat_inj.1 this
 unfold Qb
 rw [e1,e2,e3,Bool.or_assoc]
theorem U4 (s:XL) (hs:s.length < 4000000000) (hN:4294967300 < N):He N s=some (Hj s):=by
 unfold He
 rw [lw,oS,show (decide ((1:Int)<=(s.length:Int))&&decide ((s.length:Int)<=(16:Int)))=wiB s.length 1 16 from G1 _ 1 16]
 have h:=Fp (body:=DR N s (wiB s.length 1 16)) (fun i=>(wiB s.length 1 16&&(s.take i).all Qb,(i:Int))) (o:=.done (Hj s,(s.length:Int))) s.length (fun i hi=>by
  unfold DR
  simp only
  rw [Em hi,cT,Px hi,oS,Gu i (by omega),Qo,List.take_add_one,List.getElem?_eq_getElem hi,List.all_append]
  simp only [Option.toList_some,List.all_cons,List.all_nil,Bool.and_true]
  rw [Vt s[i],<-Bool.and_assoc]
  cases wiB s.length 1 16&&(s.take i).all Qb with
  | false=>rfl
  | true=>
   rw [cT,lw,oS,lw]
   cases (decide (65<=(s[i].toNat:Int))&&decide ((s[i].toNat:Int)<=90)) with
   | true=>rfl
   | false=>
    rw [cF,oS]
    cases (decide (48<=(s[i].toNat:Int))&&decide ((s[i].toNat:Int)<=57)) with
    | true=>rfl
    | false=>rfl) (by
  unfold DR
  simp only
  rw [DY,cF,List.take_length]
  rfl) (fun s' h=>by cases h) (N:=N) (by omega)
 rw [show (wiB s.length 1 16,(0:Int))=(wiB s.length 1 16&&(s.take 0).all Qb,((0:Nat):Int)) by simp,h]
 rfl
def Ub (x:Line):Prop:=x.Call.length < 4000000000
theorem VX (o:Ac) (x:Line):Cy o x=((decide (1<=x.Num)&&decide (x.Num<=65535))&&((decide (1<=x.Khz)&&decide (x.Khz<=10000000))&&((decide (1<=x.Mode)&&decide (x.Mode<=3))&&((decide (0<=x.Minute)&&decide (x.Minute<=20000))&&(Hj x.Call&&(CP o x.Sent&&CP o x.Got)))))):=by
 unfold Cy
 simp only [Bool.decide_and]
theorem RJ (o:Ac) (x:Line) (hx:Ub x) (hN:4294967300 < N):CD N o x=some (Cy o x):=by
 unfold CD
 rw [VX,lw,lw,lw,lw,U4 x.Call hx hN]
 simp only [oS]
 rw [MH _ _ hN,MH _ _ hN]
 simp only [oS]
 show _=some _
 generalize (decide (1<=x.Num)&&decide (x.Num<=65535))=a
 generalize (decide (1<=x.Khz)&&decide (x.Khz<=10000000))=b
 generalize (decide (1<=x.Mode)&&decide (x.Mode<=3))=c
 generalize (decide (0<=x.Minute)&&decide (x.Minute<=20000))=d
 generalize Hj x.Call=e
 cases a <;> cases b <;> cases c <;> cases d <;> cases e <;> first | rfl | (simp only [cT,cF,Bool.true_and];cases CP o x.Sent <;> rfl)
def okJ (l:List Int) (i:Nat):Bool:=match l[i]? with
 | some x=>decide (1<=x/\x<=20000)&&(decide (i=0)||match l[i - 1]? with
  | some y=>decide (y < x)
  | none=>true)
 | none=>true
theorem Uq {n:Nat} {ok:Nat->Bool}:KJ n ok=true ↔ ∀ i,i < n->ok i=true:=⟨fun h _ hi=>Up h hi,R5⟩
theorem Wh:∀ (l:List Int),SJ l=true ↔ ∀ i,i < l.length->(i=0\/ ∃ x y,l[i]? =some x/\l[i - 1]? =some y/\y < x):=by
 intro l
 induction l with
 | nil=>simp [SJ]
 | cons a r ih=>
  cases r with
  | nil=>
   simp only [SJ,true_iff]
   intro i hi
   exact .inl (by simpa using hi)
  | cons b r=>
   rw [SJ,Bool.and_eq_true,ih,decide_eq_true_eq]
   constructor
   ·rintro ⟨h1,h2⟩ i hi
    match i with
    | 0=>exact .inl rfl
    | 1=>exact .inr ⟨b,a,rfl,rfl,h1⟩
    | i + 2=>
     rcases h2 (i + 1) (by simpa using hi) with h | ⟨x,y,e1,e2,h⟩
     ·omega
     ·exact .inr ⟨x,y,e1,e2,h⟩
   ·intro h
    refine ⟨?_,fun i hi=>?_⟩
    ·rcases h 1 (by simp) with h | ⟨x,y,e1,e2,h⟩
     ·omega
     ·cases e1;cases e2;exact h
    ·match i with
     | 0=>exact .inl rfl
     | i + 1=>
      rcases h (i + 2) (by simpa using hi) with h | ⟨x,y,e1,e2,h⟩
      ·omega
      ·exact .inr ⟨x,y,e1,e2,h⟩
theorem Wf (l:List Int):HM l=(KJ l.length (okJ l)&&decide (l.length<=16)):=by
 unfold HM
 rw [<-Bool.and_assoc]
 congr 1
 rw [Bool.eq_iff_iff,Bool.and_eq_true,Wh,Uq,List.all_eq_true]
 constructor
 ·rintro ⟨h1,h2⟩ i hi
  unfold okJ
  rw [List.getElem?_eq_getElem hi]
  have:=h1 l[i] (List.getElem_mem hi)
  simp only [this,Bool.true_and]
  rcases h2 i hi with h | ⟨x,y,e1,e2,h⟩
  ·rw [decide_eq_true h];rfl
  ·rw [List.getElem?_eq_getElem hi] at e1
   cases e1
   rw [e2]
   simp [h]
 ·intro h
  refine ⟨fun x hx=>?_,fun i hi=>?_⟩
  ·obtain ⟨i,hi,rfl⟩:=List.mem_iff_getElem.1 hx
   have:=h i hi
   unfold okJ at this
   rw [List.getElem?_eq_getElem hi] at this
   simp only [Bool.and_eq_true] at this
   exact this.1
  ·by_cases h0:i=0
   ·exact .inl h0
   ·have:=h i hi
    unfold okJ at this
    rw [List.getElem?_eq_getElem hi] at this
    have h3:i - 1 < l.length:=by omega
    rw [List.getElem?_eq_getElem h3] at this
    simp only [Bool.and_eq_true,decide_eq_false h0,Bool.false_or,decide_eq_true_eq] at this
    exact .inr ⟨l[i],l[i - 1],List.getElem?_eq_getElem hi,List.getElem?_eq_getElem h3,this.2⟩
theorem OO (l:List Int) (hl:l.length < 4000000000) (hN:4294967300 < N):De N l=some (HM l):=by
 rw [Wf]
 unfold De
 rw [PW (n:=l.length) (okJ l) false (fun i hi=>by
  unfold EP
  rw [Em hi,cT,Co hi,oS,lw,oS,Gu i (by omega)]
  unfold okJ
  rw [List.getElem?_eq_getElem hi]
  simp only [Bool.decide_and]
  cases (decide (1<=l[i])&&decide (l[i]<=20000)) with
  | false=>rfl
  | true=>
   rw [Bool.not_true,cF,Bool.true_and]
   by_cases h0:i=0
   ·subst h0;rfl
   ·have h1:i - 1 < l.length:=by omega
    rw [decide_eq_true (show (i:Int) > 0 by omega),cT,VW i (by omega) (by omega),Co h1,oS,List.getElem?_eq_getElem h1,decide_eq_false h0,Bool.false_or]
    simp only
    rw [show decide (l[i]<=l[i - 1])= !decide (l[i - 1] < l[i]) by rw [<-decide_not,decide_eq_decide];omega]
    cases decide (l[i - 1] < l[i]) <;> rfl) (by
  unfold EP
  rw [DY,cF]) (by omega)]
 cases KJ l.length (okJ l) with
 | false=>rfl
 | true=>
  rw [cT,Bool.true_and]
  congr 1
  rw [decide_eq_decide];omega
structure WE (l:Log):Prop where
 j:l.Jumps.length < 4000000000
 n:l.Lines.length < 4000000000
 x:∀ x,x∈l.Lines->Ub x
theorem Qj {o:Ac} {l:List Line} {k:Nat} (h:Hk o l=some k):k < l.length/\JB o l k=false/\ ∀ i,i < k->JB o l i=true:=by
 unfold Hk at h
 rw [List.find?_range_eq_some] at h
 obtain ⟨h1,h2,h3⟩:=h
 refine ⟨by simpa using h2,by simpa using h1,fun i hi=>?_⟩
 have:=h3 i hi
 simpa using this
theorem Qk {o:Ac} {l:List Line} (h:Hk o l=none):∀ i,i < l.length->JB o l i=true:=by
 unfold Hk at h
 rw [List.find?_range_eq_none] at h
 intro i hi
 have:=h i hi
 simpa using this
theorem QR {body:Int->Option (BC (Int×Int) Int)} (o:Ac) (l:List Line) (hb:∀ i,i < l.length->body (i:Int)=some (bif JB o l i then .next ((i + 1:Nat):Int) else .ret (21,((i + 1:Nat):Int))))
  (he:body (l.length:Int)=some (.done (l.length:Int))) (hN:l.length < N):((AU body N 0).bind fun o=>o.k (fun r=>some r) (fun _=>some ((0:Int),(0:Int))))=some (match Hk o l with | some i=>(21,(i:Int) + 1) | none=>(0,0)):=by
 cases h:Hk o l with
 | some k=>
  obtain ⟨h1,h2,h3⟩:=Qj h
  have:=Fp (body:=body) (fun i=>(i:Int)) (o:=.ret (21,((k + 1:Nat):Int))) k (fun i hi=>by rw [hb i (by omega),h3 i hi];rfl) (by rw [hb k h1,h2];rfl) (fun s' h=>by cases h) (N:=N) (by omega)
  rw [show (0:Int)=((0:Nat):Int) from rfl,this]
  rfl
 | none=>
  have h3:=Qk h
  have:=Fp (body:=body) (fun i=>(i:Int)) (o:=.done (l.length:Int)) l.length (fun i hi=>by rw [hb i hi,h3 i hi];rfl) he (fun s' h=>by cases h) hN
  rw [show (0:Int)=((0:Nat):Int) from rfl,this]
  rfl
theorem Qq (a b c:Int):(decide (b<=a)&&decide (a<=c))=decide (b<=a/\a<=c):=(Bool.decide_and _ _).symm
theorem Va (o:Ac) (l:Log) (hl:WE l) (hN:4294967300 < N):D6 N o l=some (chk o l):=by
 unfold D6 chk
 by_cases h1:l.Jumps.length > 16\/l.Lines.length > 400
 ·rw [if_pos h1,show (decide ((l.Jumps.length:Int) > 16)||decide ((l.Lines.length:Int) > 400))=true by simp;omega]
  rfl
 ·rw [if_neg h1,show (decide ((l.Jumps.length:Int) > 16)||decide ((l.Lines.length:Int) > 400))=false by simp;omega,cF]
  unfold DW
  rw [lw,lw,lw,OO _ hl.j hN,Qq,Qq,Qq]
  simp only [oS]
  have e:P2 l=(Ei l.Call&&(decide (1<=l.Category/\l.Category<=9)&&(decide (1<=l.Power/\l.Power<=9999)&&(decide (0<=l.Claimed/\l.Claimed<=1000000)&&HM l.Jumps)))):=rfl
  rw [e]
  have key:=QR (N:=N) (body:=DT N o l false) o l.Lines (fun i hi=>by
   unfold DT
   have hfi:=hl.x _ (List.getElem_mem hi)
   have hln:=hl.n
   rw [Em hi,cT,Co hi,oS,RJ _ _ hfi hN,oS,Gu i (by omega)]
   unfold JB
   rw [List.getElem?_eq_getElem hi]
   simp only
   cases Cy o l.Lines[i] with
   | false=>rfl
   | true=>
    rw [Bool.not_true,cF,Bool.true_and]
    by_cases h0:i=0
    ·subst h0;rfl
    ·have h2:i - 1 < l.Lines.length:=by omega
     rw [decide_eq_true (show (i:Int) > 0 by omega),cT,VW i (by omega) (by omega),Co h2,oS,List.getElem?_eq_getElem h2,decide_eq_false h0,Bool.false_or]
     simp only [oS]
     rw [show decide (l.Lines[i].Num<=l.Lines[i - 1].Num)= !decide (l.Lines[i - 1].Num < l.Lines[i].Num) by rw [<-decide_not,decide_eq_decide];omega,show decide (l.Lines[i].Minute < l.Lines[i - 1].Minute)= !decide (l.Lines[i - 1].Minute<=l.Lines[i].Minute) by rw [<-decide_not,decide_eq_decide];omega]
     cases decide (l.Lines[i - 1].Num < l.Lines[i].Num) <;> cases decide (l.Lines[i - 1].Minute<=l.Lines[i].Minute) <;> rfl) (by
   unfold DT
   rw [DY,cF]) (by have:=hl.n;omega)
  generalize Ei l.Call=a
  generalize decide (1<=l.Category/\l.Category<=9)=b
  generalize decide (1<=l.Power/\l.Power<=9999)=c
  generalize decide (0<=l.Claimed/\l.Claimed<=1000000)=d
  generalize HM l.Jumps=e
  cases a <;> cases b <;> cases c <;> cases d <;> cases e <;> first | rfl | exact key
end
end
def Fo (N:Nat) (x0:Log):Option XL:=
 ((Cv ([67,65,76,76,32]:XL) x0.Call).bind fun h0=>some h0)
theorem Ma:Aj Tryz.prog 154:=fun _ _=>by kernel_rfl
theorem NB (N:Nat) (w0:World) (F0:Mem) (hF:XN w0 F0) (x0:Log) (h0:XM) (h1:Nat) (h9:LC x0.Jumps.length h1) (ha:SlA AE F0 h0 x0.Jumps) (h2:XM) (h3:Nat) (hb:LC x0.Lines.length h3) (hc:SlA AD F0 h2 x0.Lines) (r:XL) (h:Fo N x0=some r):
  Calls Tryz.prog 154 ([(.agg (AL x0 h0 h1 h2 h3))]:List Value).toArray w0 (AA w0 F0 fun F' v=>v=(sv r)):=by
 have h6:=Xs hF
 refine Go 6 Tryz.func154<|Sq (Rg [0,1] ?_)
 refine Bx' 27 (AL x0 h0 h1 h2 h3) h6 (fun he hf h4=>?_)
 refine Vs 1<|Nss (Rg (rG 4) ?_)
 refine Vs 1<|Ld h4.at0 ?_
 obtain ⟨h5,h7,h8⟩:=bS h
 refine V 5 9 (AO (t:=9) (t':=9) (x:=(.const (sv ([67,65,76,76,32]:XL)))) (y:=(.tmp 4)) (a:=([67,65,76,76,32]:XL)) (b:=x0.Call) (v:=h5) rfl rfl h7)<|Vs 1<|Nt<|Rt ?_
 obtain rfl:=Aa h8
 exact Re [(sv h5)] h4 rfl
def D5 (N:Nat) (x0:Log):(XL×Int)->Option (BC XL (XL×Int)):=fun h0=>
 (bif (decide (h0.2 < (x0.Jumps.length:Int))) then ((idx x0.Jumps h0.2).bind fun h1=>((strconv_Itoa N h1).bind fun h2=>((Cv ([32]:XL) h2).bind fun h3=>((Cv h0.1 h3).bind fun h4=>some (.next (h4,(W64 (h0.2 + 1)))))))) else some (.done (h0.1,h0.2)))
def D0 (N:Nat) (x0:Log):Option XL:=
 ((AU (D5 N x0) N (([74,85,77,80,83]:XL),0)).bind fun o=>o.k (fun r=>some r) (fun h0=>some h0.1))
theorem JH:Aj Tryz.prog 160:=fun _ _=>by kernel_rfl
theorem KA (N:Nat) (w0:World) (F0:Mem) (hF:XN w0 F0) (hG:BB F0) (x0:Log) (h1:XM) (h2:Nat) (bb:LC x0.Jumps.length h2) (he:SlA AE F0 h1 x0.Jumps) (h6:XM) (h7:Nat) (bc:LC x0.Lines.length h7) (bd:SlA AD F0 h6 x0.Lines) (r:XL) (h:D0 N x0=some r):
  Calls Tryz.prog 160 ([(.agg (AL x0 h1 h2 h6 h7))]:List Value).toArray w0 (AA w0 F0 fun F' v=>v=(sv r)):=by
 have hf:=Xs hF
 refine Go 20 Tryz.func160<|Sq (Rg [0,1] ?_)
 refine Bx' 27 (AL x0 h1 h2 h6 h7) hf (fun be bf h8=>?_)
 refine Vs 1<|Nss (Rg [0] ?_)
 refine Vs 1<|Nss<|Sq (Rg (rG 4) ?_)
 refine Vs 1<|Ld h8.at0<|Vs 2<|Nt ?_
 obtain ⟨h9,hg,hh⟩:=bS h
 refine Xx (fun f w=>∃ (h3:(XL×Int)) (F2:Mem),h9=.done h3/\HS w0 F0 w F2 []/\Xq F0 F2/\FI f [] [(3,(sv h3.1))]) ?_ ?_
 ·refine Bk ?_
  refine Xp (by kernel_rfl) (fun m f w=>∃ (h0:(XL×Int)) (F1:Mem),AU (D5 N x0) m h0=some h9/\HS w0 F0 w F1 []/\Xq F0 F1/\FI f [] [(3,(sv h0.1)),(7,(sL h1 x0.Jumps h2)),(8,(vi (x0.Jumps.length:Int))),(9,(vi h0.2))]) N ⟨(([74,85,77,80,83]:XL),0),F0,hg,h8.dr0,(Xr _),fI⟩ ?_
  rintro bg f hl ⟨h0,F1,hm,h4,h5,⟨_,rfl⟩⟩
  obtain ⟨hn,bh,rfl,ho,ha⟩:=AV hm
  refine Sq (Rg [0] ?_)
  refine Vs 1<|Nss<|Cd ho (fun hp hq=>?_) (fun hp hr=>?_)
  ·refine Sc ?_
   refine Ab<|Sq<|Bk<|Sq (Rg [0,1,2] ?_)
   obtain ⟨ht,hu,hv⟩:=bS hq
   obtain ⟨hw,hx52'⟩:=Ap hu
   obtain ⟨bi,bj,bk,bl,bm,rfl,hF61,hE62⟩:=Xy (Xt he h5) hx52'
   have hx:=hE62 _ _ hx52'
   refine Ix hw<|Lx 0 (h4.pers _ _ hF61) hx<|Vs 1<|Nt<|Rg (rG 6)<|Vs 2 ?_
   obtain ⟨hy,hz,b0⟩:=bS hv
   refine Cl' Bt h4 (BE N hl F1 h4.pers (hG.mono h5) ht _ hz) ?_
   rintro _ F3 bn b1 b2 rfl
   obtain ⟨hb,b3,b4⟩:=bS b0
   refine V 16 9 (AO (t:=9) (t':=9) (x:=(.const (sv ([32]:XL)))) (y:=(.tmp 15)) (a:=([32]:XL)) (b:=hy) (v:=hb) rfl rfl b3) ?_
   obtain ⟨hc,b5,b6⟩:=bS b4
   refine V 17 9 (AO (t:=9) (t':=9) (x:=(.tmp 13)) (y:=(.tmp 16)) (a:=h0.1) (b:=hb) (v:=hc) rfl rfl b5)<|Vs 1<|Xm<|Av<|Ab<|Rg [0,1]<|Vs 2<|Xm ?_
   have b7:=AW b6 ha
   exact ⟨hn,Nat.lt_succ_self _,(hc,(W64 (h0.2 + 1))),F3,b7,b1,(h5.t b2),fI⟩
  ·refine Ex ?_
   refine Au<|Au<|AB rfl ?_
   have b8:=AX hr ha
   exact .inl ⟨rfl,(h0.1,h0.2),F1,b8,h4,h5,fI⟩
 ·rintro f bo ⟨h3,F2,rfl,b9,bp,⟨_,rfl⟩⟩
  have ba:=BX hh
  refine Ab<|Sq (Rg [0,1] ?_)
  refine Vs 2<|Nt<|Rt ?_
  obtain rfl:=Aa ba
  exact Re [(sv h3.1)] b9 rfl
def CE (N:Nat) (x0:Ac) (x1:Line):Option (XL×Int):=
 ((CD N ({Report:=x0.Report,Serial:=x0.Serial,Zone:=x0.Zone}:Ac) x1).bind fun h0=>(bif (!h0) then some (([]:XL),1) else ((Cu N x1.Minute).bind fun h1=>((Bc N ({Report:=x0.Report,Serial:=x0.Serial,Zone:=x0.Zone}:Ac) ({Report:=x1.Sent.Report,Serial:=x1.Sent.Serial,Zone:=x1.Sent.Zone}:Ae)).bind fun h2=>((Bc N ({Report:=x0.Report,Serial:=x0.Serial,Zone:=x0.Zone}:Ac) ({Report:=x1.Got.Report,Serial:=x1.Got.Serial,Zone:=x1.Got.Zone}:Ae)).bind fun h3=>(((MC ([32,77,86,68]:XL) x1.Mode (W64 (x1.Mode + 1))).bind fun h4=>((strconv_Itoa N x1.Num).bind fun h5=>((strconv_Itoa N x1.Khz).bind fun h6=>((strings_Join N ([([81,83,79]:XL),h5,h6,h4,h1.1,x1.Call,([62]:XL),h2.1,([60]:XL),h3.1]) ([32]:XL)).bind fun h7=>some h7)))).bind fun h8=>some (h8,0)))))))
theorem Gp:Aj Tryz.prog 27:=fun _ _=>by kernel_rfl
theorem GZ (N:Nat) (w0:World) (F0:Mem) (hF:XN w0 F0) (hG:BB F0) (x0:Ac) (x1:Line) (r:(XL×Int)) (h:CE N x0 x1=some r):
  Calls Tryz.prog 27 ([(.agg (Al x0)),(.agg (Cn x1))]:List Value).toArray w0 (AA w0 F0 fun F' v=>v=(.tuple #[(sv r.1),(vi r.2)])):=by
 have hr:=Xs hF
 refine Go 55 Tryz.func27<|Sq (Rg (rG 4) ?_)
 refine Bx' 23 (Al x0) hr (fun ht bx hu=>?_)
 refine Bx' 34 (Cn x1) hu (fun hv hw h2=>?_)
 refine Vs 2<|Nss<|Sq (Rg (rG 4) ?_)
 refine Ld h2.at1<|Ld h2.at0 ?_
 obtain ⟨bz,hx,hy⟩:=bS h
 refine Cl' Gn h2 (GY N hw F0 h2.pers (({Report:=x0.Report,Serial:=x0.Serial,Zone:=x0.Zone}:Ac)) x1 _ hx) ?_
 rintro _ F1 hz h3 h1 rfl
 refine Vs 1<|Nt<|Cd hy (fun b0 b1=>?_) (fun b0 b2=>?_)
 ·refine Sq (Rg [0,1] ?_)
  refine Vs 2<|Nt<|Rt<|Af ?_
  obtain rfl:=Aa b1
  exact Re [(sv (([]:XL))),(vi 1)] h3 rfl
 ·refine Sc ?_
  refine Ab<|Sq (Rg (rG 8) ?_)
  refine Vs 1<|Ld h3.at0 ?_
  obtain ⟨h4,b3,b4⟩:=bS b2
  refine Cl' GU h3 (HK N hz F1 h3.pers (hG.mono h1) x1.Minute _ b3) ?_
  rintro _ F2 b5 h5 h6 rfl
  refine Vs 5<|Nss (Rg (rG 9) ?_)
  refine Ld h5.at1<|Vs 1<|Ld h5.at0 ?_
  obtain ⟨h7,b6,b7⟩:=bS b4
  refine Cl' Dn h5 (DL N b5 F2 h5.pers (hG.mono (h1.t h6)) (({Report:=x0.Report,Serial:=x0.Serial,Zone:=x0.Zone}:Ac)) (({Report:=x1.Sent.Report,Serial:=x1.Sent.Serial,Zone:=x1.Sent.Zone}:Ae)) _ b6) ?_
  rintro _ F3 b8 h8 hc rfl
  refine Vs 5<|Nss (Rg (rG 9) ?_)
  refine Ld h8.at1<|Vs 1<|Ld h8.at0 ?_
  obtain ⟨h9,b9,ba⟩:=bS b7
  refine Cl' Dn h8 (DL N b8 F3 h8.pers (hG.mono ((h1.t h6).trans hc)) (({Report:=x0.Report,Serial:=x0.Serial,Zone:=x0.Zone}:Ac)) (({Report:=x1.Got.Report,Serial:=x1.Got.Serial,Zone:=x1.Got.Zone}:Ae)) _ b9) ?_
  rintro _ F4 c0 bb hg rfl
  refine Vs 5<|Nss ?_
  obtain ⟨hh,bc,bd⟩:=bS ba
  refine RD 21 21 [(sb hv (Cn x1) 34),(sb ht (Al x0) 23)] [] bb (fun f w=>∃ (F5:Mem),HS w0 F0 w F5 []/\Xq F4 F5/\FI f [] [(4,(sv hh)),(5,(vi 0))]) (fun be hl=>?_) ?_
  ·refine Dvl [0] (tf 1 20) ?_
   refine Dl 1 (fun _ hq=>(hq.1.2 0 _ _ rfl))<|Dvl [3] [tt,tt,ff,tt,ff,ff,ff,ff,ff,ff,ff,ff,ff,ff,ff,ff,ff,ff,ff,ff,ff]<|Dl 4 (fun _ hq=>(hq.1.2 0 _ _ rfl))<|Dvl [6] [tt,tt,ff,tt,tt,ff,tt,ff,ff,ff,ff,ff,ff,ff,ff,ff,ff,ff,ff,ff,ff]<|Dl 7 (fun _ hq=>(hq.1.2 0 _ _ rfl))<|Dvl [8] [tt,tt,ff,tt,tt,ff,tt,tt,tt,ff,ff,ff,ff,ff,ff,ff,ff,ff,ff,ff,ff]<|Dl 9 (fun _ hq=>(hq.1.2 0 _ _ rfl))<|Dvl [10] [tt,tt,ff,tt,tt,ff,tt,tt,tt,tt,tt,ff,ff,ff,ff,ff,ff,ff,ff,ff,ff] ?_
   obtain ⟨h0,bf,bg⟩:=bS bc
   refine Dtl 11 47 9 (sv h0) [tt,tt,ff,tt,tt,ff,tt,tt,tt,tt,tt,tt,ff,ff,ff,ff,ff,ff,ff,ff,ff] (fun _ hq=>JZ (t:=9) (x:=(.const (sv ([32,77,86,68]:XL)))) (lo:=(some (.tmp 43))) (hi:=(some (.tmp 46))) (a:=([32,77,86,68]:XL)) (il:=x1.Mode) (ih:=(W64 (x1.Mode + 1))) (v:=h0) rfl (by kernel_rfl) rfl rfl bf)<|Dvl [12,13] [tt,tt,ff,tt,tt,ff,tt,tt,tt,tt,tt,tt,tt,tt,ff,ff,ff,ff,ff,ff,ff]<|Dl 14 (fun _ hq=>(hq.1.2 0 _ _ rfl))<|Dvl [15,16] [tt,tt,ff,tt,tt,ff,tt,tt,tt,tt,tt,tt,tt,tt,tt,tt,tt,ff,ff,ff,ff]<|D1 2 ?_
   obtain ⟨ha,bh,bi⟩:=bS bg
   refine DCl Bt hl (BE N be F4 hl.pers (hG.mono (((h1.t h6).trans hc).trans hg)) x1.Num _ bh) ?_
   rintro _ F6 bj hm he rfl
   refine D1 5 ?_
   obtain ⟨hb,bk,bl⟩:=bS bi
   refine DCl Bt hm (BE N bj F6 hm.pers (hG.mono ((((h1.t h6).trans hc).trans hg).trans he)) x1.Khz _ bk) ?_
   rintro _ F7 c1 bm hn rfl
   refine D1 17<|DBs 9 [(sv (([81,83,79]:XL))),(sv ha),(sv hb),(sv h0),(sv h4.1),(sv x1.Call),(sv (([62]:XL))),(sv h7.1),(sv (([60]:XL))),(sv h9.1)] bm (he.t hn) (fun hf bn bo=>?_)
   have ho:As AN 9 F7 (some ⟨hf,0,none⟩) 10 [([81,83,79]:XL),ha,hb,h0,h4.1,x1.Call,([62]:XL),h7.1,([60]:XL),h9.1] (some hf,.cells ([(sv (([81,83,79]:XL))),(sv ha),(sv hb),(sv h0),(sv h4.1),(sv x1.Call),(sv (([62]:XL))),(sv h7.1),(sv (([60]:XL))),(sv h9.1)]:List Value).toArray 9 (0,0)):=XG ⟨rfl,⟨rfl,⟨rfl,⟨rfl,⟨rfl,⟨rfl,⟨rfl,⟨rfl,⟨rfl,⟨rfl,rfl⟩⟩⟩⟩⟩⟩⟩⟩⟩⟩ (by simp)
   refine D1 18 ?_
   have bp:=XE ho
   obtain ⟨F8,hp,bq,br⟩:=bo.fr0 ho
   obtain ⟨c3,bs,bt⟩:=bS bl
   refine DCl Cf hp (CI N bn F8 hp.pers ([([81,83,79]:XL),ha,hb,h0,h4.1,x1.Call,([62]:XL),h7.1,([60]:XL),h9.1]) (some ⟨hf,0,none⟩) 10 bp br (([32]:XL)) _ bs) ?_
   rintro _ F9 c4 bu bv rfl
   refine Dvl [19,20] (tf 21 0) ?_
   obtain rfl:=Aa bt
   exact XD (by kernel_rfl) ⟨F9,bu.dr0.dr0,(((he.t hn).trans bq).trans bv),fI⟩
  ·rintro f c5 ⟨F5,bw,c6,⟨_,rfl⟩⟩
   refine Ab<|Rt ?_
   obtain rfl:=Aa bd
   exact Re [(sv hh),(vi 0)] bw rfl
theorem K2:Aj Tryz.prog 156:=fun _ _=>by kernel_rfl
set_option maxRecDepth 100000 in
theorem NA (w0:World) (F0:Mem) (hF:XN w0 F0) (b o:Nat):Calls Tryz.prog 156 ([(.pointer (some ⟨b,o,none⟩))]:List Value).toArray w0 (AA w0 F0 fun _ v=>v=.pointer (some ⟨b,o + 1,none⟩)):=by
 have h0:=Xs hF
 refine Go 6 Tryz.func156<|Sq<|Rg [0]<|V 2 194 (G4 (x:=.const (.pointer none)) (v:=.pointer none) rfl)<|Xm<|Ab<|Sq<|Rg [0,1,2,3]<|Vs 2<|V 5 0 (C3 (s:=27) (x:=.tmp 4) (i:=1) (b:=b) (o0:=o) (o:=1) (k:=1) rfl (by kernel_rfl) (by decide) rfl)<|Vs 1<|Xm<|Ab<|Rt ?_
 exact Re [(.pointer (some ⟨b,o + 1,none⟩))] h0 rfl
theorem K1:Aj Tryz.prog 157:=fun _ _=>by kernel_rfl
set_option maxRecDepth 100000 in
theorem Nz (w0:World) (F0:Mem) (hF:XN w0 F0) (b o:Nat):Calls Tryz.prog 157 ([(.pointer (some ⟨b,o,none⟩))]:List Value).toArray w0 (AA w0 F0 fun _ v=>v=.pointer (some ⟨b,o + 2,none⟩)):=by
 have h0:=Xs hF
 refine Go 6 Tryz.func157<|Sq<|Rg [0]<|V 2 194 (G4 (x:=.const (.pointer none)) (v:=.pointer none) rfl)<|Xm<|Ab<|Sq<|Rg [0,1,2,3]<|Vs 2<|V 5 0 (C3 (s:=27) (x:=.tmp 4) (i:=2) (b:=b) (o0:=o) (o:=2) (k:=1) rfl (by kernel_rfl) (by decide) rfl)<|Vs 1<|Xm<|Ab<|Rt ?_
 exact Re [(.pointer (some ⟨b,o + 2,none⟩))] h0 rfl
theorem K0:Aj Tryz.prog 158:=fun _ _=>by kernel_rfl
set_option maxRecDepth 100000 in
theorem Ny (w0:World) (F0:Mem) (hF:XN w0 F0) (b o:Nat):Calls Tryz.prog 158 ([(.pointer (some ⟨b,o,none⟩))]:List Value).toArray w0 (AA w0 F0 fun _ v=>v=.pointer (some ⟨b,o + 3,none⟩)):=by
 have h0:=Xs hF
 refine Go 6 Tryz.func158<|Sq<|Rg [0]<|V 2 194 (G4 (x:=.const (.pointer none)) (v:=.pointer none) rfl)<|Xm<|Ab<|Sq<|Rg [0,1,2,3]<|Vs 2<|V 5 0 (C3 (s:=27) (x:=.tmp 4) (i:=3) (b:=b) (o0:=o) (o:=3) (k:=1) rfl (by kernel_rfl) (by decide) rfl)<|Vs 1<|Xm<|Ab<|Rt ?_
 exact Re [(.pointer (some ⟨b,o + 3,none⟩))] h0 rfl
def DB (N:Nat) (x0:Log) (z0:XL):Option XL:=
 (((Cv z0 ([32]:XL)).bind fun h0=>((strconv_Itoa N x0.Category).bind fun h1=>((Cv h0 h1).bind fun h2=>some h2))).bind fun h3=>some h3)
theorem I4:Aj Tryz.prog 191:=fun _ _=>by kernel_rfl
theorem JM (N:Nat) (w0:World) (F0:Mem) (hF:XN w0 F0) (hG:BB F0) (x0:Log) (h0:XM) (h1:Nat) (b1:LC x0.Jumps.length h1) (b2:SlA AE F0 h0 x0.Jumps) (h2:XM) (h3:Nat) (b3:LC x0.Lines.length h3) (b4:SlA AD F0 h2 x0.Lines) (h5:Nat) (z0:XL) (he:F0 h5=some (oc #[(sv z0)] 9)) (h6:Nat) (hf:F0 h6=some (oc #[(fV 156 #[])] 195)) (r:XL) (h:DB N x0 z0=some r):
  Calls Tryz.prog 191 ([(.agg (AL x0 h0 h1 h2 h3)),(pt h5 0),(pt h6 0)]:List Value).toArray w0 (AA w0 F0 fun F' v=>v=(sv r)):=by
 have hg:=Xs hF
 refine Go 13 Tryz.func191<|Sq (Rg [0,1] ?_)
 refine Bx' 27 (AL x0 h0 h1 h2 h3) hg (fun h7 b5 hh=>?_)
 refine Vs 1<|Nss ?_
 obtain ⟨h8,hl,hm⟩:=bS h
 refine RD 9 9 [(sb h7 (AL x0 h0 h1 h2 h3) 27)] [] hh (fun f w=>∃ (F1:Mem),HS w0 F0 w F1 []/\Xq F0 F1/\FI f [] [(4,(sv h8))]) (fun hn h9=>?_) ?_
 ·refine Dl 0 (fun _ hq=>(hq.1.1 _ _ he)) ?_
  obtain ⟨h4,ho,hp⟩:=bS hl
  refine Dt 1 6 9 (sv h4) (fun _ hq=>AO (t:=9) (t':=9) (x:=(.tmp 5)) (y:=(.const (sv ([32]:XL)))) (a:=z0) (b:=([32]:XL)) (v:=h4) rfl rfl ho)<|Dl 2 (fun _ hq=>(hq.1.1 _ _ hf))<|D1 3<|DCl K2 h9 (NA hn F0 h9.pers h7 0) ?_
  rintro _ F2 hr ha hb rfl
  refine Dv [4]<|Dl 5 (fun _ hq=>(hq.1.2 0 _ _ rfl))<|D1 6 ?_
  obtain ⟨ht,hu,hv⟩:=bS hp
  refine DCl Bt ha (BE N hr F2 ha.pers (hG.mono hb) x0.Category _ hu) ?_
  rintro _ F3 b6 hw hx rfl
  obtain ⟨hc,hy,hz⟩:=bS hv
  refine Dt 7 12 9 (sv hc) (fun _ hq=>AO (t:=9) (t':=9) (x:=(.tmp 6)) (y:=(.tmp 11)) (a:=h4) (b:=ht) (v:=hc) rfl rfl hy)<|Dv [8] ?_
  obtain rfl:=Aa hz
  exact XD (by kernel_rfl) ⟨F3,hw.dr0,(hb.t hx),fI⟩
 ·rintro f b7 ⟨F1,b0,b8,⟨_,rfl⟩⟩
  refine Ab<|Rt ?_
  obtain rfl:=Aa hm
  exact Re [(sv h8)] b0 rfl
def Dz (N:Nat) (x0:Log) (z0:XL):Option XL:=
 (((Cv z0 ([32]:XL)).bind fun h0=>((strconv_Itoa N x0.Power).bind fun h1=>((Cv h0 h1).bind fun h2=>some h2))).bind fun h3=>some h3)
theorem I2:Aj Tryz.prog 191:=fun _ _=>by kernel_rfl
theorem JK (N:Nat) (w0:World) (F0:Mem) (hF:XN w0 F0) (hG:BB F0) (x0:Log) (h0:XM) (h1:Nat) (b1:LC x0.Jumps.length h1) (b2:SlA AE F0 h0 x0.Jumps) (h2:XM) (h3:Nat) (b3:LC x0.Lines.length h3) (b4:SlA AD F0 h2 x0.Lines) (h5:Nat) (z0:XL) (he:F0 h5=some (oc #[(sv z0)] 9)) (h6:Nat) (hf:F0 h6=some (oc #[(fV 157 #[])] 195)) (r:XL) (h:Dz N x0 z0=some r):
  Calls Tryz.prog 191 ([(.agg (AL x0 h0 h1 h2 h3)),(pt h5 0),(pt h6 0)]:List Value).toArray w0 (AA w0 F0 fun F' v=>v=(sv r)):=by
 have hg:=Xs hF
 refine Go 13 Tryz.func191<|Sq (Rg [0,1] ?_)
 refine Bx' 27 (AL x0 h0 h1 h2 h3) hg (fun h7 b5 hh=>?_)
 refine Vs 1<|Nss ?_
 obtain ⟨h8,hl,hm⟩:=bS h
 refine RD 9 9 [(sb h7 (AL x0 h0 h1 h2 h3) 27)] [] hh (fun f w=>∃ (F1:Mem),HS w0 F0 w F1 []/\Xq F0 F1/\FI f [] [(4,(sv h8))]) (fun hn h9=>?_) ?_
 ·refine Dl 0 (fun _ hq=>(hq.1.1 _ _ he)) ?_
  obtain ⟨h4,ho,hp⟩:=bS hl
  refine Dt 1 6 9 (sv h4) (fun _ hq=>AO (t:=9) (t':=9) (x:=(.tmp 5)) (y:=(.const (sv ([32]:XL)))) (a:=z0) (b:=([32]:XL)) (v:=h4) rfl rfl ho)<|Dl 2 (fun _ hq=>(hq.1.1 _ _ hf))<|D1 3<|DCl K1 h9 (Nz hn F0 h9.pers h7 0) ?_
  rintro _ F2 hr ha hb rfl
  refine Dv [4]<|Dl 5 (fun _ hq=>(hq.1.2 0 _ _ rfl))<|D1 6 ?_
  obtain ⟨ht,hu,hv⟩:=bS hp
  refine DCl Bt ha (BE N hr F2 ha.pers (hG.mono hb) x0.Power _ hu) ?_
  rintro _ F3 b6 hw hx rfl
  obtain ⟨hc,hy,hz⟩:=bS hv
  refine Dt 7 12 9 (sv hc) (fun _ hq=>AO (t:=9) (t':=9) (x:=(.tmp 6)) (y:=(.tmp 11)) (a:=h4) (b:=ht) (v:=hc) rfl rfl hy)<|Dv [8] ?_
  obtain rfl:=Aa hz
  exact XD (by kernel_rfl) ⟨F3,hw.dr0,(hb.t hx),fI⟩
 ·rintro f b7 ⟨F1,b0,b8,⟨_,rfl⟩⟩
  refine Ab<|Rt ?_
  obtain rfl:=Aa hm
  exact Re [(sv h8)] b0 rfl
def DA (N:Nat) (x0:Log) (z0:XL):Option XL:=
 (((Cv z0 ([32]:XL)).bind fun h0=>((strconv_Itoa N x0.Claimed).bind fun h1=>((Cv h0 h1).bind fun h2=>some h2))).bind fun h3=>some h3)
theorem I3:Aj Tryz.prog 191:=fun _ _=>by kernel_rfl
theorem JL (N:Nat) (w0:World) (F0:Mem) (hF:XN w0 F0) (hG:BB F0) (x0:Log) (h0:XM) (h1:Nat) (b1:LC x0.Jumps.length h1) (b2:SlA AE F0 h0 x0.Jumps) (h2:XM) (h3:Nat) (b3:LC x0.Lines.length h3) (b4:SlA AD F0 h2 x0.Lines) (h5:Nat) (z0:XL) (he:F0 h5=some (oc #[(sv z0)] 9)) (h6:Nat) (hf:F0 h6=some (oc #[(fV 158 #[])] 195)) (r:XL) (h:DA N x0 z0=some r):
  Calls Tryz.prog 191 ([(.agg (AL x0 h0 h1 h2 h3)),(pt h5 0),(pt h6 0)]:List Value).toArray w0 (AA w0 F0 fun F' v=>v=(sv r)):=by
 have hg:=Xs hF
 refine Go 13 Tryz.func191<|Sq (Rg [0,1] ?_)
 refine Bx' 27 (AL x0 h0 h1 h2 h3) hg (fun h7 b5 hh=>?_)
 refine Vs 1<|Nss ?_
 obtain ⟨h8,hl,hm⟩:=bS h
 refine RD 9 9 [(sb h7 (AL x0 h0 h1 h2 h3) 27)] [] hh (fun f w=>∃ (F1:Mem),HS w0 F0 w F1 []/\Xq F0 F1/\FI f [] [(4,(sv h8))]) (fun hn h9=>?_) ?_
 ·refine Dl 0 (fun _ hq=>(hq.1.1 _ _ he)) ?_
  obtain ⟨h4,ho,hp⟩:=bS hl
  refine Dt 1 6 9 (sv h4) (fun _ hq=>AO (t:=9) (t':=9) (x:=(.tmp 5)) (y:=(.const (sv ([32]:XL)))) (a:=z0) (b:=([32]:XL)) (v:=h4) rfl rfl ho)<|Dl 2 (fun _ hq=>(hq.1.1 _ _ hf))<|D1 3<|DCl K0 h9 (Ny hn F0 h9.pers h7 0) ?_
  rintro _ F2 hr ha hb rfl
  refine Dv [4]<|Dl 5 (fun _ hq=>(hq.1.2 0 _ _ rfl))<|D1 6 ?_
  obtain ⟨ht,hu,hv⟩:=bS hp
  refine DCl Bt ha (BE N hr F2 ha.pers (hG.mono hb) x0.Claimed _ hu) ?_
  rintro _ F3 b6 hw hx rfl
  obtain ⟨hc,hy,hz⟩:=bS hv
  refine Dt 7 12 9 (sv hc) (fun _ hq=>AO (t:=9) (t':=9) (x:=(.tmp 6)) (y:=(.tmp 11)) (a:=h4) (b:=ht) (v:=hc) rfl rfl hy)<|Dv [8] ?_
  obtain rfl:=Aa hz
  exact XD (by kernel_rfl) ⟨F3,hw.dr0,(hb.t hx),fI⟩
 ·rintro f b7 ⟨F1,b0,b8,⟨_,rfl⟩⟩
  refine Ab<|Rt ?_
  obtain rfl:=Aa hm
  exact Re [(sv h8)] b0 rfl
section
open Go.Proofs Go.Lib
def Uz (a:XM) (cap:Nat) (t:XL) (e:Option Nat×Obj):Prop:=
 (a=none/\cap=0/\t=[]/\e.1=none)\/ ∃ g cur,a=some ⟨g,0,none⟩/\e=(some g,.cells cur 5 (0,0))/\t≠[]/\t.length<=cap/\cap<=maxLen/\cur.size=cap/\cur.toList.take t.length=byteCells t
def FO (t s:XL):Option XL:=if t.length + s.length<=140737488355328 then some (t++s) else none
theorem ST {t s r:XL} (h:FO t s=some r):t.length + s.length<=140737488355328/\r=t++s:=by
 unfold FO at h;split at h
 ·rename_i h1;exact ⟨h1,by cases h;rfl⟩
 ·cases h
theorem Hx {t s:XL} (h:t.length + s.length<=140737488355328):FO t s=some (t++s):=by unfold FO;rw [if_pos h]
section
variable {w w0 : World} {F0 F : Mem} {L : Own}
theorem EE (l:XL):(byteCells l).length=l.length:=by simp [byteCells]
theorem Um (l m:XL):byteCells (l++m)=byteCells l++byteCells m:=by simp [byteCells]
theorem Qx {g:Nat} {cur cs:Array Value} {e:TypeId} {fz:Nat×Nat} (hg:w.heap[g]? =some (.cells cur e fz)):w.setRow g cs=B4 w g (.cells cs e fz):=by
 have hlt:g < w.heap.size:=(Array.getElem?_eq_some_iff.1 hg).1
 have hv:w.heap[g]=.cells cur e fz:=(Array.getElem?_eq_some_iff.1 hg).2
 unfold World.setRow B4
 congr 1
 apply Array.ext_getElem?
 intro i
 rw [Array.getElem?_modify,Array.getElem?_setIfInBounds]
 by_cases hi:g=i
 ·subst hi;simp [hlt,hv]
 ·simp [hi]
theorem MM {ty:TypeId} (hs:HS w0 F0 w F L) {k:Nat} {e:Option Nat×Obj} (hk:L[k]? =some e) {a:XM} {cap:Nat} {t s r:XL} (hr:Uz a cap t e) (hap:FO t s=some r):
  ∃ a' cap' e' w',(Builtin.append_ #[103,9] ty #[.slice a t.length cap,.string ⟨s.toArray⟩]).run Tryz.prog w=.ok (.slice a' r.length cap') w'/\HS w0 F0 w' F (L.set k e')/\Uz a' cap' r e':=by
 obtain ⟨hlen,rfl⟩:=ST hap
 have h1:Tryz.prog.underlying 9=some .string:=Tryz.underlying9
 have h2:Tryz.prog.underlying 103=some (.slice 5):=Tryz.underlying103
 obtain ⟨i0,hi,h4,h3,h5⟩:=info_parts (show (Tryz.prog.info? 5).map (fun i=>(i.zero,i.size,i.bytes))=some (some (.int .u8 0),1,1) by kernel_rfl)
 have hss:(⟨s.toArray⟩:ByteArray).size=s.length:=by simp [ByteArray.size]
 have hsc:strCells ⟨s.toArray⟩=byteCells s:=by simp [strCells,byteCells]
 have hm:maxLen=9223372036854775807:=rfl
 rcases hr with ⟨rfl,rfl,rfl,he⟩ | ⟨g,cur,rfl,rfl,hne,hlc,hcm,hcs,htk⟩
 ·by_cases h0:s=[]
  ·subst h0
   refine ⟨none,0,e,w,?_,by rw [MF hk];exact hs,.inl ⟨rfl,rfl,rfl,he⟩⟩
   simp [Builtin.append_,run_underlying h2,run_underlying h1,sizeOf,typeInfo,hi,h3,Builtin.lenOf,Builtin.firstCells,ByteArray.size]
  ·have hpos:0 < s.length:=List.length_pos_iff.2 h0
   have hrun:=run_append_nil_string (P:=Tryz.prog) w 103 9 ty 5 i0 (.int .u8 0) h2 h1 hi h4 ⟨s.toArray⟩ (by rw [hss];exact hpos) (by rw [hss];simp at hlen;omega) (by rw [hss,h5];simp at hlen;omega)
   rw [hss] at hrun
   refine ⟨_,_,_,_,hrun,(hs.heap (w':=w.drew) rfl).renew k _,.inr ⟨_,_,rfl,rfl,by simpa using h0,by simpa using grownCap_ge w s.length 0 5,grownCap_le_maxLen w s.length 0 5 (by rw [hm];simp at hlen;omega),?_,?_⟩⟩
   ·have:=grownCap_ge w s.length 0 5
    simp [Builtin.zeroCells,Value.cells];omega
   ·rw [List.nil_append]
    have e1:(s.toArray.map fun b=>Value.int .u8 (b.toNat:Int)).toList=byteCells s:=by simp [byteCells]
    rw [Array.toList_append,e1,List.take_append_of_le_length (by rw [EE];exact Nat.le_refl _),<-EE s,List.take_length]
 ·have hg:w.heap[g]? =some (.cells cur 5 (0,0)):=hs.ownAt hk
  by_cases hfit:t.length + s.length<=cap
  ·have hrun:=run_append_room_string (P:=Tryz.prog) w 103 9 ty 5 i0 h2 h1 hi h3 g t.length cap cur hg ⟨s.toArray⟩ (by rw [hss];exact hfit) (by rw [hss,hcs];exact hfit)
   rw [hss,hsc,Qx hg] at hrun
   refine ⟨some ⟨g,0,none⟩,cap,_,_,by rw [List.length_append];exact hrun,hs.put hk _,.inr ⟨g,_,rfl,rfl,by simp [hne],by simpa using hfit,hcm,?_,?_⟩⟩
   ·simp [EE,hcs];omega
   ·rw [htk,List.length_append,Um]
    rw [List.take_append_of_le_length (by simp [EE])]
    have:t.length + s.length=(byteCells t++byteCells s).length:=by simp [EE]
    rw [this,List.take_length]
  ·have hholds:∀ j v,(byteCells t)[j]? =some v->w.cell? ((⟨g,0,none⟩:Addr).add j)=some v:=fun j v hj=>by
    have hjl:j < t.length:=by
     rcases Nat.lt_or_ge j t.length with h' | h'
     ·exact h'
     ·rw [List.getElem?_eq_none (by rw [EE];exact h')] at hj;cases hj
    have:cur[j]? =some v:=by
     rw [<-htk,List.getElem?_take_of_lt hjl,Array.getElem?_toList] at hj;exact hj
    rw [Addr.add_lit];simp [World.cell?,hg,this]
   have hrun:=run_append_grow_string (P:=Tryz.prog) w 103 9 ty 5 i0 (.int .u8 0) h2 h1 hi h4 ⟨g,0,none⟩ t.length cap (byteCells t) (by rw [EE,h3,Nat.mul_one]) hholds ⟨s.toArray⟩ (by rw [hss];omega) (by rw [hss];omega) (by rw [hss,h5];exact growslice_fits (by omega) (by omega))
   rw [hss,hsc] at hrun
   refine ⟨_,_,_,_,by rw [List.length_append];exact hrun,(hs.heap (w':=w.drew) rfl).renew k _,.inr ⟨_,_,rfl,rfl,by simp [hne],by simpa using grownCap_ge w (t.length + s.length) cap 5,grownCap_le_maxLen w (t.length + s.length) cap 5 (by rw [hm];omega),?_,?_⟩⟩
   ·have:=grownCap_ge w (t.length + s.length) cap 5
    simp [Builtin.zeroCells,Value.cells,EE];omega
   ·rw [Array.toList_append,Array.toList_append,Um,List.length_append]
    have:t.length + s.length=(byteCells t++byteCells s).length:=by simp [EE]
    rw [List.take_append_of_le_length (by simp [EE]),this]
    simp only [List.take_length]
end
section
variable {ρ : Operand -> Value} {w : World}
theorem Ii (op:BinOp) (t:TypeId) (x y:Operand) (p q:XM):(eqGuard op t x y (.pointer p) (.pointer q)).run Tryz.prog w=.ok () w:=by
 unfold eqGuard;cases op <;> simp
theorem OH (p:XM) (d:Nat):(Op.equalIn (d + 1) 102 (.pointer p) (.pointer none)).run Tryz.prog w=.ok p.isNone w:=by
 unfold Op.equalIn
 simp only [Sem.run_bind,run_underlying Tryz.underlying102,Result.andThen_ok]
 cases p <;> rfl
theorem PE {x y:Operand} {p:XM} {ty:TypeId} (hx:ρ x=.pointer p) (hy:ρ y=.pointer none):(Ak ρ (.binOp .eql 102 x y 102) ty).run Tryz.prog w=.ok (.value (.bool p.isNone)) w:=by
 have e:Ak ρ (.binOp .eql 102 x y 102) ty=(do pure (Next.value (<-(do eqGuard .eql 102 x y (ρ x) (ρ y);binOp .eql 102 (ρ x) (ρ y))))):=rfl
 have e2:binOp .eql 102 (.pointer p) (.pointer none)=(do pure (Value.bool (<-Op.equalIn (9999 + 1) 102 (.pointer p) (.pointer none)))):=rfl
 rw [e,hx,hy,e2]
 simp only [Sem.run_bind,Ii,Result.andThen_ok,OH,Sem.run_pure]
theorem OC {x y:Operand} {a:Addr} {ty:TypeId} (hx:ρ x=.pointer (some a)) (hy:ρ y=.pointer (some a)):(Ak ρ (.binOp .neq 102 x y 102) ty).run Tryz.prog w=.ok (.value (.bool false)) w:=by
 have e:Ak ρ (.binOp .neq 102 x y 102) ty=(do pure (Next.value (<-(do eqGuard .neq 102 x y (ρ x) (ρ y);binOp .neq 102 (ρ x) (ρ y))))):=rfl
 obtain ⟨j,hj,_⟩:=Option.map_eq_some_iff.1 (show (Tryz.prog.info? 105).map (·.size)=some 2 by kernel_rfl)
 rw [e,hx,hy]
 simp only [Sem.run_bind,Ii,Result.andThen_ok,run_neq_ptr_same w a Tryz.underlying102 hj,Sem.run_pure]
theorem PG {x:Operand} {v u:Value} {s d ty:TypeId} (hx:ρ x=v) (h:(convert s d v).run Tryz.prog w=.ok u w):(Ak ρ (.convert s d x) ty).run Tryz.prog w=.ok (.value u) w:=by
 have e:Ak ρ (.convert s d x) ty=(do pure (Next.value (<-convert s d (ρ x)))):=rfl
 rw [e,hx,Sem.run_bind,h];rfl
theorem Si {x:Operand} {v:Value} {ty:TypeId} (hx:ρ x=v) (hf:ρ (.func 192)=.func (.func 192) #[] #[]):(Ak ρ (.call {callee:=.value (.func 192),args:=#[x],argTypes:=#[235]}) ty).run Tryz.prog w=.ok (.value v) w:=by
 have e:Ak ρ (.call {callee:=.value (.func 192),args:=#[x],argTypes:=#[235]}) ty=(do let d<-Deferred.ofValue (ρ (.func 192)) (#[x].map ρ);invoke d.target d.args):=rfl
 rw [e,hf]
 simp only [Deferred.ofValue,Sem.run_bind,Sem.run_pure,Result.andThen_ok,invoke]
 rw [run_callFunc_extern Tryz.func192 (by kernel_rfl) (by kernel_rfl) (by kernel_rfl) (e:=Extern.AbiNoEscape.same) (by kernel_rfl)]
 have:(#[]++Array.map ρ #[x]++#[]:Array Value)=#[v]:=by simp [hx]
 rw [this,run_noEscape];rfl
end
theorem Pd:Aj Tryz.prog 161:=fun _ _=>by kernel_rfl
theorem Qf {wb w0:World} {Fb F0:Mem} {Lf:Own} (b:Nat) (p:XM) (hp:p=none\/p=some ⟨b,0,none⟩) (v:Value) (hv:v.oneCell'=true) (h0:HS wb Fb w0 F0 ((some b,.cells #[.pointer p,v] 105 (0,0))::Lf)):
  Calls Tryz.prog 161 ([(.pointer (some ⟨b,0,none⟩))]:List Value).toArray w0 (EM wb Fb F0 fun _ r L'=>r=.tuple #[]/\L'=(some b,.cells #[.pointer (some ⟨b,0,none⟩),v] 105 (0,0))::Lf):=by
 have hsh:w0.shape? b=some (105,2):=by simp [World.shape?,h0.at0]
 refine Go 20 Tryz.func161<|Sq<|Rg [0,1,2,3,4]<|Vs 3<|Ld h0.at0<|V 6 4 (PE (x:=.tmp 5) (y:=.const (.pointer none)) (p:=p) rfl rfl)<|Xm<|Ab ?_
 rcases hp with rfl | rfl
 ·refine C1 (t:=true) rfl ?_
  refine Rg [0,1,2,3,4,5,6,7] ?_
  obtain ⟨j,hj,hjs⟩:=Option.map_eq_some_iff.1 (show (Tryz.prog.info? 105).map (·.size)=some 2 by kernel_rfl)
  refine Vs 2<|V 9 235 (PG (s:=102) (d:=235) (x:=.tmp 8) rfl (run_to_unsafe w0 ⟨b,0,none⟩ Tryz.underlying102 Tryz.underlying235 hj (by rw [hjs];decide) hsh (Nat.zero_lt_succ 1)))<|V 10 235 (Si (x:=.tmp 9) rfl rfl)<|V 11 102 (PG (s:=235) (d:=102) (x:=.tmp 10) rfl (run_from_unsafe w0 ⟨b,0,none⟩ Tryz.underlying235 Tryz.underlying102 hj hsh (by kernel_rfl)))<|Vs 2<|St0 #[.pointer (some ⟨b,0,none⟩),v] h0 (fun w1 h1=>?_)
  refine Xm ?_
  exact ReB [] h1 (Xr _) ⟨rfl,rfl⟩
 ·refine C0 (t:=false) rfl ?_
  refine Sq<|Rg [0,1,2,3,4,5]<|Vs 3<|Ld h0.at0<|Vs 1<|V 19 4 (OC (x:=.tmp 17) (y:=.tmp 18) rfl rfl)<|Xm<|Ab<|C0 (t:=false) rfl<|CWP.skip (by kernel_rfl) ?_
  exact ReB [] h0 (Xr _) ⟨rfl,rfl⟩
theorem Bq:Aj Tryz.prog 90:=fun _ _=>by kernel_rfl
theorem NY {wb w0:World} {Fb F0:Mem} {Lf:Own} (b:Nat) (p:XM) (hp:p=none\/p=some ⟨b,0,none⟩) (a:XM) (cap:Nat) (e:Option Nat×Obj) (t s r:XL) (hb:Uz a cap t e) (hap:FO t s=some r)
  (h2:HS wb Fb w0 F0 ((some b,.cells #[.pointer p,.slice a t.length cap] 105 (0,0))::e::Lf)):
  Calls Tryz.prog 90 ([(.pointer (some ⟨b,0,none⟩)),(.string ⟨s.toArray⟩)]:List Value).toArray w0 (EM wb Fb F0 fun _ v L'=>v=.tuple #[.int .i64 (s.length:Int),.nilIface]/\ ∃ a' cap' e',L'=(some b,.cells #[.pointer (some ⟨b,0,none⟩),.slice a' r.length cap'] 105 (0,0))::e'::Lf/\Uz a' cap' r e'):=by
 refine Go 19 Tryz.func90<|Sq<|Rg [0,1]<|Vs 2<|Xm<|Ab<|Sq<|Rg [0,1]<|Vs 1<|CB Pd (Qf b p hp (.slice a t.length cap) rfl h2) ?_
 rintro _ F1 w1 _ h1 h3 ⟨rfl,rfl⟩
 refine Xm<|Ab<|Sq<|Rg [0,1,2,3,4,5,6,7,8,9]<|Vs 4<|Ld h1.at0<|Vs 1 ?_
 obtain ⟨a',cap',e',w2,hrun,h0,h4⟩:=MM (ty:=103) h1 (k:=1) rfl hb hap
 refine Xn (dst:=some 14) (ty:=103) (g:=none) (v:=.slice a' r.length cap') (by kernel_rfl) rfl (by
  have e:∀ ρ:Operand->Value,Ak ρ (.call {callee:=.builtin .append,args:=#[.tmp 12,.tmp 13],argTypes:=#[103,9]}) 103=(do pure (Next.value (<-Builtin.append_ #[103,9] 103 (#[.tmp 12,.tmp 13].map ρ)))):=fun _=>rfl
  rw [e]
  simp only [List.map_toArray,List.map_cons,List.map_nil]
  rw [Sem.run_bind]
  refine Eq.trans (congrArg (fun x=>Result.andThen x _) (show _=_ from hrun)) rfl) ?_
 have h0:HS wb Fb w2 F1 ((some b,.cells #[.pointer (some ⟨b,0,none⟩),.slice a t.length cap] 105 (0,0))::e'::Lf):=h0
 refine Vs 2<|St0 #[.pointer (some ⟨b,0,none⟩),.slice a' r.length cap'] h0 (fun w3 h5=>?_)
 refine Xm<|Ab<|Sq<|Rg [0,1,2,3]<|Vs 4<|Xm<|Ab<|Rt ?_
 exact ReB [.int .i64 (s.length:Int),.nilIface] h5 h3 ⟨rfl,a',cap',e',rfl,h4⟩
def Fe (b:Nat) (t:XL) (_:Mem) (Lf:Own):Prop:=∃ p a n e,(p=none\/p=some ⟨b,0,none⟩)/\Lf=[e,(some b,.cells #[.pointer p,.slice a t.length n] 105 (0,0))]/\Uz a n t e
theorem Fe.mono {b:Nat}:Ov (Fe b):=fun _ _ _ _ h _=>h
section
variable {w w0 : World} {F0 F : Mem} {L : Own} {b : Nat}
theorem Fe.new (hs:HS w0 F0 w F ((some b,.cells #[.pointer none,.slice none 0 0] 105 (0,0))::L)):∃ Lf,HS w0 F0 w F (L++Lf)/\Fe b [] F Lf:=
 ⟨_,HS.swap (A:=[(none,.cells #[] 0 (0,0)),_]) (hs.dummy (.cells #[] 0 (0,0))),none,none,0,_,.inl rfl,rfl,.inl ⟨rfl,rfl,rfl,rfl⟩⟩
theorem DV {Lf:Own} {t s r:XL} (hap:FO t s=some r) (hJ:Fe b t F Lf) (hs:HS w0 F0 w F (L++Lf)):
  Calls Tryz.prog 90 ([(.pointer (some ⟨b,0,none⟩)),(.string ⟨s.toArray⟩)]:List Value).toArray w (EM w0 F0 F fun F' v L'=>v=.tuple #[.int .i64 (s.length:Int),.nilIface]/\ ∃ Lf',L'=L++Lf'/\Fe b r F' Lf'):=by
 obtain ⟨p,a,n,e,hp,rfl,hb⟩:=hJ
 have h1:HS w0 F0 w F (e::(some b,.cells #[.pointer p,.slice a t.length n] 105 (0,0))::L):=HS.swap hs
 refine (NY b p hp a n e t s r hb hap h1.pk1).mono ?_
 rintro _ w' ⟨F',v,_,rfl,h2,h3,rfl,a',n',e',rfl,hb'⟩
 exact ⟨F',_,L++[e',_],rfl,HS.swap (A:=[e',_]) h2.pk1,h3,rfl,_,rfl,_,a',n',e',.inr rfl,rfl,hb'⟩
theorem Nq:Aj Tryz.prog 91:=fun _ _=>by kernel_rfl
theorem Oq {Lf:Own} {t:XL} (hJ:Fe b t F Lf) (hs:HS w0 F0 w F (L++Lf)):Calls Tryz.prog 91 ([(.pointer (some ⟨b,0,none⟩))]:List Value).toArray w (EM w0 F0 F0 fun F' v L'=>v=.string ⟨t.toArray⟩/\L'=[]/\F'=F0):=by
 obtain ⟨p,a,n,e,hp,rfl,hb⟩:=hJ
 have h1:HS w0 F0 w F (e::(some b,.cells #[.pointer p,.slice a t.length n] 105 (0,0))::L):=HS.swap hs
 have hB:w0.heap.size<=b:=(h1.own b _ (.tail _ (.head _))).2.2
 have hbk:=h1.at1
 have hbuf:IsBuilder 105 5 w0.heap.size b (byteCells t) w:=by
  have:BuilderAt 105 5 w0.heap.size b (.pointer p) (byteCells t) w:=by
   refine ⟨hB,.slice a t.length n,hbk,?_,?_⟩
   ·rcases hb with ⟨rfl,rfl,rfl,_⟩ | ⟨g,cur,rfl,rfl,hne,hlc,hcm,hcs,htk⟩
    ·exact ⟨rfl,.inl ⟨rfl,rfl⟩⟩
    ·exact ⟨by simp [EE],.inr ⟨g,n,cur,by rw [EE],(h1.own g _ (.head _)).2.2,h1.at0,by rw [EE];exact hlc,hcm,by simpa using hcs,by rw [EE,Nat.mul_one];exact htk⟩⟩
   ·rcases hb with ⟨rfl,rfl,rfl,_⟩ | ⟨g,cur,rfl,rfl,hne,hlc,hcm,hcs,htk⟩
    ·simp [Value.ownBlock]
    ·have:=h1.nd
     simp only [Value.ownBlock]
     intro e
     simp at e
     subst e
     simp at this
  rcases hp with rfl | rfl
  ·exact .inl this
  ·exact .inr this
 refine (Tryz.Builder_String_any w0.heap.size b t w hbuf h1.size).mono ?_
 rintro _ w' ⟨rfl,hbel⟩
 refine ⟨F0,_,[],rfl,?_,Xr _,rfl,rfl,rfl⟩
 exact ⟨h1.base,h1.fix.trans ⟨hbel.os,hbel.output,hbel.tape⟩,Nat.le_trans h1.size hbel.size,fun c hc=>(hbel.block c hc).trans (h1.keep c hc),fun _ _=>rfl,fun c o hc=>(hbel.block c (Bb (h1.base c o hc))).trans ((h1.keep c (Bb (h1.base c o hc))).trans (h1.base c o hc)),fun _ _ h=>(by cases h),List.nodup_nil⟩
end
end
theorem GM {P:Program} {w:World} {ρ:Operand->Value} {ty t E:TypeId} {len s:Nat} {x y:Operand} {k:IntKind} {i:Int} {cs C:List Value} (hx:ρ x=.agg cs.toArray) (hy:ρ y=.int k i) (hu:P.underlying t=some (.array len E)) (ht:EF P E=some (true,s)) (hi:0<=i/\i < (len:Int)) (hc:Ao cs.toArray (i.toNat * s) s=C) (hl:C.length=s):
  (Ak ρ (.index t x y) ty).run P w=.ok (.value (.agg C.toArray)) w:=by
 have hp:=GK (P:=P) (t:=E) (C:=cs.toArray) (o:=i.toNat * s) ht (by rw [hc];exact hl) (.inl rfl) w
 rw [hc] at hp
 simp only [Ak,execOp,hx,hy,Instr.index,asIntOf,Sem.run_bind,Sem.run_pure,Result.andThen_ok,run_underlying hu,CM ht]
 rw [if_pos hi]
 simp only [Sem.run_bind,CM ht,Result.andThen_ok]
 rw [hp]
 rfl
theorem GL {P:Program} {w:World} {ρ:Operand->Value} {ty t E:TypeId} {len s:Nat} {x y:Operand} {k:IntKind} {i n:Int} {cs C:List Value} (hx:ρ x=.agg cs.toArray) (hy:ρ y=.int k i) (hu:P.underlying t=some (.array len E)) (ht:EF P E=some (true,s)) (hd:decide (i=n)=true) (hi:0<=n/\n < (len:Int)) (hc:Ao cs.toArray (n.toNat * s) s=C) (hl:C.length=s):
  (Ak ρ (.index t x y) ty).run P w=.ok (.value (.agg C.toArray)) w:=by
 have e:=of_decide_eq_true hd
 subst e
 exact GM hx hy hu ht hi hc hl
theorem J1 {P:Program} {w:World} {ρ:Operand->Value} {ty t E:TypeId} {len s b o0 o1:Nat} {g:Bool} {x y:Operand} {k:IntKind} {i n:Int} (hx:ρ x=.pointer (some ⟨b,o0,none⟩)) (hy:ρ y=.int k i) (hu:P.underlying t=some (.array len E)) (ht:EF P E=some (g,s)) (hd:decide (i=n)=true) (hi:0<=n/\n < (len:Int)) (ho:o0 + n.toNat * s=o1):
  (Ak ρ (.indexAddr t x y) ty).run P w=.ok (.value (.pointer (some ⟨b,o1,none⟩))) w:=by
 have e:=of_decide_eq_true hd
 subst e
 subst ho
 have hdo:Ak ρ (.indexAddr t x y) ty=(do pure (Next.value (<-Instr.indexAt t (ρ x) (ρ y)))):=rfl
 rw [hdo,hx,hy]
 have e2:(Instr.sureAddr (.pointer (some ⟨b,o0,none⟩))).run P w=.ok ⟨b,o0,none⟩ w:=rfl
 simp only [Instr.indexAt,asIntOf,Sem.run_bind,Sem.run_pure,Result.andThen_ok,run_underlying hu,e2,hi,and_self,if_true,CM ht,Addr.add]
 first | rfl | (split <;> simp_all)
section
variable {P : Program} {n : Nat} {Q : Exit -> Fr -> World -> Prop} {f : Fr} {w w0 : World} {F0 F : Mem} {L : Own}
theorem CWP.rangeRet {X α σ:Type} {enc:X->List Value} {ok:Mem->X->Prop} {px:X->α} {m:∀ {σ:Type},(σ->α->Option (Bool×σ))->σ->Option σ} {c:Code} (hk:Vf c=1) {gf:FuncId} {cap:List Value} {B:Own}
  (hg:fev f (UO c)=.func (.func gf) #[] cap.toArray) (hgf:Aj P gf) (hd:f.d=[]) {ps:List Nat} (h5:rps c=ps) (hps:ps.all (· < n)=true) (hlen:∀ x,(enc x).length=ps.length) (hs:HS w0 F0 w F (B++L)) (hseq:R7 P gf cap F B enc ok px m)
  (lp:σ->α->Option (σ×Bool)) (J:σ->Mem->Own->Prop) (hJm:Ov J) {s:σ} {r:σ×Bool} (hJ:J s F L) (hm:m (Ul lp) (s,true)=some r)
  (hround:∀ (l:Nat) (s:σ) (x:X) (w':World) (F':Mem) (Lf Rf:Own) (t:σ×Bool),Xq F F'->ok F' x->J s F' Lf->HS w0 F0 w' F' (Lf++Rf)->lp s (px x)=some t->
   CWP P (some l) n (UR c) (fun e f1 w1=>e=.normal/\ ∃ F1 Lu,HS w0 F0 w1 F1 (Lu++Rf)/\ ∀ w2 Rg,HS w0 F0 w2 F1 (Lu++Rg)->CWP P (some l) n (Rw c) (fun e f2 w3=>((e=.normal/\t.2=true)\/(e=.ret/\t.2=false))/\ ∃ F2 h4,HS w0 F0 w3 F2 (h4++Rg)/\Xq F' F2/\J t.1 F2 h4) f1 w2) (setps f ps (enc x)) w')
  (hdone:r.2=true->∀ (D:Nat) (w':World) (F':Mem) (Lf:Own),HS w0 F0 w' F' ((some D,.deferred (some []))::Lf)->Xq F F'->J r.1 F' Lf->Q .normal ⟨f.v,[{target:=.collected D,args:=#[]}]⟩ w')
  (hstop:r.2=false->∀ (D:Nat) (w':World) (F':Mem) (Lf:Own),HS w0 F0 w' F' ((some D,.deferred (some []))::Lf)->Xq F F'->J r.1 F' Lf->Q .ret ⟨f.v,[{target:=.collected D,args:=#[]}]⟩ w'):CWP P none n c Q f w:=by
 refine CWP.rangeFunc2 hk hg hgf hd h5 hps hlen hs hseq (Ul lp) (fun s=>s.2) (fun s F L=>J s.1 F L) (fun s F F' L h hl=>hJm s.1 F F' L h hl) (s:=(s,true)) (r:=r) hJ rfl hm (fun s x q h=>⟨(Li h).1,(Li h).2.1⟩) ?_ (fun D w' F' Lf h0 h1 h2 h3=>hdone h0 D w' F' Lf h1 h2 h3) (fun D w' F' Lf h0 h1 h2 h3=>hstop h0 D w' F' Lf h1 h2 h3)
 intro l s x w' F' Lf Rf q hle hok hJ hs hyq
 obtain ⟨h1,h2,h3⟩:=Li hyq
 refine (hround l s.1 x w' F' Lf Rf q.2 hle hok hJ hs h3).mono ?_
 rintro e f1 w1 ⟨rfl,F1,Lu,h6,h⟩
 refine ⟨rfl,F1,Lu,h6,fun w2 Rg h7=>(h w2 Rg h7).mono ?_⟩
 rintro e f2 w3 ⟨he,h⟩
 rw [h2]
 exact ⟨he,h⟩
end
def osk {α τ:Type} (q:Option α) (f:τ) (g:α->τ):τ:=match q with
 | none=>f
 | some a=>g a
theorem VD {α τ:Type} {f:τ} {g:α->τ} {r:τ} (h:osk none f g=r):f=r:=h
theorem VC {α τ:Type} {x:α} {f:τ} {g:α->τ} {r:τ} (h:osk (some x) f g=r):g x=r:=h
structure Aq where
 o_:Ac
 l_:Log
 done_:Int
 ended_:Bool
abbrev rdv (b1 b2 b3 b4:Nat):Value:=.func (.func 190) #[] #[.pointer (some ⟨b1,0,none⟩),.pointer (some ⟨b2,0,none⟩),.pointer (some ⟨b3,0,none⟩),.pointer (some ⟨b4,0,none⟩)]
abbrev wrv (b1 b4:Nat):Value:=.func (.func 191) #[] #[.pointer (some ⟨b1,0,none⟩),.pointer (some ⟨b4,0,none⟩)]
abbrev fcv (k:FuncId):Value:=.func (.func k) #[] #[]
theorem Fg:Aj Tryz.prog 155:=fun _ _=>by kernel_rfl
set_option maxRecDepth 100000 in
theorem FM (w0:World) (F0:Mem) (hF:XN w0 F0) (s:XL) (lo hi:Int) (k:FuncId):Calls Tryz.prog 155 ([(.string ⟨s.toArray⟩),(.int .i64 lo),(.int .i64 hi),fcv k]:List Value).toArray w0 (AA w0 F0 fun F' v=>∃ b1 b2 b3 b4,v=.agg #[rdv b1 b2 b3 b4,wrv b1 b4]/\
  F' b1=some (.cells #[.string ⟨s.toArray⟩] 9 (0,0))/\F' b2=some (.cells #[.int .i64 lo] 3 (0,0))/\F' b3=some (.cells #[.int .i64 hi] 3 (0,0))/\F' b4=some (.cells #[fcv k] 195 (0,0))):=by
 have h3:=Xs hF
 refine Go 12 Tryz.func155<|Sq<|Rg [0,1,2,3,4]<|Bx' 9 #[(.string ⟨s.toArray⟩)] h3 (fun b1 w1 h4=>?_)
 refine Bx' 3 #[(.int .i64 lo)] h4 (fun b2 w2 h5=>?_)
 refine Bx' 3 #[(.int .i64 hi)] h5 (fun b3 w3 h6=>?_)
 refine Bx' 195 #[fcv k] h6 (fun b4 w4 h7=>?_)
 refine Al' 109 #[.nilFunc,.nilFunc] h7 (fun b5 w5 h8=>?_)
 refine Xm<|Ab<|Sq<|Rg [0,1,2,3]<|Vs 3<|St0 #[rdv b1 b2 b3 b4,wrv b1 b4] h8 (fun w6 h9=>?_)
 refine Xm<|Ab<|Rt ?_
 obtain ⟨F1,ha,hf,f4⟩:=h9.fc1
 obtain ⟨F2,hb,hc,f3⟩:=ha.fc1
 obtain ⟨F3,he,h1,f2⟩:=hb.fc1
 obtain ⟨F4,h2,h0,f1⟩:=he.fc1
 exact ⟨rfl,(.agg #[rdv b1 b2 b3 b4,wrv b1 b4]),AR (l:=[.cell 8 109]) (by kernel_rfl) (vs:=[(.agg #[rdv b1 b2 b3 b4,wrv b1 b4])]) ⟨b5,0,rfl,Am (t:=109) (g:=true) (s:=2) (by kernel_rfl) h2.at0 rfl (by decide),trivial⟩,(.agg #[rdv b1 b2 b3 b4,wrv b1 b4]),F4,rfl,h2.clear,b1,b2,b3,b4,rfl,f1,h0 _ _ f2,h0 _ _ (h1 _ _ f3),h0 _ _ (h1 _ _ (hc _ _ f4))⟩
theorem ER:Aj Tryz.prog 89:=fun _ _=>by kernel_rfl
set_option maxRecDepth 100000 in
theorem Fu (w0:World) (F0:Mem) (hF:XN w0 F0):Calls Tryz.prog 89 ([]:List Value).toArray w0 (AA w0 F0 fun F' v=>∃ (b1 b2 b3 b4 b5 b6 b7 b8 b9 h1 h2 h0:Nat),v=.agg #[fcv 153,fcv 154,rdv b1 b2 b3 b4,wrv b1 b4,rdv b5 b6 b7 b8,wrv b5 b8,rdv b9 h1 h2 h0,wrv b9 h0,fcv 159,fcv 160]/\F' b1=some (.cells #[(.string ⟨([67,65,84,69,71,79,82,89]:XL).toArray⟩)] 9 (0,0))/\F' b2=some (.cells #[.int .i64 1] 3 (0,0))/\F' b3=some (.cells #[.int .i64 9] 3 (0,0))/\F' b4=some (.cells #[fcv 156] 195 (0,0))/\F' b5=some (.cells #[(.string ⟨([80,79,87,69,82]:XL).toArray⟩)] 9 (0,0))/\F' b6=some (.cells #[.int .i64 1] 3 (0,0))/\F' b7=some (.cells #[.int .i64 9999] 3 (0,0))/\F' b8=some (.cells #[fcv 157] 195 (0,0))/\F' b9=some (.cells #[(.string ⟨([67,76,65,73,77,69,68]:XL).toArray⟩)] 9 (0,0))/\F' h1=some (.cells #[.int .i64 0] 3 (0,0))/\F' h2=some (.cells #[.int .i64 1000000] 3 (0,0))/\F' h0=some (.cells #[fcv 158] 195 (0,0))):=by
 have h9:=Xs hF
 refine Go 7 Tryz.func89<|Sq<|Rg [0]<|Al' 110 #[.nilFunc,.nilFunc,.nilFunc,.nilFunc,.nilFunc,.nilFunc,.nilFunc,.nilFunc,.nilFunc,.nilFunc] h9 (fun b0 w1 h5=>?_)
 refine Xm<|Ab<|Sq<|Rg [0,1,2,3,4,5,6]<|Vs 1<|Cl' Fg h5 (FM w1 F0 h5.pers [67,65,84,69,71,79,82,89] 1 9 156) ?_
 rintro _ F1 w2 h6 hf ⟨b1,b2,b3,b4,rfl,f1,f2,f3,f4⟩
 refine Cl' Fg h6 (FM w2 F1 h6.pers [80,79,87,69,82] 1 9999 157) ?_
 rintro _ F2 w3 h7 h4 ⟨b5,b6,b7,b8,rfl,f5,f6,f7,f8⟩
 refine Cl' Fg h7 (FM w3 F2 h7.pers [67,76,65,73,77,69,68] 0 1000000 158) ?_
 rintro _ F3 w4 ha h3 ⟨b9,h1,h2,h0,rfl,f9,hb,hc,he⟩
 refine Vs 1<|V 6 110 (Jw (t:=110) (parts:=#[(0,.tmp 1),(1,.tmp 2),(2,.tmp 3),(3,.tmp 4),(4,.tmp 5)]) (vs:=[(0,.agg #[fcv 153,fcv 154]),(1,.agg #[rdv b1 b2 b3 b4,wrv b1 b4]),(2,.agg #[rdv b5 b6 b7 b8,wrv b5 b8]),(3,.agg #[rdv b9 h1 h2 h0,wrv b9 h0]),(4,.agg #[fcv 159,fcv 160])]) rfl (cs:=[fcv 153,fcv 154,rdv b1 b2 b3 b4,wrv b1 b4,rdv b5 b6 b7 b8,wrv b5 b8,rdv b9 h1 h2 h0,wrv b9 h0,fcv 159,fcv 160]) (by kernel_rfl))<|St0 #[fcv 153,fcv 154,rdv b1 b2 b3 b4,wrv b1 b4,rdv b5 b6 b7 b8,wrv b5 b8,rdv b9 h1 h2 h0,wrv b9 h0,fcv 159,fcv 160] ha (fun w5 h8=>?_)
 refine Xm<|Ab<|Rt ?_
 exact ⟨rfl,(.agg #[fcv 153,fcv 154,rdv b1 b2 b3 b4,wrv b1 b4,rdv b5 b6 b7 b8,wrv b5 b8,rdv b9 h1 h2 h0,wrv b9 h0,fcv 159,fcv 160]),AR (l:=[.cell 0 110]) (by kernel_rfl) (vs:=[(.agg #[fcv 153,fcv 154,rdv b1 b2 b3 b4,wrv b1 b4,rdv b5 b6 b7 b8,wrv b5 b8,rdv b9 h1 h2 h0,wrv b9 h0,fcv 159,fcv 160])]) ⟨b0,0,rfl,Am (t:=110) (g:=true) (s:=10) (by kernel_rfl) h8.at0 rfl (by decide),trivial⟩,(.agg #[fcv 153,fcv 154,rdv b1 b2 b3 b4,wrv b1 b4,rdv b5 b6 b7 b8,wrv b5 b8,rdv b9 h1 h2 h0,wrv b9 h0,fcv 159,fcv 160]),F3,rfl,h8.clear,b1,b2,b3,b4,b5,b6,b7,b8,b9,h1,h2,h0,rfl,h3 _ _ (h4 _ _ f1),h3 _ _ (h4 _ _ f2),h3 _ _ (h4 _ _ f3),h3 _ _ (h4 _ _ f4),h3 _ _ f5,h3 _ _ f6,h3 _ _ f7,h3 _ _ f8,f9,hb,hc,he⟩
def Gw (N:Nat) (x0:Ac) (x1:Log) (h5:(Int×Int)) (h6 h7 h8 h9 ha hb hc he hf hg hh hl hm hn ho:XL):(Int×XL)->Option (BC (XL×Int) (Int×XL)):=fun h0=>
 (bif (decide (h0.1 < (x1.Lines.length:Int))) then ((idx x1.Lines h0.1).bind fun h1=>((CE N ({Report:=x0.Report,Serial:=x0.Serial,Zone:=x0.Zone}:Ac) h1).bind fun h2=>((Cv h2.1 ([10]:XL)).bind fun h3=>((FO h0.2 h3).bind fun h4=>some (.next ((W64 (h0.1 + 1)),h4)))))) else some (.done (h0.1,h0.2)))
def FH (N:Nat) (x0:Ac) (x1:Log):Option (XL×Int):=
 ((D6 N ({Report:=x0.Report,Serial:=x0.Serial,Zone:=x0.Zone}:Ac) x1).bind fun h0=>(bif (h0.1 !=0) then some (([]:XL),h0.1) else ((Fo N x1).bind fun h1=>((Cv h1 ([10]:XL)).bind fun h2=>((FO ([]:XL) h2).bind fun h3=>((DB N x1 ([67,65,84,69,71,79,82,89]:XL)).bind fun h4=>((Cv h4 ([10]:XL)).bind fun h5=>((FO h3 h5).bind fun h6=>((Dz N x1 ([80,79,87,69,82]:XL)).bind fun h7=>((Cv h7 ([10]:XL)).bind fun h8=>((FO h6 h8).bind fun h9=>((DA N x1 ([67,76,65,73,77,69,68]:XL)).bind fun ha=>((Cv ha ([10]:XL)).bind fun hb=>((FO h9 hb).bind fun hc=>((D0 N x1).bind fun he=>((Cv he ([10]:XL)).bind fun hf=>((FO hc hf).bind fun hg=>((AU (Gw N x0 x1 h0 h1 h2 h3 h4 h5 h6 h7 h8 h9 ha hb hc he hf hg) N (0,hg)).bind fun o=>o.k (fun r=>some r) (fun hh=>((FO hh.2 ([69,78,68,10]:XL)).bind fun hl=>some (hl,0)))))))))))))))))))))
theorem Jo:Aj Tryz.prog 29:=fun _ _=>by kernel_rfl
theorem KE (N:Nat) (w0:World) (F0:Mem) (hF:XN w0 F0) (hG:BB F0) (x0:Ac) (x1:Log) (h9:XM) (ha:Nat) (hz:LC x1.Jumps.length ha) (b0:SlA AE F0 h9 x1.Jumps) (h6:XM) (h7:Nat) (b1:LC x1.Lines.length h7) (hx:SlA AD F0 h6 x1.Lines) (r:(XL×Int)) (h:FH N x0 x1=some r):
  Calls Tryz.prog 29 ([(.agg (Al x0)),(.agg (AL x1 h9 ha h6 h7))]:List Value).toArray w0 (AA w0 F0 fun F' v=>v=(.tuple #[(sv r.1),(vi r.2)])):=by
 have cg:=Xs hF
 refine Go 54 Tryz.func29<|Sq (Rg (rG 4) ?_)
 refine Bx' 23 (Al x0) cg (fun hg ij ch=>?_)
 refine Bx' 27 (AL x1 h9 ha h6 h7) ch (fun hp ci b6=>?_)
 refine Vs 2<|Nss<|Sq (Rg (rG 8) ?_)
 refine Ld b6.at1<|Ld b6.at0 ?_
 obtain ⟨bo,cj,cl⟩:=bS h
 refine Cl' GF b6 (Ht N ci F0 b6.pers hG (({Report:=x0.Report,Serial:=x0.Serial,Zone:=x0.Zone}:Ac)) x1 h9 ha hz b0 h6 h7 b1 hx _ cj) ?_
 rintro _ F1 ik bp he rfl
 refine Vs 5<|Nss (Rg [0,1] ?_)
 refine Vs 2<|Nt<|Cd cl (fun cm cn=>?_) (fun cm co=>?_)
 ·refine Sq (Rg [0,1,2] ?_)
  refine Vs 3<|Nt<|Rt<|Af ?_
  obtain rfl:=Aa cn
  exact Re [(sv (([]:XL))),(vi bo.1)] bp rfl
 ·refine Sc ?_
  refine Ab<|Sq (Rg [0] ?_)
  refine Al' 105 #[.pointer none,.slice none 0 0] bp (fun b7 bq cp=>?_)
  obtain ⟨cq,cr,hJ43⟩:=Fe.new cp
  have br:HS w0 F0 bq F1 ((sb hp (AL x1 h9 ha h6 h7) 27)::(sb hg (Al x0) 23)::cq):=cr
  refine Nss<|Sq (Rg [0,1] ?_)
  refine Cl' ER br (Fu bq F1 br.pers) ?_
  rintro _ F2 io ct hc ⟨h0,hh,hl,h1,h2,hn,ho,h3,h4,hq,hr,h5,rfl,cu,ip,iq,cv,cw,ir,it,cx,cy,iu,iv,cz⟩
  refine Vs 1<|Nt<|Bk<|CWP.unroll (by kernel_rfl) 6<|URL.step<|Sq (Rg [0] ?_)
  refine Vs 1<|Nss<|C1 (rfl:true=true)<|Sc<|Ab<|Sq<|Bk<|Sq (Rg [0,1,2] ?_)
  refine V 27 109 (GM (t:=110) (E:=109) (len:=5) (s:=2) (x:=(.tmp 24)) (y:=(.tmp 25)) (k:=.i64) (i:=0) (cs:=[(fV 153 #[]),(fV 154 #[]),(fV 190 #[(pt h0 0),(pt hh 0),(pt hl 0),(pt h1 0)]),(fV 191 #[(pt h0 0),(pt h1 0)]),(fV 190 #[(pt h2 0),(pt hn 0),(pt ho 0),(pt h3 0)]),(fV 191 #[(pt h2 0),(pt h3 0)]),(fV 190 #[(pt h4 0),(pt hq 0),(pt hr 0),(pt h5 0)]),(fV 191 #[(pt h4 0),(pt h5 0)]),(fV 159 #[]),(fV 160 #[])]) (C:=[(fV 153 #[]),(fV 154 #[])]) rfl rfl (by kernel_rfl) (by kernel_rfl) (by decide) rfl rfl)<|Al' 109 #[.nilFunc,.nilFunc] ct (fun hu iw d0=>?_)
  refine St0 #[(fV 153 #[]),(fV 154 #[])] d0 (fun d1 b8=>?_)
  refine Nt<|Rg (rG 6)<|Vs 1<|Ld b8.at0<|Ld b8.at1 ?_
  obtain ⟨bs,d2,d3⟩:=bS co
  refine Cl' Ma b8 (NB N d1 F2 b8.pers x1 h9 ha hz (Xt b0 (he.t hc)) h6 h7 b1 (Xt hx (he.t hc)) _ d2) ?_
  rintro _ F3 iy d4 h8 rfl
  obtain ⟨bt,d6,d7⟩:=bS d3
  refine V 32 9 (AO (t:=9) (t':=9) (x:=(.tmp 31)) (y:=(.const (sv ([10]:XL)))) (a:=bs) (b:=([10]:XL)) (v:=bt) rfl rfl d6) ?_
  obtain ⟨d8,d9,da⟩:=bS d7
  refine CB Bq (DV (L:=[(sb hu #[(fV 153 #[]),(fV 154 #[])] 109),(sb hp (AL x1 h9 ha h6 h7) 27),(sb hg (Al x0) 23)]) d9 (Fe.mono _ _ _ _ hJ43 (hc.t h8)) d4) ?_
  rintro _ F4 db _ dc hb ⟨rfl,dd,rfl,hJ72⟩
  have de:HS w0 F0 db F4 ((sb hu #[(fV 153 #[]),(fV 154 #[])] 109)::(sb hp (AL x1 h9 ha h6 h7) 27)::(sb hg (Al x0) 23)::dd):=dc
  refine Xm<|Av<|Ab<|Rg [0,1]<|Vs 2<|Nt<|URL.step<|Sq (Rg [0] ?_)
  refine Vs 1<|Nss<|C1 (rfl:true=true)<|Sc<|Ab<|Sq<|Bk<|Sq (Rg [0,1,2] ?_)
  refine V 27 109 (GM (t:=110) (E:=109) (len:=5) (s:=2) (x:=(.tmp 24)) (y:=(.tmp 25)) (k:=.i64) (i:=1) (cs:=[(fV 153 #[]),(fV 154 #[]),(fV 190 #[(pt h0 0),(pt hh 0),(pt hl 0),(pt h1 0)]),(fV 191 #[(pt h0 0),(pt h1 0)]),(fV 190 #[(pt h2 0),(pt hn 0),(pt ho 0),(pt h3 0)]),(fV 191 #[(pt h2 0),(pt h3 0)]),(fV 190 #[(pt h4 0),(pt hq 0),(pt hr 0),(pt h5 0)]),(fV 191 #[(pt h4 0),(pt h5 0)]),(fV 159 #[]),(fV 160 #[])]) (C:=[(fV 190 #[(pt h0 0),(pt hh 0),(pt hl 0),(pt h1 0)]),(fV 191 #[(pt h0 0),(pt h1 0)])]) rfl rfl (by kernel_rfl) (by kernel_rfl) (by decide) rfl rfl)<|Al' 109 #[.nilFunc,.nilFunc] de (fun hw iz df=>?_)
  refine St0 #[(fV 190 #[(pt h0 0),(pt hh 0),(pt hl 0),(pt h1 0)]),(fV 191 #[(pt h0 0),(pt h1 0)])] df (fun dg b9=>?_)
  refine Nt<|Rg (rG 6)<|Vs 1<|Ld b9.at0<|Ld b9.at2 ?_
  obtain ⟨bu,dh,di⟩:=bS da
  refine Cl' I4 b9 (JM N dg F4 b9.pers (hG.mono (((he.t hc).trans h8).trans hb)) x1 h9 ha hz (Xt b0 (((he.t hc).trans h8).trans hb)) h6 h7 b1 (Xt hx (((he.t hc).trans h8).trans hb)) h0 ([67,65,84,69,71,79,82,89]:XL) ((h8.t hb) _ _ cu) h1 ((h8.t hb) _ _ cv) _ dh) ?_
  rintro _ F5 j0 dj hf rfl
  obtain ⟨bv,dk,dl⟩:=bS di
  refine V 32 9 (AO (t:=9) (t':=9) (x:=(.tmp 31)) (y:=(.const (sv ([10]:XL)))) (a:=bu) (b:=([10]:XL)) (v:=bv) rfl rfl dk) ?_
  obtain ⟨dm,dn,dp⟩:=bS dl
  refine CB Bq (DV (L:=[(sb hw #[(fV 190 #[(pt h0 0),(pt hh 0),(pt hl 0),(pt h1 0)]),(fV 191 #[(pt h0 0),(pt h1 0)])] 109),(sb hu #[(fV 153 #[]),(fV 154 #[])] 109),(sb hp (AL x1 h9 ha h6 h7) 27),(sb hg (Al x0) 23)]) dn (Fe.mono _ _ _ _ hJ72 hf) dj) ?_
  rintro _ F6 dq _ dr hm ⟨rfl,ds,rfl,hJ97⟩
  have dt:HS w0 F0 dq F6 ((sb hw #[(fV 190 #[(pt h0 0),(pt hh 0),(pt hl 0),(pt h1 0)]),(fV 191 #[(pt h0 0),(pt h1 0)])] 109)::(sb hu #[(fV 153 #[]),(fV 154 #[])] 109)::(sb hp (AL x1 h9 ha h6 h7) 27)::(sb hg (Al x0) 23)::ds):=dr
  refine Xm<|Av<|Ab<|Rg [0,1]<|Vs 2<|Nt<|URL.step<|Sq (Rg [0] ?_)
  refine Vs 1<|Nss<|C1 (rfl:true=true)<|Sc<|Ab<|Sq<|Bk<|Sq (Rg [0,1,2] ?_)
  refine V 27 109 (GM (t:=110) (E:=109) (len:=5) (s:=2) (x:=(.tmp 24)) (y:=(.tmp 25)) (k:=.i64) (i:=2) (cs:=[(fV 153 #[]),(fV 154 #[]),(fV 190 #[(pt h0 0),(pt hh 0),(pt hl 0),(pt h1 0)]),(fV 191 #[(pt h0 0),(pt h1 0)]),(fV 190 #[(pt h2 0),(pt hn 0),(pt ho 0),(pt h3 0)]),(fV 191 #[(pt h2 0),(pt h3 0)]),(fV 190 #[(pt h4 0),(pt hq 0),(pt hr 0),(pt h5 0)]),(fV 191 #[(pt h4 0),(pt h5 0)]),(fV 159 #[]),(fV 160 #[])]) (C:=[(fV 190 #[(pt h2 0),(pt hn 0),(pt ho 0),(pt h3 0)]),(fV 191 #[(pt h2 0),(pt h3 0)])]) rfl rfl (by kernel_rfl) (by kernel_rfl) (by decide) rfl rfl)<|Al' 109 #[.nilFunc,.nilFunc] dt (fun b2 j1 du=>?_)
  refine St0 #[(fV 190 #[(pt h2 0),(pt hn 0),(pt ho 0),(pt h3 0)]),(fV 191 #[(pt h2 0),(pt h3 0)])] du (fun dv ba=>?_)
  refine Nt<|Rg (rG 6)<|Vs 1<|Ld ba.at0<|Ld ba.at3 ?_
  obtain ⟨bw,dw,dx⟩:=bS dp
  refine Cl' I2 ba (JK N dv F6 ba.pers (hG.mono (((((he.t hc).trans h8).trans hb).trans hf).trans hm)) x1 h9 ha hz (Xt b0 (((((he.t hc).trans h8).trans hb).trans hf).trans hm)) h6 h7 b1 (Xt hx (((((he.t hc).trans h8).trans hb).trans hf).trans hm)) h2 ([80,79,87,69,82]:XL) ((((h8.t hb).trans hf).trans hm) _ _ cw) h3 ((((h8.t hb).trans hf).trans hm) _ _ cx) _ dw) ?_
  rintro _ F7 j2 dy ht rfl
  obtain ⟨bx,dz,e0⟩:=bS dx
  refine V 32 9 (AO (t:=9) (t':=9) (x:=(.tmp 31)) (y:=(.const (sv ([10]:XL)))) (a:=bw) (b:=([10]:XL)) (v:=bx) rfl rfl dz) ?_
  obtain ⟨e1,e2,e3⟩:=bS e0
  refine CB Bq (DV (L:=[(sb b2 #[(fV 190 #[(pt h2 0),(pt hn 0),(pt ho 0),(pt h3 0)]),(fV 191 #[(pt h2 0),(pt h3 0)])] 109),(sb hw #[(fV 190 #[(pt h0 0),(pt hh 0),(pt hl 0),(pt h1 0)]),(fV 191 #[(pt h0 0),(pt h1 0)])] 109),(sb hu #[(fV 153 #[]),(fV 154 #[])] 109),(sb hp (AL x1 h9 ha h6 h7) 27),(sb hg (Al x0) 23)]) e2 (Fe.mono _ _ _ _ hJ97 ht) dy) ?_
  rintro _ F8 e4 _ e6 hv ⟨rfl,e7,rfl,hJ122⟩
  have e8:HS w0 F0 e4 F8 ((sb b2 #[(fV 190 #[(pt h2 0),(pt hn 0),(pt ho 0),(pt h3 0)]),(fV 191 #[(pt h2 0),(pt h3 0)])] 109)::(sb hw #[(fV 190 #[(pt h0 0),(pt hh 0),(pt hl 0),(pt h1 0)]),(fV 191 #[(pt h0 0),(pt h1 0)])] 109)::(sb hu #[(fV 153 #[]),(fV 154 #[])] 109)::(sb hp (AL x1 h9 ha h6 h7) 27)::(sb hg (Al x0) 23)::e7):=e6
  refine Xm<|Av<|Ab<|Rg [0,1]<|Vs 2<|Nt<|URL.step<|Sq (Rg [0] ?_)
  refine Vs 1<|Nss<|C1 (rfl:true=true)<|Sc<|Ab<|Sq<|Bk<|Sq (Rg [0,1,2] ?_)
  refine V 27 109 (GM (t:=110) (E:=109) (len:=5) (s:=2) (x:=(.tmp 24)) (y:=(.tmp 25)) (k:=.i64) (i:=3) (cs:=[(fV 153 #[]),(fV 154 #[]),(fV 190 #[(pt h0 0),(pt hh 0),(pt hl 0),(pt h1 0)]),(fV 191 #[(pt h0 0),(pt h1 0)]),(fV 190 #[(pt h2 0),(pt hn 0),(pt ho 0),(pt h3 0)]),(fV 191 #[(pt h2 0),(pt h3 0)]),(fV 190 #[(pt h4 0),(pt hq 0),(pt hr 0),(pt h5 0)]),(fV 191 #[(pt h4 0),(pt h5 0)]),(fV 159 #[]),(fV 160 #[])]) (C:=[(fV 190 #[(pt h4 0),(pt hq 0),(pt hr 0),(pt h5 0)]),(fV 191 #[(pt h4 0),(pt h5 0)])]) rfl rfl (by kernel_rfl) (by kernel_rfl) (by decide) rfl rfl)<|Al' 109 #[.nilFunc,.nilFunc] e8 (fun bb j3 e9=>?_)
  refine St0 #[(fV 190 #[(pt h4 0),(pt hq 0),(pt hr 0),(pt h5 0)]),(fV 191 #[(pt h4 0),(pt h5 0)])] e9 (fun ea bc=>?_)
  refine Nt<|Rg (rG 6)<|Vs 1<|Ld bc.at0<|Ld bc.at4 ?_
  obtain ⟨bz,eb,ec⟩:=bS e3
  refine Cl' I3 bc (JL N ea F8 bc.pers (hG.mono (((((((he.t hc).trans h8).trans hb).trans hf).trans hm).trans ht).trans hv)) x1 h9 ha hz (Xt b0 (((((((he.t hc).trans h8).trans hb).trans hf).trans hm).trans ht).trans hv)) h6 h7 b1 (Xt hx (((((((he.t hc).trans h8).trans hb).trans hf).trans hm).trans ht).trans hv)) h4 ([67,76,65,73,77,69,68]:XL) ((((((h8.t hb).trans hf).trans hm).trans ht).trans hv) _ _ cy) h5 ((((((h8.t hb).trans hf).trans hm).trans ht).trans hv) _ _ cz) _ eb) ?_
  rintro _ F9 j4 ed b3 rfl
  obtain ⟨c0,ee,ef⟩:=bS ec
  refine V 32 9 (AO (t:=9) (t':=9) (x:=(.tmp 31)) (y:=(.const (sv ([10]:XL)))) (a:=bz) (b:=([10]:XL)) (v:=c0) rfl rfl ee) ?_
  obtain ⟨eg,eh,ei⟩:=bS ef
  refine CB Bq (DV (L:=[(sb bb #[(fV 190 #[(pt h4 0),(pt hq 0),(pt hr 0),(pt h5 0)]),(fV 191 #[(pt h4 0),(pt h5 0)])] 109),(sb b2 #[(fV 190 #[(pt h2 0),(pt hn 0),(pt ho 0),(pt h3 0)]),(fV 191 #[(pt h2 0),(pt h3 0)])] 109),(sb hw #[(fV 190 #[(pt h0 0),(pt hh 0),(pt hl 0),(pt h1 0)]),(fV 191 #[(pt h0 0),(pt h1 0)])] 109),(sb hu #[(fV 153 #[]),(fV 154 #[])] 109),(sb hp (AL x1 h9 ha h6 h7) 27),(sb hg (Al x0) 23)]) eh (Fe.mono _ _ _ _ hJ122 b3) ed) ?_
  rintro _ c1 ej _ ek b5 ⟨rfl,el,rfl,hJ147⟩
  have en:HS w0 F0 ej c1 ((sb bb #[(fV 190 #[(pt h4 0),(pt hq 0),(pt hr 0),(pt h5 0)]),(fV 191 #[(pt h4 0),(pt h5 0)])] 109)::(sb b2 #[(fV 190 #[(pt h2 0),(pt hn 0),(pt ho 0),(pt h3 0)]),(fV 191 #[(pt h2 0),(pt h3 0)])] 109)::(sb hw #[(fV 190 #[(pt h0 0),(pt hh 0),(pt hl 0),(pt h1 0)]),(fV 191 #[(pt h0 0),(pt h1 0)])] 109)::(sb hu #[(fV 153 #[]),(fV 154 #[])] 109)::(sb hp (AL x1 h9 ha h6 h7) 27)::(sb hg (Al x0) 23)::el):=ek
  refine Xm<|Av<|Ab<|Rg [0,1]<|Vs 2<|Nt<|URL.step<|Sq (Rg [0] ?_)
  refine Vs 1<|Nss<|C1 (rfl:true=true)<|Sc<|Ab<|Sq<|Bk<|Sq (Rg [0,1,2] ?_)
  refine V 27 109 (GM (t:=110) (E:=109) (len:=5) (s:=2) (x:=(.tmp 24)) (y:=(.tmp 25)) (k:=.i64) (i:=4) (cs:=[(fV 153 #[]),(fV 154 #[]),(fV 190 #[(pt h0 0),(pt hh 0),(pt hl 0),(pt h1 0)]),(fV 191 #[(pt h0 0),(pt h1 0)]),(fV 190 #[(pt h2 0),(pt hn 0),(pt ho 0),(pt h3 0)]),(fV 191 #[(pt h2 0),(pt h3 0)]),(fV 190 #[(pt h4 0),(pt hq 0),(pt hr 0),(pt h5 0)]),(fV 191 #[(pt h4 0),(pt h5 0)]),(fV 159 #[]),(fV 160 #[])]) (C:=[(fV 159 #[]),(fV 160 #[])]) rfl rfl (by kernel_rfl) (by kernel_rfl) (by decide) rfl rfl)<|Al' 109 #[.nilFunc,.nilFunc] en (fun c3 j5 eo=>?_)
  refine St0 #[(fV 159 #[]),(fV 160 #[])] eo (fun ep bd=>?_)
  refine Nt<|Rg (rG 6)<|Vs 1<|Ld bd.at0<|Ld bd.at5 ?_
  obtain ⟨c4,er,et⟩:=bS ei
  refine Cl' JH bd (KA N ep c1 bd.pers (hG.mono (((((((((he.t hc).trans h8).trans hb).trans hf).trans hm).trans ht).trans hv).trans b3).trans b5)) x1 h9 ha hz (Xt b0 (((((((((he.t hc).trans h8).trans hb).trans hf).trans hm).trans ht).trans hv).trans b3).trans b5)) h6 h7 b1 (Xt hx (((((((((he.t hc).trans h8).trans hb).trans hf).trans hm).trans ht).trans hv).trans b3).trans b5)) _ er) ?_
  rintro _ j6 j7 eu bk rfl
  obtain ⟨c5,ev,ew⟩:=bS et
  refine V 32 9 (AO (t:=9) (t':=9) (x:=(.tmp 31)) (y:=(.const (sv ([10]:XL)))) (a:=c4) (b:=([10]:XL)) (v:=c5) rfl rfl ev) ?_
  obtain ⟨c6,ex,ey⟩:=bS ew
  refine CB Bq (DV (L:=[(sb c3 #[(fV 159 #[]),(fV 160 #[])] 109),(sb bb #[(fV 190 #[(pt h4 0),(pt hq 0),(pt hr 0),(pt h5 0)]),(fV 191 #[(pt h4 0),(pt h5 0)])] 109),(sb b2 #[(fV 190 #[(pt h2 0),(pt hn 0),(pt ho 0),(pt h3 0)]),(fV 191 #[(pt h2 0),(pt h3 0)])] 109),(sb hw #[(fV 190 #[(pt h0 0),(pt hh 0),(pt hl 0),(pt h1 0)]),(fV 191 #[(pt h0 0),(pt h1 0)])] 109),(sb hu #[(fV 153 #[]),(fV 154 #[])] 109),(sb hp (AL x1 h9 ha h6 h7) 27),(sb hg (Al x0) 23)]) ex (Fe.mono _ _ _ _ hJ147 bk) eu) ?_
  rintro _ be ez _ g0 c7 ⟨rfl,c8,rfl,hJ172⟩
  have c9:HS w0 F0 ez be ((sb c3 #[(fV 159 #[]),(fV 160 #[])] 109)::(sb bb #[(fV 190 #[(pt h4 0),(pt hq 0),(pt hr 0),(pt h5 0)]),(fV 191 #[(pt h4 0),(pt h5 0)])] 109)::(sb b2 #[(fV 190 #[(pt h2 0),(pt hn 0),(pt ho 0),(pt h3 0)]),(fV 191 #[(pt h2 0),(pt h3 0)])] 109)::(sb hw #[(fV 190 #[(pt h0 0),(pt hh 0),(pt hl 0),(pt h1 0)]),(fV 191 #[(pt h0 0),(pt h1 0)])] 109)::(sb hu #[(fV 153 #[]),(fV 154 #[])] 109)::(sb hp (AL x1 h9 ha h6 h7) 27)::(sb hg (Al x0) 23)::c8):=g0
  refine Xm<|Av<|Ab<|Rg [0,1]<|Vs 2<|Nt<|URL.step<|Sq (Rg [0] ?_)
  refine Vs 1<|Nss<|C0 (rfl:false=false)<|Ex<|Au<|Au<|AB rfl<|Ab<|Sq<|Sq (Rg (rG 4) ?_)
  refine Vs 1<|Ld c9.at5<|Vs 2<|Nt ?_
  have g1:=c9.dr0.dr0.dr0.dr0.dr0
  obtain ⟨ca,g2,g3⟩:=bS ey
  refine Xx (fun f w=>∃ (bl:(Int×XL)) (bf:Mem) (bm:Own),ca=.done bl/\HS w0 F0 w bf bm/\Xq be bf/\FI f [] [(8,(pt b7 0))]/\Fe b7 bl.2 bf bm) ?_ ?_
  ·refine Bk ?_
   refine Xp (by kernel_rfl) (fun m f w=>∃ (hy:(Int×XL)) (b4:Mem) (bg:Own),AU (Gw N x0 x1 bo bs bt d8 bu bv dm bw bx e1 bz c0 eg c4 c5 c6) m hy=some ca/\HS w0 F0 w b4 ((sb hg (Al x0) 23)::bg)/\Xq be b4/\FI f [] [(2,(pt hg 0)),(8,(pt b7 0)),(36,(sL h6 x1.Lines h7)),(37,(vi (x1.Lines.length:Int))),(38,(vi hy.1))]/\Fe b7 hy.2 b4 bg) N ⟨(0,c6),be,c8,g2,g1.dr0,(Xr _),fI,hJ172⟩ ?_
   rintro j8 f j9 ⟨hy,b4,bg,g4,bn,bh,⟨_,rfl⟩,hJ183⟩
   obtain ⟨g5,ja,rfl,g6,cb⟩:=AV g4
   refine Sq (Rg [0] ?_)
   refine Vs 1<|Nss<|Cd g6 (fun g7 g8=>?_) (fun g7 g9=>?_)
   ·refine Sc ?_
    refine Ab<|Sq<|Bk<|Sq (Rg (rG 4) ?_)
    obtain ⟨bi,ga,gh⟩:=bS g8
    obtain ⟨gi,hx208'⟩:=Ap ga
    obtain ⟨jb,jc,jd,je,jf,rfl,hF217,hE218⟩:=Xy (Xt hx ((((((((((((he.t hc).trans h8).trans hb).trans hf).trans hm).trans ht).trans hv).trans b3).trans b5).trans bk).trans c7).trans bh)) hx208'
    have gk:=hE218 _ _ hx208'
    refine Ix gi<|Lx 0 (bn.pers _ _ hF217) gk<|Al' 34 #[(vi 0),(vi 0),(vi 0),(vi 0),(sv (([]:XL))),(vi 0),(vi 0),(vi 0),(vi 0),(vi 0),(vi 0)] bn (fun cc jg gl=>?_)
    refine St0 (Cn bi) gl (fun gm bj=>?_)
    refine Nss (Rg (rG 8) ?_)
    refine Ld bj.at1<|Ld bj.at0 ?_
    obtain ⟨gn,go,gp⟩:=bS gh
    refine Cl' Gp bj (GZ N gm b4 bj.pers (hG.mono ((((((((((((he.t hc).trans h8).trans hb).trans hf).trans hm).trans ht).trans hv).trans b3).trans b5).trans bk).trans c7).trans bh)) (({Report:=x0.Report,Serial:=x0.Serial,Zone:=x0.Zone}:Ac)) bi _ go) ?_
    rintro _ jh ji gr cd rfl
    refine Vs 5<|Nt<|Rg [0,1,2]<|Vs 1 ?_
    obtain ⟨gs,gu,gv⟩:=bS gp
    refine V 49 9 (AO (t:=9) (t':=9) (x:=(.tmp 48)) (y:=(.const (sv ([10]:XL)))) (a:=gn.1) (b:=([10]:XL)) (v:=gs) rfl rfl gu) ?_
    obtain ⟨gw,gx,gy⟩:=bS gv
    refine CB Bq (DV (L:=[(sb cc (Cn bi) 34),(sb hg (Al x0) 23)]) gx (Fe.mono _ _ _ _ hJ183 cd) gr) ?_
    rintro _ ce gz _ i0 i1 ⟨rfl,cf,rfl,hJ244⟩
    have i2:HS w0 F0 gz ce ((sb cc (Cn bi) 34)::(sb hg (Al x0) 23)::cf):=i0
    refine Xm<|Av<|Ab<|Rg [0,1]<|Vs 2<|Xm ?_
    have i3:=AW gy cb
    exact ⟨g5,Nat.lt_succ_self _,((W64 (hy.1 + 1)),gw),ce,cf,i3,i2.dr0,((bh.t cd).trans i1),fI,hJ244⟩
   ·refine Ex ?_
    refine Au<|Au<|AB rfl ?_
    have i4:=AX g9 cb
    exact .inl ⟨rfl,(hy.1,hy.2),b4,bg,i4,bn.dr0,bh,fI,hJ183⟩
  ·rintro f jj ⟨bl,bf,bm,rfl,i5,jk,⟨_,rfl⟩,hJ195⟩
   have i6:=BX g3
   refine Ab<|Sq (Rg [0] ?_)
   obtain ⟨i7,i8,i9⟩:=bS i6
   refine CB Bq (DV (L:=[]) i8 hJ195 i5) ?_
   rintro _ ia ib ic ie jl ⟨rfl,_,rfl,hJ256⟩
   have ig:HS w0 F0 ib ia ic:=ie
   refine Nss (Rg [0,1,2] ?_)
   refine CB Nq (Oq (L:=[]) hJ256 ig) ?_
   rintro _ _ jm _ ii _ ⟨rfl,rfl,rfl⟩
   refine Vs 2<|Nt<|Rt ?_
   obtain rfl:=Aa i9
   exact Re [(sv i7),(vi 0)] ii rfl
def AF (N:Nat) (x0:XL):Option (Int×Bool):=
 ((B0 N x0).bind fun h0=>((bif (!h0.2) then ((strconv_Itoa N h0.1).bind fun h1=>some (h1==x0)) else some false).bind fun h2=>some (h0.1,h2)))
theorem Bf:Aj Tryz.prog 95:=fun _ _=>by kernel_rfl
theorem Br (N:Nat) (w0:World) (F0:Mem) (hF:XN w0 F0) (hG:BB F0) (x0:XL) (r:(Int×Bool)) (h:AF N x0=some r):
  Calls Tryz.prog 95 ([(sv x0)]:List Value).toArray w0 (AA w0 F0 fun F' v=>v=(.tuple #[(vi r.1),(.bool r.2)])):=by
 have h3:=Xs hF
 refine Go 20 Tryz.func95<|Sq (Rg [0,1] ?_)
 refine Vs 2<|Nss (Rg (rG 7) ?_)
 refine Vs 1 ?_
 obtain ⟨h1,h5,h6⟩:=bS h
 refine Cl' HE h3 (Iz N w0 F0 h3.pers hG x0 _ h5) ?_
 rintro _ F1 h7 h2 h8 ⟨hn,rfl,h9⟩
 refine Vs 5<|Nss (Rg (rG 11) ?_)
 obtain ⟨h4,ha,hb⟩:=bS h6
 refine Xw (fun f w=>∃ (F2:Mem),HS w0 F0 w F2 []/\Xq F1 F2/\FI f [] [(2,(vi h1.1)),(3,(.bool h4))]) ?_ ?_
 ·refine Vs 2 ?_
  refine V 13 4 (QH (t:=113) (t':=113) (x:=(.tmp 12)) (c:=.nilIface) h9 rfl rfl (by kernel_rfl))<|Vs 1<|Sp ha (fun h0 hc=>?_) (fun h0 he=>?_)
  ·refine Vgs h0 1 ?_
   obtain ⟨ho,hf,hg⟩:=bS hc
   refine Cg h0 Bt h2 (BE N h7 F1 h2.pers (hG.mono h8) h1.1 _ hf) ?_
   rintro _ F3 hp hh hl rfl
   refine Vgs h0 2<|Pk1 h0<|Vs 2 ?_
   obtain rfl:=Aa hg
   exact Xm ⟨rfl,F3,hh,hl,fI⟩
  ·refine Ss h0 4 ?_
   refine Pk0 h0<|Vs 2 ?_
   obtain rfl:=Aa he
   exact Xm ⟨rfl,F1,h2,(Xr _),fI⟩
 ·rintro f hq ⟨F2,hm,hr,⟨_,rfl⟩⟩
  refine Ab<|Rt ?_
  obtain rfl:=Aa hb
  exact Re [(vi h1.1),(.bool h4)] hm rfl
def Dh (N:Nat) (x0:Ac) (x1:XL):Option (Line×Int):=
 ((strings_Split N x1 ([32]:XL)).bind fun h0=>((AP N h0 ([60]:XL)).bind fun h4=>((bif (decide ((h0.length:Int) < 9)) then some true else (bif (decide (h4 < 8)) then some true else ((idx h0 7).bind fun hb=>some (hb !=([62]:XL))))).bind fun hc=>(bif hc then some (({Num:=0,Khz:=0,Mode:=0,Minute:=0,Call:=([]:XL),Sent:=({Report:=0,Serial:=0,Zone:=0}:Ae),Got:=({Report:=0,Serial:=0,Zone:=0}:Ae)}:Line),20) else ((idx h0 1).bind fun he=>((AF N he).bind fun h7=>((idx h0 2).bind fun hf=>((AF N hf).bind fun h8=>(((idx h0 4).bind fun hg=>((Cv hg ([32]:XL)).bind fun hh=>((idx h0 5).bind fun hl=>((Cv hh hl).bind fun hm=>((EX N hm).bind fun hn=>some hn.1))))).bind fun h9=>(((sub h0 8 h4).bind fun ho=>((strings_Join N ho ([32]:XL)).bind fun hp=>((Ct N ({Report:=x0.Report,Serial:=x0.Serial,Zone:=x0.Zone}:Ac) hp).bind fun h5=>some (h5.1.Report,h5.1.Serial,h5.1.Zone)))).bind fun h1=>(((sub h0 (W64 (h4 + 1)) (h0.length:Int)).bind fun hq=>((strings_Join N hq ([32]:XL)).bind fun hr=>((Ct N ({Report:=x0.Report,Serial:=x0.Serial,Zone:=x0.Zone}:Ac) hr).bind fun h6=>some (h6.1.Report,h6.1.Serial,h6.1.Zone)))).bind fun h2=>(((idx h0 3).bind fun ht=>((idx h0 6).bind fun hu=>((strings_Index N ([32,77,86,68]:XL) ht).bind fun hv=>some (hv,hu)))).bind fun h3=>((CE N ({Report:=x0.Report,Serial:=x0.Serial,Zone:=x0.Zone}:Ac) ({Num:=h7.1,Khz:=h8.1,Mode:=h3.1,Minute:=h9,Call:=h3.2,Sent:=({Report:=h1.1,Serial:=h1.2.1,Zone:=h1.2.2}:Ae),Got:=({Report:=h2.1,Serial:=h2.2.1,Zone:=h2.2.2}:Ae)}:Line)).bind fun ha=>(bif ((ha.2 !=0)||(ha.1 !=x1)) then some (({Num:=0,Khz:=0,Mode:=0,Minute:=0,Call:=([]:XL),Sent:=({Report:=0,Serial:=0,Zone:=0}:Ae),Got:=({Report:=0,Serial:=0,Zone:=0}:Ae)}:Line),20) else some (({Num:=h7.1,Khz:=h8.1,Mode:=h3.1,Minute:=h9,Call:=h3.2,Sent:=({Report:=h1.1,Serial:=h1.2.1,Zone:=h1.2.2}:Ae),Got:=({Report:=h2.1,Serial:=h2.2.1,Zone:=h2.2.2}:Ae)}:Line),0)))))))))))))))
theorem Gq:Aj Tryz.prog 31:=fun _ _=>by kernel_rfl
theorem G0 (N:Nat) (w0:World) (F0:Mem) (hF:XN w0 F0) (hG:BB F0) (x0:Ac) (x1:XL) (r:(Line×Int)) (h:Dh N x0 x1=some r):
  Calls Tryz.prog 31 ([(.agg (Al x0)),(sv x1)]:List Value).toArray w0 (AA w0 F0 fun F' v=>v=(.tuple #[(.agg (Cn r.1)),(vi r.2)])):=by
 have cv:=Xs hF
 refine Go 112 Tryz.func31<|Sq (Rg [0,1,2] ?_)
 refine Bx' 23 (Al x0) cv (fun h7 k7 cw=>?_)
 refine Al' 34 #[(vi 0),(vi 0),(vi 0),(vi 0),(sv (([]:XL))),(vi 0),(vi 0),(vi 0),(vi 0),(vi 0),(vi 0)] cw (fun h2 cx bt=>?_)
 refine Vs 1<|Nss (Rg [0,1,2] ?_)
 refine Vs 1 ?_
 obtain ⟨hg,cy,cz⟩:=bS h
 refine Cl' CF bt (CX N cx F0 bt.pers hG x1 (([32]:XL)) _ cy) ?_
 rintro _ F1 d0 bu ha ⟨bv,hn,rfl,b8,ht⟩
 refine Vs 1<|Nss (Rg [0,1,2] ?_)
 refine Vs 1 ?_
 obtain ⟨hu,d1,d2⟩:=bS cz
 refine Cl' CO bu (CY N d0 F1 bu.pers hg bv hn b8 ht (([60]:XL)) _ d1) ?_
 rintro _ F2 k8 b1 h4 rfl
 refine Vs 1<|Nss<|Sq (Rg (rG 13) ?_)
 obtain ⟨d3,d4,d6⟩:=bS d2
 refine Xw (fun f w=>∃ (F3:Mem),HS w0 F0 w F3 [(sb h2 #[(vi 0),(vi 0),(vi 0),(vi 0),(sv (([]:XL))),(vi 0),(vi 0),(vi 0),(vi 0),(vi 0),(vi 0)] 34),(sb h7 (Al x0) 23)]/\Xq F2 F3/\FI f [] [(1,(sv x1)),(2,(pt h7 0)),(4,(pt h2 0)),(6,(sL bv hg hn)),(7,(vi hu)),(37,(.bool d3))]) ?_ ?_
 ·refine Vs 4 ?_
  refine Sp d4 (fun hv d7=>?_) (fun hv d8=>?_)
  ·refine Ss hv 2 ?_
   refine Pk1 hv<|Vs 1<|Ss (rfl:true=true) 4<|Pk1 (rfl:true=true) ?_
   obtain rfl:=Aa d7
   exact Xm ⟨rfl,F2,b1,(Xr _),fI⟩
  ·refine Vgs hv 2 ?_
   refine Pk0 hv<|Vs 1<|Sp d8 (fun hh d9=>?_) (fun hh da=>?_)
   ·refine Ss hh 4 ?_
    refine Pk1 hh ?_
    obtain rfl:=Aa d9
    exact Xm ⟨rfl,F2,b1,(Xr _),fI⟩
   ·refine Vgs hh 1 ?_
    obtain ⟨k9,db,dc⟩:=bS da
    obtain ⟨dd,hx63'⟩:=Ap db
    obtain ⟨ka,kb,kc,kd,ke,rfl,hF72,hE73⟩:=Xy (Xt ht h4) hx63'
    have de:=hE73 _ _ hx63'
    refine Ixg hh dd<|Lxg hh 0 (b1.pers _ _ hF72) de<|Vgs hh 1<|Pk0 hh ?_
    obtain rfl:=Aa dc
    exact Xm ⟨rfl,F2,b1,(Xr _),fI⟩
 ·rintro f df ⟨F3,b2,h6,⟨_,rfl⟩⟩
  refine Ab<|Cd d6 (fun dg dh=>?_) (fun dg di=>?_)
  ·refine Sq (Rg [0,1,2] ?_)
   refine Vs 1<|St0 #[(vi 0),(vi 0),(vi 0),(vi 0),(sv (([]:XL))),(vi 0),(vi 0),(vi 0),(vi 0),(vi 0),(vi 0)] b2 (fun kf bw=>?_)
   refine Vs 1<|Nt<|Rt<|Af ?_
   obtain rfl:=Aa dh
   exact ⟨rfl,(.tuple #[(.agg #[(vi 0),(vi 0),(vi 0),(vi 0),(sv (([]:XL))),(vi 0),(vi 0),(vi 0),(vi 0),(vi 0),(vi 0)]),(vi 20)]),AR (l:=[.cell 4 34,.tmp 5]) (by kernel_rfl) (vs:=[(.agg #[(vi 0),(vi 0),(vi 0),(vi 0),(sv (([]:XL))),(vi 0),(vi 0),(vi 0),(vi 0),(vi 0),(vi 0)]),(vi 20)]) ⟨h2,0,rfl,Am (t:=34) (g:=true) (s:=11) (by kernel_rfl) bw.at0 rfl (by decide),⟨rfl,trivial⟩⟩,(.tuple #[(.agg #[(vi 0),(vi 0),(vi 0),(vi 0),(sv (([]:XL))),(vi 0),(vi 0),(vi 0),(vi 0),(vi 0),(vi 0)]),(vi 20)]),F3,rfl,bw.clear,rfl⟩
  ·refine Sc ?_
   refine Ab<|Sq (Rg (rG 9) ?_)
   refine Vs 1 ?_
   obtain ⟨dj,dk,dl⟩:=bS di
   obtain ⟨dm,hx82'⟩:=Ap dk
   obtain ⟨hw,hx,kg,kh,ki,rfl,hF91,hE92⟩:=Xy (Xt ht (h4.t h6)) hx82'
   have dn:=hE92 _ _ hx82'
   refine Ix dm<|Lx 0 (b2.pers _ _ hF91) dn ?_
   obtain ⟨hb,dp,dq⟩:=bS dl
   refine Cl' Bf b2 (Br N df F3 b2.pers (hG.mono ((ha.t h4).trans h6)) dj _ dp) ?_
   rintro _ F4 dr b9 h3 rfl
   refine Vs 5<|Nss (Rg (rG 9) ?_)
   refine Vs 1 ?_
   obtain ⟨ds,dt,du⟩:=bS dq
   obtain ⟨dv,hx104'⟩:=Ap dt
   have dw:=hE92 _ _ hx104'
   refine Ix dv<|Lx 0 (b9.pers _ _ (h3 _ _ hF91)) dw ?_
   obtain ⟨hc,dx,dy⟩:=bS du
   refine Cl' Bf b9 (Br N dr F4 b9.pers (hG.mono (((ha.t h4).trans h6).trans h3)) ds _ dx) ?_
   rintro _ F5 kj dz h5 rfl
   refine Vs 5<|Nss ?_
   obtain ⟨he,e0,e1⟩:=bS dy
   refine RD 14 14 [(sb h2 #[(vi 0),(vi 0),(vi 0),(vi 0),(sv (([]:XL))),(vi 0),(vi 0),(vi 0),(vi 0),(vi 0),(vi 0)] 34),(sb h7 (Al x0) 23)] [] dz (fun f w=>∃ (F6:Mem),HS w0 F0 w F6 [(sb h2 #[(vi 0),(vi 0),(vi 0),(vi 0),(sv (([]:XL))),(vi 0),(vi 0),(vi 0),(vi 0),(vi 0),(vi 0)] 34),(sb h7 (Al x0) 23)]/\Xq F5 F6/\FI f [] [(1,(sv x1)),(2,(pt h7 0)),(4,(pt h2 0)),(6,(.slice (some ⟨hw,hx,none⟩) hg.length hn)),(7,(vi hu)),(8,(vi hb.1)),(10,(vi hc.1)),(12,(vi he))]) (fun e2 bx=>?_) ?_
   ·refine Dv [0] ?_
    obtain ⟨e3,e4,e6⟩:=bS e0
    obtain ⟨e7,hx135'⟩:=Ap e4
    have e8:=hE92 _ _ hx135'
    refine Di 1 e7<|Dx 2 0 (fun _ hq=>hq.1.1 _ _ ((h3.t h5) _ _ hF91)) e8 ?_
    obtain ⟨ba,e9,ea⟩:=bS e6
    refine Dt 3 57 9 (sv ba) (fun _ hq=>AO (t:=9) (t':=9) (x:=(.tmp 56)) (y:=(.const (sv ([32]:XL)))) (a:=e3) (b:=([32]:XL)) (v:=ba) rfl rfl e9)<|Dv [4] ?_
    obtain ⟨eb,ec,ed⟩:=bS ea
    obtain ⟨ee,hx144'⟩:=Ap ec
    have ef:=hE92 _ _ hx144'
    refine Di 5 ee<|Dx 6 0 (fun _ hq=>hq.1.1 _ _ ((h3.t h5) _ _ hF91)) ef ?_
    obtain ⟨bb,eg,eh⟩:=bS ed
    refine Dt 7 61 9 (sv bb) (fun _ hq=>AO (t:=9) (t':=9) (x:=(.tmp 57)) (y:=(.tmp 60)) (a:=ba) (b:=eb) (v:=bb) rfl rfl eg)<|D1 8 ?_
    obtain ⟨kl,ei,ej⟩:=bS eh
    refine DCl K6 bx (Mg N e2 F5 bx.pers (hG.mono ((((ha.t h4).trans h6).trans h3).trans h5)) bb _ ei) ?_
    rintro _ F7 km ek el rfl
    refine Dv [9,10,11,12,13] ?_
    obtain rfl:=Aa ej
    exact XD (by kernel_rfl) ⟨F7,ek,el,fI⟩
   ·rintro f kn ⟨F6,en,h9,⟨_,rfl⟩⟩
    refine Ab<|Sq ?_
    obtain ⟨h0,eo,ep⟩:=bS e1
    refine RD 12 12 [(sb h2 #[(vi 0),(vi 0),(vi 0),(vi 0),(sv (([]:XL))),(vi 0),(vi 0),(vi 0),(vi 0),(vi 0),(vi 0)] 34),(sb h7 (Al x0) 23)] [] en (fun f w=>∃ (F8:Mem) (ho:Nat),HS w0 F0 w F8 [(sb ho #[(vi h0.1),(vi h0.2.1),(vi h0.2.2)] 32),(sb h2 #[(vi 0),(vi 0),(vi 0),(vi 0),(sv (([]:XL))),(vi 0),(vi 0),(vi 0),(vi 0),(vi 0),(vi 0)] 34),(sb h7 (Al x0) 23)]/\Xq F6 F8/\FI f [] [(1,(sv x1)),(2,(pt h7 0)),(4,(pt h2 0)),(6,(.slice (some ⟨hw,hx,none⟩) hg.length hn)),(7,(vi hu)),(8,(vi hb.1)),(10,(vi hc.1)),(12,(vi he)),(14,(pt ho 0))]) (fun er bc=>?_) ?_
    ·refine Dl 0 (fun _ hq=>(hq.1.2 1 _ _ rfl)) ?_
     refine Dv [1,2] ?_
     obtain ⟨b3,et,bz⟩:=bS eo
     obtain ⟨bd,be,c0,c1,eu⟩:=FE (P:=Tryz.prog) (T:=AN) (lo:=(some (.const (vi 8)))) (hi:=(some (.tmp 68))) (mx:=none) (t:=55) (E:=9) (by_:=16) (c:=hn) (a:=(some ⟨hw,hx,none⟩)) (l:=hg) (r:=b3) (il:=8) (ih:=hu) (im:=0) (by kernel_rfl) (by kernel_rfl) b8 (Xt ht ((((h4.t h6).trans h3).trans h5).trans h9)) (fun h=>by first | rfl | cases h) et
     refine Dt 3 69 55 (sL bd b3 be) (fun _ hq=>eu (x:=(.tmp 67)) rfl rfl rfl trivial)<|Xz (i:=4) (j:=9) (by kernel_rfl) ?_ ?_
     ·obtain ⟨c3,ev,c4⟩:=bS bz
      refine DCl Cf bc (CI N er F6 bc.pers b3 bd be c0 c1 (([32]:XL)) _ ev) ?_
      rintro _ F9 ew bf hl rfl
      refine Xz (i:=5) (j:=9) (by kernel_rfl) ?_ ?_
      ·obtain ⟨ex,ey,ez⟩:=bS c4
       refine DCl BA bf (BI N ew F9 bf.pers (hG.mono ((((((ha.t h4).trans h6).trans h3).trans h5).trans h9).trans hl)) (({Report:=x0.Report,Serial:=x0.Serial,Zone:=x0.Zone}:Ac)) c3 _ ey) ?_
       rintro _ g0 ko g1 bg rfl
       refine Dv [6,7,8]<|D1 9<|DAl 32 #[(vi 0),(vi 0),(vi 0)] g1 (hl.t bg) (fun g2 kp g3=>?_)
       refine D1 10<|GJ (B2 ex.1) g3 (hl.t bg) (fun kr g4=>?_)
       refine Dv [11] ?_
       obtain rfl:=Aa ez
       exact XD (by kernel_rfl) ⟨g0,g2,g4,(hl.t bg),fI⟩
      ·refine DAl 32 #[(vi 0),(vi 0),(vi 0)] bf hl (fun g5 g6 c5=>?_)
       refine D1 5 ?_
       obtain ⟨g7,g8,g9⟩:=bS c4
       refine DCl BA c5 (BI N g6 F9 c5.pers (hG.mono ((((((ha.t h4).trans h6).trans h3).trans h5).trans h9).trans hl)) (({Report:=x0.Report,Serial:=x0.Serial,Zone:=x0.Zone}:Ac)) c3 _ g8) ?_
       rintro _ ga ks gh c6 rfl
       refine Dv [6,7,8]<|D1 10<|GJ (B2 g7.1) gh (hl.t c6) (fun kt gi=>?_)
       refine Dv [11] ?_
       obtain rfl:=Aa g9
       exact XD (by kernel_rfl) ⟨ga,g5,gi,(hl.t c6),fI⟩
     ·refine DAl 32 #[(vi 0),(vi 0),(vi 0)] bc (Xr _) (fun gk gl c7=>?_)
      refine D1 4 ?_
      obtain ⟨gm,gn,go⟩:=bS bz
      refine DCl Cf c7 (CI N gl F6 c7.pers b3 bd be c0 c1 (([32]:XL)) _ gn) ?_
      rintro _ gp gr c8 bh rfl
      refine D1 5 ?_
      obtain ⟨gs,gu,gv⟩:=bS go
      refine DCl BA c8 (BI N gr gp c8.pers (hG.mono ((((((ha.t h4).trans h6).trans h3).trans h5).trans h9).trans bh)) (({Report:=x0.Report,Serial:=x0.Serial,Zone:=x0.Zone}:Ac)) gm _ gu) ?_
      rintro _ gw ku gx c9 rfl
      refine Dv [6,7,8]<|D1 10<|GJ (B2 gs.1) gx (bh.t c9) (fun kw gy=>?_)
      refine Dv [11] ?_
      obtain rfl:=Aa gv
      exact XD (by kernel_rfl) ⟨gw,gk,gy,(bh.t c9),fI⟩
    ·rintro f ky ⟨F8,ho,gz,hf,⟨_,rfl⟩⟩
     refine Ab<|Sq ?_
     obtain ⟨h1,i0,i1⟩:=bS ep
     refine RD 13 13 [(sb ho #[(vi h0.1),(vi h0.2.1),(vi h0.2.2)] 32),(sb h2 #[(vi 0),(vi 0),(vi 0),(vi 0),(sv (([]:XL))),(vi 0),(vi 0),(vi 0),(vi 0),(vi 0),(vi 0)] 34),(sb h7 (Al x0) 23)] [] gz (fun f w=>∃ (hr:Mem) (b4:Nat),HS w0 F0 w hr [(sb b4 #[(vi h1.1),(vi h1.2.1),(vi h1.2.2)] 32),(sb ho #[(vi h0.1),(vi h0.2.1),(vi h0.2.2)] 32),(sb h2 #[(vi 0),(vi 0),(vi 0),(vi 0),(sv (([]:XL))),(vi 0),(vi 0),(vi 0),(vi 0),(vi 0),(vi 0)] 34),(sb h7 (Al x0) 23)]/\Xq F8 hr/\FI f [] [(1,(sv x1)),(2,(pt h7 0)),(4,(pt h2 0)),(6,(.slice (some ⟨hw,hx,none⟩) hg.length hn)),(8,(vi hb.1)),(10,(vi hc.1)),(12,(vi he)),(14,(pt ho 0)),(16,(pt b4 0))]) (fun i2 bi=>?_) ?_
     ·refine Dl 0 (fun _ hq=>(hq.1.2 2 _ _ rfl)) ?_
      refine Dv [1,2,3] ?_
      obtain ⟨b5,i3,ca⟩:=bS i0
      obtain ⟨bj,bk,cb,cc,i4⟩:=FE (P:=Tryz.prog) (T:=AN) (lo:=(some (.tmp 78))) (hi:=none) (mx:=none) (t:=55) (E:=9) (by_:=16) (c:=hn) (a:=(some ⟨hw,hx,none⟩)) (l:=hg) (r:=b5) (il:=(W64 (hu + 1))) (ih:=(hg.length:Int)) (im:=0) (by kernel_rfl) (by kernel_rfl) b8 (Xt ht (((((h4.t h6).trans h3).trans h5).trans h9).trans hf)) (fun h=>by first | rfl | cases h) i3
      refine Dt 4 79 55 (sL bj b5 bk) (fun _ hq=>i4 (x:=(.tmp 76)) rfl rfl rfl trivial)<|Xz (i:=5) (j:=10) (by kernel_rfl) ?_ ?_
      ·obtain ⟨cd,i5,ce⟩:=bS ca
       refine DCl Cf bi (CI N i2 F8 bi.pers b5 bj bk cb cc (([32]:XL)) _ i5) ?_
       rintro _ cf i6 bl hm rfl
       refine Xz (i:=6) (j:=10) (by kernel_rfl) ?_ ?_
       ·obtain ⟨i7,i8,i9⟩:=bS ce
        refine DCl BA bl (BI N i6 cf bl.pers (hG.mono (((((((ha.t h4).trans h6).trans h3).trans h5).trans h9).trans hf).trans hm)) (({Report:=x0.Report,Serial:=x0.Serial,Zone:=x0.Zone}:Ac)) cd _ i8) ?_
        rintro _ ia kz ib bm rfl
        refine Dv [7,8,9]<|D1 10<|DAl 32 #[(vi 0),(vi 0),(vi 0)] ib (hm.t bm) (fun ic l0 ie=>?_)
        refine D1 11<|GJ (B2 i7.1) ie (hm.t bm) (fun l1 ig=>?_)
        refine Dv [12] ?_
        obtain rfl:=Aa i9
        exact XD (by kernel_rfl) ⟨ia,ic,ig,(hm.t bm),fI⟩
       ·refine DAl 32 #[(vi 0),(vi 0),(vi 0)] bl hm (fun ii ij cg=>?_)
        refine D1 6 ?_
        obtain ⟨ik,io,ip⟩:=bS ce
        refine DCl BA cg (BI N ij cf cg.pers (hG.mono (((((((ha.t h4).trans h6).trans h3).trans h5).trans h9).trans hf).trans hm)) (({Report:=x0.Report,Serial:=x0.Serial,Zone:=x0.Zone}:Ac)) cd _ io) ?_
        rintro _ iq l2 ir ch rfl
        refine Dv [7,8,9]<|D1 11<|GJ (B2 ik.1) ir (hm.t ch) (fun l3 it=>?_)
        refine Dv [12] ?_
        obtain rfl:=Aa ip
        exact XD (by kernel_rfl) ⟨iq,ii,it,(hm.t ch),fI⟩
      ·refine DAl 32 #[(vi 0),(vi 0),(vi 0)] bi (Xr _) (fun iu iv ci=>?_)
       refine D1 5 ?_
       obtain ⟨iw,iy,iz⟩:=bS ca
       refine DCl Cf ci (CI N iv F8 ci.pers b5 bj bk cb cc (([32]:XL)) _ iy) ?_
       rintro _ j0 j1 cj bn rfl
       refine D1 6 ?_
       obtain ⟨j2,j3,j4⟩:=bS iz
       refine DCl BA cj (BI N j1 j0 cj.pers (hG.mono (((((((ha.t h4).trans h6).trans h3).trans h5).trans h9).trans hf).trans bn)) (({Report:=x0.Report,Serial:=x0.Serial,Zone:=x0.Zone}:Ac)) iw _ j3) ?_
       rintro _ j5 l4 j6 cl rfl
       refine Dv [7,8,9]<|D1 11<|GJ (B2 j2.1) j6 (bn.t cl) (fun l5 j7=>?_)
       refine Dv [12] ?_
       obtain rfl:=Aa j4
       exact XD (by kernel_rfl) ⟨j5,iu,j7,(bn.t cl),fI⟩
     ·rintro f l6 ⟨hr,b4,j8,hy,⟨_,rfl⟩⟩
      refine Ab<|Sq ?_
      obtain ⟨h8,j9,ja⟩:=bS i1
      refine RD 14 15 [(sb b4 #[(vi h1.1),(vi h1.2.1),(vi h1.2.2)] 32),(sb ho #[(vi h0.1),(vi h0.2.1),(vi h0.2.2)] 32),(sb h2 #[(vi 0),(vi 0),(vi 0),(vi 0),(sv (([]:XL))),(vi 0),(vi 0),(vi 0),(vi 0),(vi 0),(vi 0)] 34),(sb h7 (Al x0) 23)] [] j8 (fun f w=>∃ (b6:Mem) (hz:Nat),HS w0 F0 w b6 [(sb hz #[(vi hb.1),(vi hc.1),(vi h8.1),(vi he),(sv h8.2),(vi h0.1),(vi h0.2.1),(vi h0.2.2),(vi h1.1),(vi h1.2.1),(vi h1.2.2)] 34),(sb h2 #[(vi 0),(vi 0),(vi 0),(vi 0),(sv (([]:XL))),(vi 0),(vi 0),(vi 0),(vi 0),(vi 0),(vi 0)] 34),(sb h7 (Al x0) 23)]/\Xq hr b6/\FI f [] [(1,(sv x1)),(2,(pt h7 0)),(4,(pt h2 0)),(18,(pt hz 0))]) (fun jb bo=>?_) ?_
      ·refine Dv [0,1,2] ?_
       obtain ⟨cm,jc,jd⟩:=bS j9
       obtain ⟨je,hx339'⟩:=Ap jc
       have jf:=hE92 _ _ hx339'
       refine Di 3 je<|Dx 4 0 (fun _ hq=>hq.1.1 _ _ (((((h3.t h5).trans h9).trans hf).trans hy) _ _ hF91)) jf<|Dv [6,7] ?_
       obtain ⟨cn,jg,co⟩:=bS jd
       obtain ⟨jh,hx345'⟩:=Ap jg
       have ji:=hE92 _ _ hx345'
       refine Di 8 jh<|Dx 9 0 (fun _ hq=>hq.1.1 _ _ (((((h3.t h5).trans h9).trans hf).trans hy) _ _ hF91)) ji<|Dl 10 (fun _ hq=>(hq.1.2 1 _ _ rfl))<|Dl 11 (fun _ hq=>(hq.1.2 0 _ _ rfl))<|Xz (i:=5) (j:=13) (by kernel_rfl) ?_ ?_
       ·obtain ⟨jj,jk,jl⟩:=bS co
        refine DCl GS bo (HI N jb hr bo.pers (hG.mono (((((((ha.t h4).trans h6).trans h3).trans h5).trans h9).trans hf).trans hy)) (([32,77,86,68]:XL)) cm _ jk) ?_
        rintro _ jm l7 jo bp rfl
        refine Dv [12]<|D1 13<|DAl 34 #[(vi 0),(vi 0),(vi 0),(vi 0),(sv (([]:XL))),(vi 0),(vi 0),(vi 0),(vi 0),(vi 0),(vi 0)] jo bp (fun jp l8 jq=>?_)
        refine D1 14<|GJ #[(vi hb.1),(vi hc.1),(vi jj),(vi he),(sv cn),(vi h0.1),(vi h0.2.1),(vi h0.2.2),(vi h1.1),(vi h1.2.1),(vi h1.2.2)] jq bp (fun l9 jr=>?_)
        obtain rfl:=Aa jl
        exact XD (by kernel_rfl) ⟨jm,jp,jr.dr1.dr1,bp,fI⟩
       ·refine DAl 34 #[(vi 0),(vi 0),(vi 0),(vi 0),(sv (([]:XL))),(vi 0),(vi 0),(vi 0),(vi 0),(vi 0),(vi 0)] bo (Xr _) (fun js jt cp=>?_)
        refine D1 5 ?_
        obtain ⟨ju,jv,jw⟩:=bS co
        refine DCl GS cp (HI N jt hr cp.pers (hG.mono (((((((ha.t h4).trans h6).trans h3).trans h5).trans h9).trans hf).trans hy)) (([32,77,86,68]:XL)) cm _ jv) ?_
        rintro _ jx la jy cq rfl
        refine Dv [12]<|D1 14<|GJ #[(vi hb.1),(vi hc.1),(vi ju),(vi he),(sv cn),(vi h0.1),(vi h0.2.1),(vi h0.2.2),(vi h1.1),(vi h1.2.1),(vi h1.2.2)] jy cq (fun lb jz=>?_)
        obtain rfl:=Aa jw
        exact XD (by kernel_rfl) ⟨jx,js,jz.dr1.dr1,cq,fI⟩
      ·rintro f k0 ⟨b6,hz,b7,k1,⟨_,rfl⟩⟩
       refine Ab<|Sq<|Sq (Rg (rG 8) ?_)
       refine Ld b7.at2<|Ld b7.at0 ?_
       obtain ⟨bq,k2,k3⟩:=bS ja
       refine Cl' Gp b7 (GZ N k0 b6 b7.pers (hG.mono ((((((((ha.t h4).trans h6).trans h3).trans h5).trans h9).trans hf).trans hy).trans k1)) (({Report:=x0.Report,Serial:=x0.Serial,Zone:=x0.Zone}:Ac)) (({Num:=hb.1,Khz:=hc.1,Mode:=h8.1,Minute:=he,Call:=h8.2,Sent:=({Report:=h0.1,Serial:=h0.2.1,Zone:=h0.2.2}:Ae),Got:=({Report:=h1.1,Serial:=h1.2.1,Zone:=h1.2.2}:Ae)}:Line)) _ k2) ?_
       rintro _ br lf cr lg rfl
       refine Vs 5<|Nss (Rg (rG 7) ?_)
       refine Xw (fun f w=>∃ (b0:Mem),HS w0 F0 w b0 [(sb hz #[(vi hb.1),(vi hc.1),(vi h8.1),(vi he),(sv h8.2),(vi h0.1),(vi h0.2.1),(vi h0.2.2),(vi h1.1),(vi h1.2.1),(vi h1.2.2)] 34),(sb h2 #[(vi 0),(vi 0),(vi 0),(vi 0),(sv (([]:XL))),(vi 0),(vi 0),(vi 0),(vi 0),(vi 0),(vi 0)] 34)]/\Xq br b0/\FI f [] [(4,(pt h2 0)),(18,(pt hz 0)),(109,(.bool ((bq.2 !=0)||(bq.1 !=x1))))]) ?_ ?_
       ·refine Vs 3 ?_
        refine Xv (bq.2 !=0) (fun hp=>?_) (fun hp=>?_)
        ·refine Ss hp 3 ?_
         refine Pk1 hp ?_
         exact Xm ⟨rfl,br,cr.dr2,(Xr _),(fJ ⟨rfl,rfl,(congrArg Value.bool (G9 hp rfl)),trivial⟩)⟩
        ·refine Vgs hp 3 ?_
         refine Pk0 hp ?_
         exact Xm ⟨rfl,br,cr.dr2,(Xr _),(fJ ⟨rfl,rfl,(congrArg Value.bool (C9 hp rfl)),trivial⟩)⟩
       ·rintro f lh ⟨b0,bs,li,⟨_,rfl⟩⟩
        refine Ab<|Cd k3 (fun k4 k5=>?_) (fun k4 k6=>?_)
        ·refine Sq (Rg [0,1,2] ?_)
         refine Vs 1<|St1 #[(vi 0),(vi 0),(vi 0),(vi 0),(sv (([]:XL))),(vi 0),(vi 0),(vi 0),(vi 0),(vi 0),(vi 0)] bs (fun lj ct=>?_)
         refine Vs 1<|Nt<|Rt<|Af ?_
         obtain rfl:=Aa k5
         exact ⟨rfl,(.tuple #[(.agg #[(vi 0),(vi 0),(vi 0),(vi 0),(sv (([]:XL))),(vi 0),(vi 0),(vi 0),(vi 0),(vi 0),(vi 0)]),(vi 20)]),AR (l:=[.cell 4 34,.tmp 5]) (by kernel_rfl) (vs:=[(.agg #[(vi 0),(vi 0),(vi 0),(vi 0),(sv (([]:XL))),(vi 0),(vi 0),(vi 0),(vi 0),(vi 0),(vi 0)]),(vi 20)]) ⟨h2,0,rfl,Am (t:=34) (g:=true) (s:=11) (by kernel_rfl) ct.at1 rfl (by decide),⟨rfl,trivial⟩⟩,(.tuple #[(.agg #[(vi 0),(vi 0),(vi 0),(vi 0),(sv (([]:XL))),(vi 0),(vi 0),(vi 0),(vi 0),(vi 0),(vi 0)]),(vi 20)]),b0,rfl,ct.clear,rfl⟩
        ·refine Sc ?_
         refine Ab<|Sq (Rg [0,1,2] ?_)
         refine Ld bs.at0<|St1 #[(vi hb.1),(vi hc.1),(vi h8.1),(vi he),(sv h8.2),(vi h0.1),(vi h0.2.1),(vi h0.2.2),(vi h1.1),(vi h1.2.1),(vi h1.2.2)] bs (fun lk cu=>?_)
         refine Vs 1<|Nt<|Rt ?_
         obtain rfl:=Aa k6
         exact ⟨rfl,(.tuple #[(.agg #[(vi hb.1),(vi hc.1),(vi h8.1),(vi he),(sv h8.2),(vi h0.1),(vi h0.2.1),(vi h0.2.2),(vi h1.1),(vi h1.2.1),(vi h1.2.2)]),(vi 0)]),AR (l:=[.cell 4 34,.tmp 5]) (by kernel_rfl) (vs:=[(.agg #[(vi hb.1),(vi hc.1),(vi h8.1),(vi he),(sv h8.2),(vi h0.1),(vi h0.2.1),(vi h0.2.2),(vi h1.1),(vi h1.2.1),(vi h1.2.2)]),(vi 0)]) ⟨h2,0,rfl,Am (t:=34) (g:=true) (s:=11) (by kernel_rfl) cu.at1 rfl (by decide),⟨rfl,trivial⟩⟩,(.tuple #[(.agg #[(vi hb.1),(vi hc.1),(vi h8.1),(vi he),(sv h8.2),(vi h0.1),(vi h0.2.1),(vi h0.2.2),(vi h1.1),(vi h1.2.1),(vi h1.2.2)]),(vi 0)]),b0,rfl,cu.clear,rfl⟩
def H8 (N:Nat) (x0:Aq) (x1:XL):Option (Aq×Bool):=
 ((strings_CutPrefix N x1 ([67,65,76,76,32]:XL)).bind fun h0=>((bif h0.2 then ((DW N h0.1).bind fun h1=>some h1) else some false).bind fun h2=>some (({o_:=({Report:=x0.o_.Report,Serial:=x0.o_.Serial,Zone:=x0.o_.Zone}:Ac),l_:=({Call:=h0.1,Category:=x0.l_.Category,Power:=x0.l_.Power,Claimed:=x0.l_.Claimed,Jumps:=x0.l_.Jumps,Lines:=x0.l_.Lines}:Log),done_:=x0.done_,ended_:=x0.ended_}:Aq),h2)))
theorem Ks:Aj Tryz.prog 153:=fun _ _=>by kernel_rfl
theorem La (N:Nat) {wb w0:World} {Fb F0:Mem} {Lf:Own} (hG:BB F0) (hl:Nat) (x0:Aq) (h7:XM) (h8 h0 h9 ha h1 h2 hb hc h3 h4 he hf h5:Nat) (hg:XM) (hh:Nat) (hm:Option Nat×Obj) (hz:LC x0.l_.Jumps.length h8) (b0:SlA AE F0 h7 x0.l_.Jumps) (bf:F0 h0=some (oc #[(sv (([67,65,84,69,71,79,82,89]:XL)))] 9)) (bg:F0 h9=some (oc #[(vi 1)] 3)) (bh:F0 ha=some (oc #[(vi 9)] 3)) (bi:F0 h1=some (oc #[(fV 156 #[])] 195)) (bj:F0 h2=some (oc #[(sv (([80,79,87,69,82]:XL)))] 9)) (bk:F0 hb=some (oc #[(vi 1)] 3)) (bl:F0 hc=some (oc #[(vi 9999)] 3)) (bm:F0 h3=some (oc #[(fV 157 #[])] 195)) (bn:F0 h4=some (oc #[(sv (([67,76,65,73,77,69,68]:XL)))] 9)) (bo:F0 he=some (oc #[(vi 0)] 3)) (bp:F0 hf=some (oc #[(vi 1000000)] 3)) (bq:F0 h5=some (oc #[(fV 158 #[])] 195)) (b1:As AD 34 F0 hg hh x0.l_.Lines hm) (x1:XL) (hr:HS wb Fb w0 F0 ((sb hl #[(.bool x0.o_.Report),(.bool x0.o_.Serial),(.bool x0.o_.Zone),(sv x0.l_.Call),(vi x0.l_.Category),(vi x0.l_.Power),(vi x0.l_.Claimed),(sL h7 x0.l_.Jumps h8),(sL hg x0.l_.Lines hh),(fV 153 #[]),(fV 154 #[]),(fV 190 #[(pt h0 0),(pt h9 0),(pt ha 0),(pt h1 0)]),(fV 191 #[(pt h0 0),(pt h1 0)]),(fV 190 #[(pt h2 0),(pt hb 0),(pt hc 0),(pt h3 0)]),(fV 191 #[(pt h2 0),(pt h3 0)]),(fV 190 #[(pt h4 0),(pt he 0),(pt hf 0),(pt h5 0)]),(fV 191 #[(pt h4 0),(pt h5 0)]),(fV 159 #[]),(fV 160 #[]),(vi x0.done_),(.bool x0.ended_)] 130)::hm::Lf)) (r:(Aq×Bool)) (h:H8 N x0 x1=some r):
  Calls Tryz.prog 153 ([(pt hl 3),(sv x1)]:List Value).toArray w0 (EM wb Fb F0 fun F' v L'=>∃ (ht:XM) (hu:Nat) (hv:XM) (hw:Nat) (hx:Option Nat×Obj),v=(.bool r.2)/\L'=(sb hl #[(.bool r.1.o_.Report),(.bool r.1.o_.Serial),(.bool r.1.o_.Zone),(sv r.1.l_.Call),(vi r.1.l_.Category),(vi r.1.l_.Power),(vi r.1.l_.Claimed),(sL ht r.1.l_.Jumps hu),(sL hv r.1.l_.Lines hw),(fV 153 #[]),(fV 154 #[]),(fV 190 #[(pt h0 0),(pt h9 0),(pt ha 0),(pt h1 0)]),(fV 191 #[(pt h0 0),(pt h1 0)]),(fV 190 #[(pt h2 0),(pt hb 0),(pt hc 0),(pt h3 0)]),(fV 191 #[(pt h2 0),(pt h3 0)]),(fV 190 #[(pt h4 0),(pt he 0),(pt hf 0),(pt h5 0)]),(fV 191 #[(pt h4 0),(pt h5 0)]),(fV 159 #[]),(fV 160 #[]),(vi r.1.done_),(.bool r.1.ended_)] 130)::hx::Lf/\LC r.1.l_.Jumps.length hu/\SlA AE F' ht r.1.l_.Jumps/\As AD 34 F' hv hw r.1.l_.Lines hx):=by
 refine Go 21 Tryz.func153<|Sq (Rg [0] ?_)
 refine Vs 1<|Nss (Rg (rG 7) ?_)
 refine Vs 1 ?_
 obtain ⟨ho,b2,b3⟩:=bS h
 refine Cl' A4 hr (Ba N w0 F0 hr.pers x1 (([67,65,76,76,32]:XL)) _ b2) ?_
 rintro _ F1 br b4 hn rfl
 refine Vs 5<|Nss (Rg (rG 5) ?_)
 refine Vs 4<|St0 #[(.bool x0.o_.Report),(.bool x0.o_.Serial),(.bool x0.o_.Zone),(sv ho.1),(vi x0.l_.Category),(vi x0.l_.Power),(vi x0.l_.Claimed),(sL h7 x0.l_.Jumps h8),(sL hg x0.l_.Lines hh),(fV 153 #[]),(fV 154 #[]),(fV 190 #[(pt h0 0),(pt h9 0),(pt ha 0),(pt h1 0)]),(fV 191 #[(pt h0 0),(pt h1 0)]),(fV 190 #[(pt h2 0),(pt hb 0),(pt hc 0),(pt h3 0)]),(fV 191 #[(pt h2 0),(pt h3 0)]),(fV 190 #[(pt h4 0),(pt he 0),(pt hf 0),(pt h5 0)]),(fV 191 #[(pt h4 0),(pt h5 0)]),(fV 159 #[]),(fV 160 #[]),(vi x0.done_),(.bool x0.ended_)] b4 (fun b5 hp=>?_)
 refine Nss (Rg (rG 6) ?_)
 obtain ⟨hy,b6,b7⟩:=bS b3
 refine Xw (fun f w=>∃ (F2:Mem),HS wb Fb w F2 ((sb hl #[(.bool x0.o_.Report),(.bool x0.o_.Serial),(.bool x0.o_.Zone),(sv ho.1),(vi x0.l_.Category),(vi x0.l_.Power),(vi x0.l_.Claimed),(sL h7 x0.l_.Jumps h8),(sL hg x0.l_.Lines hh),(fV 153 #[]),(fV 154 #[]),(fV 190 #[(pt h0 0),(pt h9 0),(pt ha 0),(pt h1 0)]),(fV 191 #[(pt h0 0),(pt h1 0)]),(fV 190 #[(pt h2 0),(pt hb 0),(pt hc 0),(pt h3 0)]),(fV 191 #[(pt h2 0),(pt h3 0)]),(fV 190 #[(pt h4 0),(pt he 0),(pt hf 0),(pt h5 0)]),(fV 191 #[(pt h4 0),(pt h5 0)]),(fV 159 #[]),(fV 160 #[]),(vi x0.done_),(.bool x0.ended_)] 130)::hm::Lf)/\Xq F1 F2/\FI f [] [(4,(.bool hy))]) ?_ ?_
 ·refine Vs 2 ?_
  refine Sp b6 (fun h6 b8=>?_) (fun h6 b9=>?_)
  ·refine Vgs h6 1 ?_
   obtain ⟨bs,ba,bb⟩:=bS b8
   refine Cg h6 EK hp (Fh N b5 F1 hp.pers (hG.mono hn) ho.1 _ ba) ?_
   rintro _ F3 bt bc bd rfl
   refine Pk1 h6<|Vs 1 ?_
   obtain rfl:=Aa bb
   exact Xm ⟨rfl,F3,bc,bd,fI⟩
  ·refine Ss h6 2 ?_
   refine Pk0 h6<|Vs 1 ?_
   obtain rfl:=Aa b9
   exact Xm ⟨rfl,F1,hp,(Xr _),fI⟩
 ·rintro f bu ⟨F2,be,hq,⟨_,rfl⟩⟩
  refine Ab<|Rt ?_
  obtain rfl:=Aa b7
  exact ReB [(.bool hy)] be (hn.t hq) ⟨h7,h8,hg,hh,hm,rfl,rfl,hz,(Xt b0 (hn.t hq)),(b1.mono (hn.t hq))⟩
def FG (N:Nat) (x0:Aq) (x1:XL) (h5:(List XL)) (h1:List XL):(List Int×Int)->Option (BC (Aq×Bool) (List Int×Int)):=fun h0=>
 (bif (decide (h0.2 < (h1.length:Int))) then ((idx h1 h0.2).bind fun h3=>((AF N h3).bind fun h2=>(bif (!h2.2) then some (.ret (x0,false)) else ((DM h0.1 [h2.1]).bind fun h4=>some (.next (h4,(W64 (h0.2 + 1)))))))) else some (.done (h0.1,h0.2)))
def HC (N:Nat) (x0:Aq) (x1:XL):Option (Aq×Bool):=
 ((strings_Split N x1 ([32]:XL)).bind fun h0=>((sub h0 1 (h0.length:Int)).bind fun h2=>((AU (FG N x0 x1 h0 h2) N (([]:List Int),0)).bind fun o=>o.k (fun r=>some r) (fun h1=>(((idx h0 0).bind fun h3=>(bif (h3==([74,85,77,80,83]:XL)) then ((De N h1.1).bind fun h4=>some h4) else some false)).bind fun h5=>some (({o_:=({Report:=x0.o_.Report,Serial:=x0.o_.Serial,Zone:=x0.o_.Zone}:Ac),l_:=({Call:=x0.l_.Call,Category:=x0.l_.Category,Power:=x0.l_.Power,Claimed:=x0.l_.Claimed,Jumps:=h1.1,Lines:=x0.l_.Lines}:Log),done_:=x0.done_,ended_:=x0.ended_}:Aq),h5))))))
theorem JI:Aj Tryz.prog 159:=fun _ _=>by kernel_rfl
theorem KC (N:Nat) {wb w0:World} {Fb F0:Mem} {Lf:Own} (hG:BB F0) (h6:Nat) (x0:Aq) (hr:XM) (ht h0 ha hb h1 h2 hc he h3 h4 hf hg h5:Nat) (h7:XM) (h8:Nat) (hh:Option Nat×Obj) (bs:LC x0.l_.Jumps.length ht) (bt:SlA AE F0 hr x0.l_.Jumps) (dk:F0 h0=some (oc #[(sv (([67,65,84,69,71,79,82,89]:XL)))] 9)) (dl:F0 ha=some (oc #[(vi 1)] 3)) (dm:F0 hb=some (oc #[(vi 9)] 3)) (dn:F0 h1=some (oc #[(fV 156 #[])] 195)) (dp:F0 h2=some (oc #[(sv (([80,79,87,69,82]:XL)))] 9)) (dq:F0 hc=some (oc #[(vi 1)] 3)) (dr:F0 he=some (oc #[(vi 9999)] 3)) (ds:F0 h3=some (oc #[(fV 157 #[])] 195)) (dt:F0 h4=some (oc #[(sv (([67,76,65,73,77,69,68]:XL)))] 9)) (du:F0 hf=some (oc #[(vi 0)] 3)) (dv:F0 hg=some (oc #[(vi 1000000)] 3)) (dw:F0 h5=some (oc #[(fV 158 #[])] 195)) (ba:As AD 34 F0 h7 h8 x0.l_.Lines hh) (x1:XL) (bb:HS wb Fb w0 F0 ((sb h6 #[(.bool x0.o_.Report),(.bool x0.o_.Serial),(.bool x0.o_.Zone),(sv x0.l_.Call),(vi x0.l_.Category),(vi x0.l_.Power),(vi x0.l_.Claimed),(sL hr x0.l_.Jumps ht),(sL h7 x0.l_.Lines h8),(fV 153 #[]),(fV 154 #[]),(fV 190 #[(pt h0 0),(pt ha 0),(pt hb 0),(pt h1 0)]),(fV 191 #[(pt h0 0),(pt h1 0)]),(fV 190 #[(pt h2 0),(pt hc 0),(pt he 0),(pt h3 0)]),(fV 191 #[(pt h2 0),(pt h3 0)]),(fV 190 #[(pt h4 0),(pt hf 0),(pt hg 0),(pt h5 0)]),(fV 191 #[(pt h4 0),(pt h5 0)]),(fV 159 #[]),(fV 160 #[]),(vi x0.done_),(.bool x0.ended_)] 130)::hh::Lf)) (r:(Aq×Bool)) (h:HC N x0 x1=some r):
  Calls Tryz.prog 159 ([(pt h6 3),(sv x1)]:List Value).toArray w0 (EM wb Fb F0 fun F' v L'=>∃ (bc:XM) (bd:Nat) (be:XM) (bf:Nat) (bg:Option Nat×Obj),v=(.bool r.2)/\L'=(sb h6 #[(.bool r.1.o_.Report),(.bool r.1.o_.Serial),(.bool r.1.o_.Zone),(sv r.1.l_.Call),(vi r.1.l_.Category),(vi r.1.l_.Power),(vi r.1.l_.Claimed),(sL bc r.1.l_.Jumps bd),(sL be r.1.l_.Lines bf),(fV 153 #[]),(fV 154 #[]),(fV 190 #[(pt h0 0),(pt ha 0),(pt hb 0),(pt h1 0)]),(fV 191 #[(pt h0 0),(pt h1 0)]),(fV 190 #[(pt h2 0),(pt hc 0),(pt he 0),(pt h3 0)]),(fV 191 #[(pt h2 0),(pt h3 0)]),(fV 190 #[(pt h4 0),(pt hf 0),(pt hg 0),(pt h5 0)]),(fV 191 #[(pt h4 0),(pt h5 0)]),(fV 159 #[]),(fV 160 #[]),(vi r.1.done_),(.bool r.1.ended_)] 130)::bg::Lf/\LC r.1.l_.Jumps.length bd/\SlA AE F' bc r.1.l_.Jumps/\As AD 34 F' be bf r.1.l_.Lines bg):=by
 refine Go 44 Tryz.func159<|Sq (Rg [0] ?_)
 refine Vs 1<|Nss (Rg [0,1,2] ?_)
 refine Vs 1 ?_
 obtain ⟨hu,bu,bv⟩:=bS h
 refine Cl' CF bb (CX N w0 F0 bb.pers hG x1 (([32]:XL)) _ bu) ?_
 rintro _ F1 dx bw hp ⟨b2,b3,rfl,bx,bh⟩
 refine Vs 1<|Nss (Rg [0] ?_)
 refine Vs 1<|Nss<|Sq (Rg (rG 4) ?_)
 refine Vs 1 ?_
 obtain ⟨hw,bz,c0⟩:=bS bv
 obtain ⟨c1,c3,dy,c4,c5⟩:=FE (P:=Tryz.prog) (T:=AN) (lo:=(some (.const (vi 1)))) (hi:=none) (mx:=none) (t:=55) (E:=9) (by_:=16) (c:=b3) (a:=b2) (l:=hu) (r:=hw) (il:=1) (ih:=(hu.length:Int)) (im:=0) (by kernel_rfl) (by kernel_rfl) bx bh (fun h=>by first | rfl | cases h) bz
 refine V 14 55 (c5 (x:=(.tmp 13)) rfl rfl rfl trivial)<|Vs 2<|Nt ?_
 have c6:=bw.dummy (oc #[] 0)
 obtain ⟨bi,c7,bj⟩:=bS c0
 refine Xx (fun f w=>∃ (hl:(List Int×Int)) (F3:Mem) (hm:XM) (hn:Nat) (b4:Option Nat×Obj),bi=.done hl/\HS wb Fb w F3 (b4::(sb h6 #[(.bool x0.o_.Report),(.bool x0.o_.Serial),(.bool x0.o_.Zone),(sv x0.l_.Call),(vi x0.l_.Category),(vi x0.l_.Power),(vi x0.l_.Claimed),(sL hr x0.l_.Jumps ht),(sL h7 x0.l_.Lines h8),(fV 153 #[]),(fV 154 #[]),(fV 190 #[(pt h0 0),(pt ha 0),(pt hb 0),(pt h1 0)]),(fV 191 #[(pt h0 0),(pt h1 0)]),(fV 190 #[(pt h2 0),(pt hc 0),(pt he 0),(pt h3 0)]),(fV 191 #[(pt h2 0),(pt h3 0)]),(fV 190 #[(pt h4 0),(pt hf 0),(pt hg 0),(pt h5 0)]),(fV 191 #[(pt h4 0),(pt h5 0)]),(fV 159 #[]),(fV 160 #[]),(vi x0.done_),(.bool x0.ended_)] 130)::hh::Lf)/\Xq F1 F3/\FI f [] [(0,(pt h6 3)),(5,(sL b2 hu b3)),(6,(sL hm hl.1 hn))]/\As AE 3 F3 hm hn hl.1 b4) ?_ ?_
 ·refine Bk ?_
  refine Xp (by kernel_rfl) (fun m f w=>∃ (h9:(List Int×Int)) (F2:Mem) (hx:XM) (hy:Nat) (hz:Option Nat×Obj),AU (FG N x0 x1 hu hw) m h9=some bi/\HS wb Fb w F2 (hz::(sb h6 #[(.bool x0.o_.Report),(.bool x0.o_.Serial),(.bool x0.o_.Zone),(sv x0.l_.Call),(vi x0.l_.Category),(vi x0.l_.Power),(vi x0.l_.Claimed),(sL hr x0.l_.Jumps ht),(sL h7 x0.l_.Lines h8),(fV 153 #[]),(fV 154 #[]),(fV 190 #[(pt h0 0),(pt ha 0),(pt hb 0),(pt h1 0)]),(fV 191 #[(pt h0 0),(pt h1 0)]),(fV 190 #[(pt h2 0),(pt hc 0),(pt he 0),(pt h3 0)]),(fV 191 #[(pt h2 0),(pt h3 0)]),(fV 190 #[(pt h4 0),(pt hf 0),(pt hg 0),(pt h5 0)]),(fV 191 #[(pt h4 0),(pt h5 0)]),(fV 159 #[]),(fV 160 #[]),(vi x0.done_),(.bool x0.ended_)] 130)::hh::Lf)/\Xq F1 F2/\FI f [] [(0,(pt h6 3)),(5,(sL b2 hu b3)),(6,(sL hx h9.1 hy)),(14,(sL c1 hw c3)),(15,(vi (hw.length:Int))),(16,(vi h9.2))]/\As AE 3 F2 hx hy h9.1 hz) N ⟨(([]:List Int),0),F1,none,0,(none,.cells #[] 0 (0,0)),c7,c6,(Xr _),fI,(XF AE 3 F1 _)⟩ ?_
  rintro dz f c8 ⟨h9,F2,hx,hy,hz,c9,b0,ho,⟨_,rfl⟩,bk⟩
  obtain ⟨ca,e0,rfl,cb,b5⟩:=AV c9
  refine Sq (Rg [0] ?_)
  refine Vs 1<|Nss<|Cd cb (fun cc cd=>?_) (fun cc ce=>?_)
  ·refine Sc ?_
   refine Ab<|Sq<|Bk<|Sq (Rg [0,1,2] ?_)
   obtain ⟨cf,cg,ch⟩:=bS cd
   obtain ⟨ci,hx71'⟩:=Ap cg
   obtain ⟨e1,e2,e3,e4,e6,rfl,hF80,hE81⟩:=Xy (Xt c4 ho) hx71'
   have cj:=hE81 _ _ hx71'
   refine Ix ci<|Lx 0 (b0.pers _ _ hF80) cj<|Vs 1<|Nss (Rg (rG 7) ?_)
   refine Vs 1 ?_
   obtain ⟨b6,cl,cm⟩:=bS ch
   refine Cl' Bf b0 (Br N c8 F2 b0.pers (hG.mono (hp.t ho)) cf _ cl) ?_
   rintro _ F4 e7 bl hv rfl
   refine Vs 5<|Nss<|Sq (Rg [0,1] ?_)
   refine Vs 2<|Nt<|Cd cm (fun cn co=>?_) (fun cn cp=>?_)
   ·refine Sq (Rg [0] ?_)
    refine Vs 1<|Nt<|Rt<|Af<|Ay<|Af<|Af<|Ay ?_
    have hret:=CV co b5
    subst hret
    refine .inr<|Af ?_
    obtain rfl:=Aa bj
    exact ReB [(.bool false)] bl.dr0 ((hp.t ho).trans hv) ⟨hr,ht,h7,h8,hh,rfl,rfl,bs,(Xt bt ((hp.t ho).trans hv)),(ba.mono ((hp.t ho).trans hv))⟩
   ·refine Sc ?_
    refine Ab<|Rg (rG 5)<|Vs 2<|Bs 3 [(vi b6.1)] bl (fun bm e8 bn=>?_)
    have cq:As AE 3 F4 (some ⟨bm,0,none⟩) 1 [b6.1] (some bm,.cells ([(vi b6.1)]:List Value).toArray 3 (0,0)):=XG ⟨rfl,rfl⟩ (by simp)
    obtain ⟨cr,ct,cu⟩:=bS cp
    refine Ap1 V5 bn (bk.mono hv) (bn.rd0 cq) ct (fun cv cw cx e9 cy cz=>?_)
    refine Vs 1<|Xm<|Av<|Ab<|Rg [0,1]<|Vs 2<|Xm ?_
    have d0:=AW cu b5
    exact ⟨ca,Nat.lt_succ_self _,(cr,(W64 (h9.2 + 1))),F4,cv,cw,cx,d0,cy.dr0,(ho.t hv),fI,cz⟩
  ·refine Ex ?_
   refine Au<|Au<|AB rfl ?_
   have d1:=AX ce b5
   exact .inl ⟨rfl,(h9.1,h9.2),F2,hx,hy,hz,d1,b0,ho,fI,bk⟩
 ·rintro f ea ⟨hl,F3,hm,hn,b4,rfl,d2,b7,⟨_,rfl⟩,bo⟩
  have d3:=BX bj
  refine Ab<|Sq (Rg (rG 5) ?_)
  refine Vs 4 ?_
  have bp:=XE bo
  obtain ⟨F5,d4,b8,bq⟩:=d2.fr0 bo
  refine St0 #[(.bool x0.o_.Report),(.bool x0.o_.Serial),(.bool x0.o_.Zone),(sv x0.l_.Call),(vi x0.l_.Category),(vi x0.l_.Power),(vi x0.l_.Claimed),(sL hm hl.1 hn),(sL h7 x0.l_.Lines h8),(fV 153 #[]),(fV 154 #[]),(fV 190 #[(pt h0 0),(pt ha 0),(pt hb 0),(pt h1 0)]),(fV 191 #[(pt h0 0),(pt h1 0)]),(fV 190 #[(pt h2 0),(pt hc 0),(pt he 0),(pt h3 0)]),(fV 191 #[(pt h2 0),(pt h3 0)]),(fV 190 #[(pt h4 0),(pt hf 0),(pt hg 0),(pt h5 0)]),(fV 191 #[(pt h4 0),(pt h5 0)]),(fV 159 #[]),(fV 160 #[]),(vi x0.done_),(.bool x0.ended_)] d4 (fun d6 b1=>?_)
  refine Nss (Rg (rG 9) ?_)
  obtain ⟨br,d7,d8⟩:=bS d3
  refine Xw (fun f w=>∃ (F6:Mem),HS wb Fb w F6 ((sb h6 #[(.bool x0.o_.Report),(.bool x0.o_.Serial),(.bool x0.o_.Zone),(sv x0.l_.Call),(vi x0.l_.Category),(vi x0.l_.Power),(vi x0.l_.Claimed),(sL hm hl.1 hn),(sL h7 x0.l_.Lines h8),(fV 153 #[]),(fV 154 #[]),(fV 190 #[(pt h0 0),(pt ha 0),(pt hb 0),(pt h1 0)]),(fV 191 #[(pt h0 0),(pt h1 0)]),(fV 190 #[(pt h2 0),(pt hc 0),(pt he 0),(pt h3 0)]),(fV 191 #[(pt h2 0),(pt h3 0)]),(fV 190 #[(pt h4 0),(pt hf 0),(pt hg 0),(pt h5 0)]),(fV 191 #[(pt h4 0),(pt h5 0)]),(fV 159 #[]),(fV 160 #[]),(vi x0.done_),(.bool x0.ended_)] 130)::hh::Lf)/\Xq F5 F6/\FI f [] [(4,(.bool br))]) ?_ ?_
  ·refine Vs 1 ?_
   obtain ⟨eb,d9,da⟩:=bS d7
   obtain ⟨db,hx127'⟩:=Ap d9
   obtain ⟨ec,ed,ee,ef,eg,rfl,hF136,hE137⟩:=Xy (Xt bh (b7.t b8)) hx127'
   have dc:=hE137 _ _ hx127'
   refine Ix db<|Lx 0 (b1.pers _ _ hF136) dc<|Vs 2<|Sp da (fun hq dd=>?_) (fun hq de=>?_)
   ·refine Vgs hq 1 ?_
    obtain ⟨eh,df,dg⟩:=bS dd
    refine Cg hq GD b1 (Hs N d6 F5 b1.pers hl.1 hm hn bp bq _ df) ?_
    rintro _ F7 ei dh di rfl
    refine Pk1 hq<|Vs 1 ?_
    obtain rfl:=Aa dg
    exact Xm ⟨rfl,F7,dh,di,fI⟩
   ·refine Ss hq 2 ?_
    refine Pk0 hq<|Vs 1 ?_
    obtain rfl:=Aa de
    exact Xm ⟨rfl,F5,b1,(Xr _),fI⟩
  ·rintro f ej ⟨F6,dj,b9,⟨_,rfl⟩⟩
   refine Ab<|Rt ?_
   obtain rfl:=Aa d8
   exact ReB [(.bool br)] dj (((hp.t b7).trans b8).trans b9) ⟨hm,hn,h7,h8,hh,rfl,rfl,bp,(Xt bq b9),(ba.mono (((hp.t b7).trans b8).trans b9))⟩
def Gj (N:Nat) (x0:Aq) (x1 z0:XL) (z1 z2:Int):Option (Aq×Bool):=
 ((Cv z0 ([32]:XL)).bind fun h2=>((strings_CutPrefix N x1 h2).bind fun h1=>((AF N h1.1).bind fun h0=>((bif (!h1.2) then some true else (bif (!h0.2) then some true else ((AQ N h0.1 z1 z2).bind fun h3=>some (!h3)))).bind fun h4=>(bif h4 then some (x0,false) else some (({o_:=({Report:=x0.o_.Report,Serial:=x0.o_.Serial,Zone:=x0.o_.Zone}:Ac),l_:=({Call:=x0.l_.Call,Category:=h0.1,Power:=x0.l_.Power,Claimed:=x0.l_.Claimed,Jumps:=x0.l_.Jumps,Lines:=x0.l_.Lines}:Log),done_:=x0.done_,ended_:=x0.ended_}:Aq),true))))))
theorem Is:Aj Tryz.prog 190:=fun _ _=>by kernel_rfl
theorem Jc (N:Nat) {wb w0:World} {Fb F0:Mem} {Lf:Own} (hG:BB F0) (ha:Nat) (x0:Aq) (hb:XM) (hc h1 hh hl h2 h3 hm hn h4 h5 ho hp h6:Nat) (he:XM) (hf:Nat) (hq:Option Nat×Obj) (hy:LC x0.l_.Jumps.length hc) (hz:SlA AE F0 hb x0.l_.Jumps) (c7:F0 h1=some (oc #[(sv (([67,65,84,69,71,79,82,89]:XL)))] 9)) (c8:F0 hh=some (oc #[(vi 1)] 3)) (c9:F0 hl=some (oc #[(vi 9)] 3)) (ca:F0 h2=some (oc #[(fV 156 #[])] 195)) (cb:F0 h3=some (oc #[(sv (([80,79,87,69,82]:XL)))] 9)) (cc:F0 hm=some (oc #[(vi 1)] 3)) (cd:F0 hn=some (oc #[(vi 9999)] 3)) (ce:F0 h4=some (oc #[(fV 157 #[])] 195)) (cf:F0 h5=some (oc #[(sv (([67,76,65,73,77,69,68]:XL)))] 9)) (cg:F0 ho=some (oc #[(vi 0)] 3)) (ch:F0 hp=some (oc #[(vi 1000000)] 3)) (ci:F0 h6=some (oc #[(fV 158 #[])] 195)) (b0:As AD 34 F0 he hf x0.l_.Lines hq) (x1:XL) (b1:Nat) (z0:XL) (bb:F0 b1=some (oc #[(sv z0)] 9)) (b2:Nat) (z1:Int) (bc:F0 b2=some (oc #[(vi z1)] 3)) (b3:Nat) (z2:Int) (bd:F0 b3=some (oc #[(vi z2)] 3)) (hu:Nat) (be:F0 hu=some (oc #[(fV 156 #[])] 195)) (hv:HS wb Fb w0 F0 ((sb ha #[(.bool x0.o_.Report),(.bool x0.o_.Serial),(.bool x0.o_.Zone),(sv x0.l_.Call),(vi x0.l_.Category),(vi x0.l_.Power),(vi x0.l_.Claimed),(sL hb x0.l_.Jumps hc),(sL he x0.l_.Lines hf),(fV 153 #[]),(fV 154 #[]),(fV 190 #[(pt h1 0),(pt hh 0),(pt hl 0),(pt h2 0)]),(fV 191 #[(pt h1 0),(pt h2 0)]),(fV 190 #[(pt h3 0),(pt hm 0),(pt hn 0),(pt h4 0)]),(fV 191 #[(pt h3 0),(pt h4 0)]),(fV 190 #[(pt h5 0),(pt ho 0),(pt hp 0),(pt h6 0)]),(fV 191 #[(pt h5 0),(pt h6 0)]),(fV 159 #[]),(fV 160 #[]),(vi x0.done_),(.bool x0.ended_)] 130)::hq::Lf)) (r:(Aq×Bool)) (h:Gj N x0 x1 z0 z1 z2=some r):
  Calls Tryz.prog 190 ([(pt ha 3),(sv x1),(pt b1 0),(pt b2 0),(pt b3 0),(pt hu 0)]:List Value).toArray w0 (EM wb Fb F0 fun F' v L'=>∃ (b4:XM) (b5:Nat) (b6:XM) (b7:Nat) (b8:Option Nat×Obj),v=(.bool r.2)/\L'=(sb ha #[(.bool r.1.o_.Report),(.bool r.1.o_.Serial),(.bool r.1.o_.Zone),(sv r.1.l_.Call),(vi r.1.l_.Category),(vi r.1.l_.Power),(vi r.1.l_.Claimed),(sL b4 r.1.l_.Jumps b5),(sL b6 r.1.l_.Lines b7),(fV 153 #[]),(fV 154 #[]),(fV 190 #[(pt h1 0),(pt hh 0),(pt hl 0),(pt h2 0)]),(fV 191 #[(pt h1 0),(pt h2 0)]),(fV 190 #[(pt h3 0),(pt hm 0),(pt hn 0),(pt h4 0)]),(fV 191 #[(pt h3 0),(pt h4 0)]),(fV 190 #[(pt h5 0),(pt ho 0),(pt hp 0),(pt h6 0)]),(fV 191 #[(pt h5 0),(pt h6 0)]),(fV 159 #[]),(fV 160 #[]),(vi r.1.done_),(.bool r.1.ended_)] 130)::b8::Lf/\LC r.1.l_.Jumps.length b5/\SlA AE F' b4 r.1.l_.Jumps/\As AD 34 F' b6 b7 r.1.l_.Lines b8):=by
 refine Go 43 Tryz.func190<|Sq (Rg [0] ?_)
 refine Vs 1<|Nss (Rg (rG 9) ?_)
 refine Vs 1<|Ld (hv.pers _ _ bb) ?_
 obtain ⟨b9,bf,bg⟩:=bS h
 refine V 16 9 (AO (t:=9) (t':=9) (x:=(.tmp 15)) (y:=(.const (sv ([32]:XL)))) (a:=z0) (b:=([32]:XL)) (v:=b9) rfl rfl bf) ?_
 obtain ⟨bh,bi,bj⟩:=bS bg
 refine Cl' A4 hv (Ba N w0 F0 hv.pers x1 b9 _ bi) ?_
 rintro _ F1 bk ba h0 rfl
 refine Vs 5<|Nss (Rg (rG 7) ?_)
 refine Vs 1 ?_
 obtain ⟨hw,bl,bm⟩:=bS bj
 refine Cl' Bf ba (Br N bk F1 ba.pers (hG.mono h0) bh.1 _ bl) ?_
 rintro _ F2 bn hg h7 rfl
 refine Vs 5<|Nss<|Sq (Rg (rG 13) ?_)
 obtain ⟨bo,bp,bq⟩:=bS bm
 refine Xw (fun f w=>∃ (F3:Mem),HS wb Fb w F3 ((sb ha #[(.bool x0.o_.Report),(.bool x0.o_.Serial),(.bool x0.o_.Zone),(sv x0.l_.Call),(vi x0.l_.Category),(vi x0.l_.Power),(vi x0.l_.Claimed),(sL hb x0.l_.Jumps hc),(sL he x0.l_.Lines hf),(fV 153 #[]),(fV 154 #[]),(fV 190 #[(pt h1 0),(pt hh 0),(pt hl 0),(pt h2 0)]),(fV 191 #[(pt h1 0),(pt h2 0)]),(fV 190 #[(pt h3 0),(pt hm 0),(pt hn 0),(pt h4 0)]),(fV 191 #[(pt h3 0),(pt h4 0)]),(fV 190 #[(pt h5 0),(pt ho 0),(pt hp 0),(pt h6 0)]),(fV 191 #[(pt h5 0),(pt h6 0)]),(fV 159 #[]),(fV 160 #[]),(vi x0.done_),(.bool x0.ended_)] 130)::hq::Lf)/\Xq F2 F3/\FI f [] [(0,(pt ha 3)),(5,(pt hu 0)),(11,(vi hw.1)),(37,(.bool bo))]) ?_ ?_
 ·refine Vs 3 ?_
  refine Sp bp (fun hr br=>?_) (fun hr bs=>?_)
  ·refine Ss hr 2 ?_
   refine Pk1 hr<|Vs 1<|Ss (rfl:true=true) 5<|Pk1 (rfl:true=true) ?_
   obtain rfl:=Aa br
   exact Xm ⟨rfl,F2,hg,(Xr _),fI⟩
  ·refine Vgs hr 2 ?_
   refine Pk0 hr<|Vs 1<|Sp bs (fun h8 bt=>?_) (fun h8 bu=>?_)
   ·refine Ss h8 5 ?_
    refine Pk1 h8 ?_
    obtain rfl:=Aa bt
    exact Xm ⟨rfl,F2,hg,(Xr _),fI⟩
   ·refine Vgs h8 1 ?_
    refine Lg h8 (hg.pers _ _ ((h0.t h7) _ _ bc))<|Lg h8 (hg.pers _ _ ((h0.t h7) _ _ bd)) ?_
    obtain ⟨cj,bv,bw⟩:=bS bu
    refine Cg h8 AC hg (AK N bn F2 hg.pers hw.1 z1 z2 _ bv) ?_
    rintro _ F4 cl bx bz rfl
    refine Vgs h8 1<|Pk0 h8 ?_
    obtain rfl:=Aa bw
    exact Xm ⟨rfl,F4,bx,bz,fI⟩
 ·rintro f c0 ⟨F3,ht,h9,⟨_,rfl⟩⟩
  refine Ab<|Cd bq (fun c1 c3=>?_) (fun c1 c4=>?_)
  ·refine Sq (Rg [0] ?_)
   refine Vs 1<|Nt<|Rt<|Af ?_
   obtain rfl:=Aa c3
   exact ReB [(.bool false)] ht ((h0.t h7).trans h9) ⟨hb,hc,he,hf,hq,rfl,rfl,hy,(Xt hz ((h0.t h7).trans h9)),(b0.mono ((h0.t h7).trans h9))⟩
  ·refine Sc ?_
   refine Ab<|Sq (Rg (rG 6) ?_)
   refine Ld (ht.pers _ _ (((h0.t h7).trans h9) _ _ be))<|Vs 1<|Cl' K2 ht (NA c0 F3 ht.pers ha 3) ?_
   rintro _ F5 cm c5 hx rfl
   refine Vs 2<|St0 #[(.bool x0.o_.Report),(.bool x0.o_.Serial),(.bool x0.o_.Zone),(sv x0.l_.Call),(vi hw.1),(vi x0.l_.Power),(vi x0.l_.Claimed),(sL hb x0.l_.Jumps hc),(sL he x0.l_.Lines hf),(fV 153 #[]),(fV 154 #[]),(fV 190 #[(pt h1 0),(pt hh 0),(pt hl 0),(pt h2 0)]),(fV 191 #[(pt h1 0),(pt h2 0)]),(fV 190 #[(pt h3 0),(pt hm 0),(pt hn 0),(pt h4 0)]),(fV 191 #[(pt h3 0),(pt h4 0)]),(fV 190 #[(pt h5 0),(pt ho 0),(pt hp 0),(pt h6 0)]),(fV 191 #[(pt h5 0),(pt h6 0)]),(fV 159 #[]),(fV 160 #[]),(vi x0.done_),(.bool x0.ended_)] c5 (fun cn c6=>?_)
   refine Nss (Rg [0] ?_)
   refine Vs 1<|Nt<|Rt ?_
   obtain rfl:=Aa c4
   exact ReB [(.bool true)] c6 (((h0.t h7).trans h9).trans hx) ⟨hb,hc,he,hf,hq,rfl,rfl,hy,(Xt hz (((h0.t h7).trans h9).trans hx)),(b0.mono (((h0.t h7).trans h9).trans hx))⟩
def Gh (N:Nat) (x0:Aq) (x1 z0:XL) (z1 z2:Int):Option (Aq×Bool):=
 ((Cv z0 ([32]:XL)).bind fun h2=>((strings_CutPrefix N x1 h2).bind fun h1=>((AF N h1.1).bind fun h0=>((bif (!h1.2) then some true else (bif (!h0.2) then some true else ((AQ N h0.1 z1 z2).bind fun h3=>some (!h3)))).bind fun h4=>(bif h4 then some (x0,false) else some (({o_:=({Report:=x0.o_.Report,Serial:=x0.o_.Serial,Zone:=x0.o_.Zone}:Ac),l_:=({Call:=x0.l_.Call,Category:=x0.l_.Category,Power:=h0.1,Claimed:=x0.l_.Claimed,Jumps:=x0.l_.Jumps,Lines:=x0.l_.Lines}:Log),done_:=x0.done_,ended_:=x0.ended_}:Aq),true))))))
theorem Iq:Aj Tryz.prog 190:=fun _ _=>by kernel_rfl
theorem Ja (N:Nat) {wb w0:World} {Fb F0:Mem} {Lf:Own} (hG:BB F0) (ha:Nat) (x0:Aq) (hb:XM) (hc h1 hh hl h2 h3 hm hn h4 h5 ho hp h6:Nat) (he:XM) (hf:Nat) (hq:Option Nat×Obj) (hy:LC x0.l_.Jumps.length hc) (hz:SlA AE F0 hb x0.l_.Jumps) (c7:F0 h1=some (oc #[(sv (([67,65,84,69,71,79,82,89]:XL)))] 9)) (c8:F0 hh=some (oc #[(vi 1)] 3)) (c9:F0 hl=some (oc #[(vi 9)] 3)) (ca:F0 h2=some (oc #[(fV 156 #[])] 195)) (cb:F0 h3=some (oc #[(sv (([80,79,87,69,82]:XL)))] 9)) (cc:F0 hm=some (oc #[(vi 1)] 3)) (cd:F0 hn=some (oc #[(vi 9999)] 3)) (ce:F0 h4=some (oc #[(fV 157 #[])] 195)) (cf:F0 h5=some (oc #[(sv (([67,76,65,73,77,69,68]:XL)))] 9)) (cg:F0 ho=some (oc #[(vi 0)] 3)) (ch:F0 hp=some (oc #[(vi 1000000)] 3)) (ci:F0 h6=some (oc #[(fV 158 #[])] 195)) (b0:As AD 34 F0 he hf x0.l_.Lines hq) (x1:XL) (b1:Nat) (z0:XL) (bb:F0 b1=some (oc #[(sv z0)] 9)) (b2:Nat) (z1:Int) (bc:F0 b2=some (oc #[(vi z1)] 3)) (b3:Nat) (z2:Int) (bd:F0 b3=some (oc #[(vi z2)] 3)) (hu:Nat) (be:F0 hu=some (oc #[(fV 157 #[])] 195)) (hv:HS wb Fb w0 F0 ((sb ha #[(.bool x0.o_.Report),(.bool x0.o_.Serial),(.bool x0.o_.Zone),(sv x0.l_.Call),(vi x0.l_.Category),(vi x0.l_.Power),(vi x0.l_.Claimed),(sL hb x0.l_.Jumps hc),(sL he x0.l_.Lines hf),(fV 153 #[]),(fV 154 #[]),(fV 190 #[(pt h1 0),(pt hh 0),(pt hl 0),(pt h2 0)]),(fV 191 #[(pt h1 0),(pt h2 0)]),(fV 190 #[(pt h3 0),(pt hm 0),(pt hn 0),(pt h4 0)]),(fV 191 #[(pt h3 0),(pt h4 0)]),(fV 190 #[(pt h5 0),(pt ho 0),(pt hp 0),(pt h6 0)]),(fV 191 #[(pt h5 0),(pt h6 0)]),(fV 159 #[]),(fV 160 #[]),(vi x0.done_),(.bool x0.ended_)] 130)::hq::Lf)) (r:(Aq×Bool)) (h:Gh N x0 x1 z0 z1 z2=some r):
  Calls Tryz.prog 190 ([(pt ha 3),(sv x1),(pt b1 0),(pt b2 0),(pt b3 0),(pt hu 0)]:List Value).toArray w0 (EM wb Fb F0 fun F' v L'=>∃ (b4:XM) (b5:Nat) (b6:XM) (b7:Nat) (b8:Option Nat×Obj),v=(.bool r.2)/\L'=(sb ha #[(.bool r.1.o_.Report),(.bool r.1.o_.Serial),(.bool r.1.o_.Zone),(sv r.1.l_.Call),(vi r.1.l_.Category),(vi r.1.l_.Power),(vi r.1.l_.Claimed),(sL b4 r.1.l_.Jumps b5),(sL b6 r.1.l_.Lines b7),(fV 153 #[]),(fV 154 #[]),(fV 190 #[(pt h1 0),(pt hh 0),(pt hl 0),(pt h2 0)]),(fV 191 #[(pt h1 0),(pt h2 0)]),(fV 190 #[(pt h3 0),(pt hm 0),(pt hn 0),(pt h4 0)]),(fV 191 #[(pt h3 0),(pt h4 0)]),(fV 190 #[(pt h5 0),(pt ho 0),(pt hp 0),(pt h6 0)]),(fV 191 #[(pt h5 0),(pt h6 0)]),(fV 159 #[]),(fV 160 #[]),(vi r.1.done_),(.bool r.1.ended_)] 130)::b8::Lf/\LC r.1.l_.Jumps.length b5/\SlA AE F' b4 r.1.l_.Jumps/\As AD 34 F' b6 b7 r.1.l_.Lines b8):=by
 refine Go 43 Tryz.func190<|Sq (Rg [0] ?_)
 refine Vs 1<|Nss (Rg (rG 9) ?_)
 refine Vs 1<|Ld (hv.pers _ _ bb) ?_
 obtain ⟨b9,bf,bg⟩:=bS h
 refine V 16 9 (AO (t:=9) (t':=9) (x:=(.tmp 15)) (y:=(.const (sv ([32]:XL)))) (a:=z0) (b:=([32]:XL)) (v:=b9) rfl rfl bf) ?_
 obtain ⟨bh,bi,bj⟩:=bS bg
 refine Cl' A4 hv (Ba N w0 F0 hv.pers x1 b9 _ bi) ?_
 rintro _ F1 bk ba h0 rfl
 refine Vs 5<|Nss (Rg (rG 7) ?_)
 refine Vs 1 ?_
 obtain ⟨hw,bl,bm⟩:=bS bj
 refine Cl' Bf ba (Br N bk F1 ba.pers (hG.mono h0) bh.1 _ bl) ?_
 rintro _ F2 bn hg h7 rfl
 refine Vs 5<|Nss<|Sq (Rg (rG 13) ?_)
 obtain ⟨bo,bp,bq⟩:=bS bm
 refine Xw (fun f w=>∃ (F3:Mem),HS wb Fb w F3 ((sb ha #[(.bool x0.o_.Report),(.bool x0.o_.Serial),(.bool x0.o_.Zone),(sv x0.l_.Call),(vi x0.l_.Category),(vi x0.l_.Power),(vi x0.l_.Claimed),(sL hb x0.l_.Jumps hc),(sL he x0.l_.Lines hf),(fV 153 #[]),(fV 154 #[]),(fV 190 #[(pt h1 0),(pt hh 0),(pt hl 0),(pt h2 0)]),(fV 191 #[(pt h1 0),(pt h2 0)]),(fV 190 #[(pt h3 0),(pt hm 0),(pt hn 0),(pt h4 0)]),(fV 191 #[(pt h3 0),(pt h4 0)]),(fV 190 #[(pt h5 0),(pt ho 0),(pt hp 0),(pt h6 0)]),(fV 191 #[(pt h5 0),(pt h6 0)]),(fV 159 #[]),(fV 160 #[]),(vi x0.done_),(.bool x0.ended_)] 130)::hq::Lf)/\Xq F2 F3/\FI f [] [(0,(pt ha 3)),(5,(pt hu 0)),(11,(vi hw.1)),(37,(.bool bo))]) ?_ ?_
 ·refine Vs 3 ?_
  refine Sp bp (fun hr br=>?_) (fun hr bs=>?_)
  ·refine Ss hr 2 ?_
   refine Pk1 hr<|Vs 1<|Ss (rfl:true=true) 5<|Pk1 (rfl:true=true) ?_
   obtain rfl:=Aa br
   exact Xm ⟨rfl,F2,hg,(Xr _),fI⟩
  ·refine Vgs hr 2 ?_
   refine Pk0 hr<|Vs 1<|Sp bs (fun h8 bt=>?_) (fun h8 bu=>?_)
   ·refine Ss h8 5 ?_
    refine Pk1 h8 ?_
    obtain rfl:=Aa bt
    exact Xm ⟨rfl,F2,hg,(Xr _),fI⟩
   ·refine Vgs h8 1 ?_
    refine Lg h8 (hg.pers _ _ ((h0.t h7) _ _ bc))<|Lg h8 (hg.pers _ _ ((h0.t h7) _ _ bd)) ?_
    obtain ⟨cj,bv,bw⟩:=bS bu
    refine Cg h8 AC hg (AK N bn F2 hg.pers hw.1 z1 z2 _ bv) ?_
    rintro _ F4 cl bx bz rfl
    refine Vgs h8 1<|Pk0 h8 ?_
    obtain rfl:=Aa bw
    exact Xm ⟨rfl,F4,bx,bz,fI⟩
 ·rintro f c0 ⟨F3,ht,h9,⟨_,rfl⟩⟩
  refine Ab<|Cd bq (fun c1 c3=>?_) (fun c1 c4=>?_)
  ·refine Sq (Rg [0] ?_)
   refine Vs 1<|Nt<|Rt<|Af ?_
   obtain rfl:=Aa c3
   exact ReB [(.bool false)] ht ((h0.t h7).trans h9) ⟨hb,hc,he,hf,hq,rfl,rfl,hy,(Xt hz ((h0.t h7).trans h9)),(b0.mono ((h0.t h7).trans h9))⟩
  ·refine Sc ?_
   refine Ab<|Sq (Rg (rG 6) ?_)
   refine Ld (ht.pers _ _ (((h0.t h7).trans h9) _ _ be))<|Vs 1<|Cl' K1 ht (Nz c0 F3 ht.pers ha 3) ?_
   rintro _ F5 cm c5 hx rfl
   refine Vs 2<|St0 #[(.bool x0.o_.Report),(.bool x0.o_.Serial),(.bool x0.o_.Zone),(sv x0.l_.Call),(vi x0.l_.Category),(vi hw.1),(vi x0.l_.Claimed),(sL hb x0.l_.Jumps hc),(sL he x0.l_.Lines hf),(fV 153 #[]),(fV 154 #[]),(fV 190 #[(pt h1 0),(pt hh 0),(pt hl 0),(pt h2 0)]),(fV 191 #[(pt h1 0),(pt h2 0)]),(fV 190 #[(pt h3 0),(pt hm 0),(pt hn 0),(pt h4 0)]),(fV 191 #[(pt h3 0),(pt h4 0)]),(fV 190 #[(pt h5 0),(pt ho 0),(pt hp 0),(pt h6 0)]),(fV 191 #[(pt h5 0),(pt h6 0)]),(fV 159 #[]),(fV 160 #[]),(vi x0.done_),(.bool x0.ended_)] c5 (fun cn c6=>?_)
   refine Nss (Rg [0] ?_)
   refine Vs 1<|Nt<|Rt ?_
   obtain rfl:=Aa c4
   exact ReB [(.bool true)] c6 (((h0.t h7).trans h9).trans hx) ⟨hb,hc,he,hf,hq,rfl,rfl,hy,(Xt hz (((h0.t h7).trans h9).trans hx)),(b0.mono (((h0.t h7).trans h9).trans hx))⟩
def Gi (N:Nat) (x0:Aq) (x1 z0:XL) (z1 z2:Int):Option (Aq×Bool):=
 ((Cv z0 ([32]:XL)).bind fun h2=>((strings_CutPrefix N x1 h2).bind fun h1=>((AF N h1.1).bind fun h0=>((bif (!h1.2) then some true else (bif (!h0.2) then some true else ((AQ N h0.1 z1 z2).bind fun h3=>some (!h3)))).bind fun h4=>(bif h4 then some (x0,false) else some (({o_:=({Report:=x0.o_.Report,Serial:=x0.o_.Serial,Zone:=x0.o_.Zone}:Ac),l_:=({Call:=x0.l_.Call,Category:=x0.l_.Category,Power:=x0.l_.Power,Claimed:=h0.1,Jumps:=x0.l_.Jumps,Lines:=x0.l_.Lines}:Log),done_:=x0.done_,ended_:=x0.ended_}:Aq),true))))))
theorem Ir:Aj Tryz.prog 190:=fun _ _=>by kernel_rfl
theorem Jb (N:Nat) {wb w0:World} {Fb F0:Mem} {Lf:Own} (hG:BB F0) (ha:Nat) (x0:Aq) (hb:XM) (hc h1 hh hl h2 h3 hm hn h4 h5 ho hp h6:Nat) (he:XM) (hf:Nat) (hq:Option Nat×Obj) (hy:LC x0.l_.Jumps.length hc) (hz:SlA AE F0 hb x0.l_.Jumps) (c7:F0 h1=some (oc #[(sv (([67,65,84,69,71,79,82,89]:XL)))] 9)) (c8:F0 hh=some (oc #[(vi 1)] 3)) (c9:F0 hl=some (oc #[(vi 9)] 3)) (ca:F0 h2=some (oc #[(fV 156 #[])] 195)) (cb:F0 h3=some (oc #[(sv (([80,79,87,69,82]:XL)))] 9)) (cc:F0 hm=some (oc #[(vi 1)] 3)) (cd:F0 hn=some (oc #[(vi 9999)] 3)) (ce:F0 h4=some (oc #[(fV 157 #[])] 195)) (cf:F0 h5=some (oc #[(sv (([67,76,65,73,77,69,68]:XL)))] 9)) (cg:F0 ho=some (oc #[(vi 0)] 3)) (ch:F0 hp=some (oc #[(vi 1000000)] 3)) (ci:F0 h6=some (oc #[(fV 158 #[])] 195)) (b0:As AD 34 F0 he hf x0.l_.Lines hq) (x1:XL) (b1:Nat) (z0:XL) (bb:F0 b1=some (oc #[(sv z0)] 9)) (b2:Nat) (z1:Int) (bc:F0 b2=some (oc #[(vi z1)] 3)) (b3:Nat) (z2:Int) (bd:F0 b3=some (oc #[(vi z2)] 3)) (hu:Nat) (be:F0 hu=some (oc #[(fV 158 #[])] 195)) (hv:HS wb Fb w0 F0 ((sb ha #[(.bool x0.o_.Report),(.bool x0.o_.Serial),(.bool x0.o_.Zone),(sv x0.l_.Call),(vi x0.l_.Category),(vi x0.l_.Power),(vi x0.l_.Claimed),(sL hb x0.l_.Jumps hc),(sL he x0.l_.Lines hf),(fV 153 #[]),(fV 154 #[]),(fV 190 #[(pt h1 0),(pt hh 0),(pt hl 0),(pt h2 0)]),(fV 191 #[(pt h1 0),(pt h2 0)]),(fV 190 #[(pt h3 0),(pt hm 0),(pt hn 0),(pt h4 0)]),(fV 191 #[(pt h3 0),(pt h4 0)]),(fV 190 #[(pt h5 0),(pt ho 0),(pt hp 0),(pt h6 0)]),(fV 191 #[(pt h5 0),(pt h6 0)]),(fV 159 #[]),(fV 160 #[]),(vi x0.done_),(.bool x0.ended_)] 130)::hq::Lf)) (r:(Aq×Bool)) (h:Gi N x0 x1 z0 z1 z2=some r):
  Calls Tryz.prog 190 ([(pt ha 3),(sv x1),(pt b1 0),(pt b2 0),(pt b3 0),(pt hu 0)]:List Value).toArray w0 (EM wb Fb F0 fun F' v L'=>∃ (b4:XM) (b5:Nat) (b6:XM) (b7:Nat) (b8:Option Nat×Obj),v=(.bool r.2)/\L'=(sb ha #[(.bool r.1.o_.Report),(.bool r.1.o_.Serial),(.bool r.1.o_.Zone),(sv r.1.l_.Call),(vi r.1.l_.Category),(vi r.1.l_.Power),(vi r.1.l_.Claimed),(sL b4 r.1.l_.Jumps b5),(sL b6 r.1.l_.Lines b7),(fV 153 #[]),(fV 154 #[]),(fV 190 #[(pt h1 0),(pt hh 0),(pt hl 0),(pt h2 0)]),(fV 191 #[(pt h1 0),(pt h2 0)]),(fV 190 #[(pt h3 0),(pt hm 0),(pt hn 0),(pt h4 0)]),(fV 191 #[(pt h3 0),(pt h4 0)]),(fV 190 #[(pt h5 0),(pt ho 0),(pt hp 0),(pt h6 0)]),(fV 191 #[(pt h5 0),(pt h6 0)]),(fV 159 #[]),(fV 160 #[]),(vi r.1.done_),(.bool r.1.ended_)] 130)::b8::Lf/\LC r.1.l_.Jumps.length b5/\SlA AE F' b4 r.1.l_.Jumps/\As AD 34 F' b6 b7 r.1.l_.Lines b8):=by
 refine Go 43 Tryz.func190<|Sq (Rg [0] ?_)
 refine Vs 1<|Nss (Rg (rG 9) ?_)
 refine Vs 1<|Ld (hv.pers _ _ bb) ?_
 obtain ⟨b9,bf,bg⟩:=bS h
 refine V 16 9 (AO (t:=9) (t':=9) (x:=(.tmp 15)) (y:=(.const (sv ([32]:XL)))) (a:=z0) (b:=([32]:XL)) (v:=b9) rfl rfl bf) ?_
 obtain ⟨bh,bi,bj⟩:=bS bg
 refine Cl' A4 hv (Ba N w0 F0 hv.pers x1 b9 _ bi) ?_
 rintro _ F1 bk ba h0 rfl
 refine Vs 5<|Nss (Rg (rG 7) ?_)
 refine Vs 1 ?_
 obtain ⟨hw,bl,bm⟩:=bS bj
 refine Cl' Bf ba (Br N bk F1 ba.pers (hG.mono h0) bh.1 _ bl) ?_
 rintro _ F2 bn hg h7 rfl
 refine Vs 5<|Nss<|Sq (Rg (rG 13) ?_)
 obtain ⟨bo,bp,bq⟩:=bS bm
 refine Xw (fun f w=>∃ (F3:Mem),HS wb Fb w F3 ((sb ha #[(.bool x0.o_.Report),(.bool x0.o_.Serial),(.bool x0.o_.Zone),(sv x0.l_.Call),(vi x0.l_.Category),(vi x0.l_.Power),(vi x0.l_.Claimed),(sL hb x0.l_.Jumps hc),(sL he x0.l_.Lines hf),(fV 153 #[]),(fV 154 #[]),(fV 190 #[(pt h1 0),(pt hh 0),(pt hl 0),(pt h2 0)]),(fV 191 #[(pt h1 0),(pt h2 0)]),(fV 190 #[(pt h3 0),(pt hm 0),(pt hn 0),(pt h4 0)]),(fV 191 #[(pt h3 0),(pt h4 0)]),(fV 190 #[(pt h5 0),(pt ho 0),(pt hp 0),(pt h6 0)]),(fV 191 #[(pt h5 0),(pt h6 0)]),(fV 159 #[]),(fV 160 #[]),(vi x0.done_),(.bool x0.ended_)] 130)::hq::Lf)/\Xq F2 F3/\FI f [] [(0,(pt ha 3)),(5,(pt hu 0)),(11,(vi hw.1)),(37,(.bool bo))]) ?_ ?_
 ·refine Vs 3 ?_
  refine Sp bp (fun hr br=>?_) (fun hr bs=>?_)
  ·refine Ss hr 2 ?_
   refine Pk1 hr<|Vs 1<|Ss (rfl:true=true) 5<|Pk1 (rfl:true=true) ?_
   obtain rfl:=Aa br
   exact Xm ⟨rfl,F2,hg,(Xr _),fI⟩
  ·refine Vgs hr 2 ?_
   refine Pk0 hr<|Vs 1<|Sp bs (fun h8 bt=>?_) (fun h8 bu=>?_)
   ·refine Ss h8 5 ?_
    refine Pk1 h8 ?_
    obtain rfl:=Aa bt
    exact Xm ⟨rfl,F2,hg,(Xr _),fI⟩
   ·refine Vgs h8 1 ?_
    refine Lg h8 (hg.pers _ _ ((h0.t h7) _ _ bc))<|Lg h8 (hg.pers _ _ ((h0.t h7) _ _ bd)) ?_
    obtain ⟨cj,bv,bw⟩:=bS bu
    refine Cg h8 AC hg (AK N bn F2 hg.pers hw.1 z1 z2 _ bv) ?_
    rintro _ F4 cl bx bz rfl
    refine Vgs h8 1<|Pk0 h8 ?_
    obtain rfl:=Aa bw
    exact Xm ⟨rfl,F4,bx,bz,fI⟩
 ·rintro f c0 ⟨F3,ht,h9,⟨_,rfl⟩⟩
  refine Ab<|Cd bq (fun c1 c3=>?_) (fun c1 c4=>?_)
  ·refine Sq (Rg [0] ?_)
   refine Vs 1<|Nt<|Rt<|Af ?_
   obtain rfl:=Aa c3
   exact ReB [(.bool false)] ht ((h0.t h7).trans h9) ⟨hb,hc,he,hf,hq,rfl,rfl,hy,(Xt hz ((h0.t h7).trans h9)),(b0.mono ((h0.t h7).trans h9))⟩
  ·refine Sc ?_
   refine Ab<|Sq (Rg (rG 6) ?_)
   refine Ld (ht.pers _ _ (((h0.t h7).trans h9) _ _ be))<|Vs 1<|Cl' K0 ht (Ny c0 F3 ht.pers ha 3) ?_
   rintro _ F5 cm c5 hx rfl
   refine Vs 2<|St0 #[(.bool x0.o_.Report),(.bool x0.o_.Serial),(.bool x0.o_.Zone),(sv x0.l_.Call),(vi x0.l_.Category),(vi x0.l_.Power),(vi hw.1),(sL hb x0.l_.Jumps hc),(sL he x0.l_.Lines hf),(fV 153 #[]),(fV 154 #[]),(fV 190 #[(pt h1 0),(pt hh 0),(pt hl 0),(pt h2 0)]),(fV 191 #[(pt h1 0),(pt h2 0)]),(fV 190 #[(pt h3 0),(pt hm 0),(pt hn 0),(pt h4 0)]),(fV 191 #[(pt h3 0),(pt h4 0)]),(fV 190 #[(pt h5 0),(pt ho 0),(pt hp 0),(pt h6 0)]),(fV 191 #[(pt h5 0),(pt h6 0)]),(fV 159 #[]),(fV 160 #[]),(vi x0.done_),(.bool x0.ended_)] c5 (fun cn c6=>?_)
   refine Nss (Rg [0] ?_)
   refine Vs 1<|Nt<|Rt ?_
   obtain rfl:=Aa c4
   exact ReB [(.bool true)] c6 (((h0.t h7).trans h9).trans hx) ⟨hb,hc,he,hf,hq,rfl,rfl,hy,(Xt hz (((h0.t h7).trans h9).trans hx)),(b0.mono (((h0.t h7).trans h9).trans hx))⟩
def Gg (N:Nat) (x0:Aq) (x1:XL):Option (Aq×Bool×Bool):=
 (bif x0.ended_ then some (x0,false,false) else (bif (decide (x0.done_ < 5)) then ((bif (decide (x0.done_=0)) then ((H8 N x0 x1).bind fun h1=>some (h1.2,h1.1.o_.Report,h1.1.o_.Serial,h1.1.o_.Zone,h1.1.l_.Call,h1.1.l_.Category,h1.1.l_.Power,h1.1.l_.Claimed,h1.1.l_.Jumps,h1.1.l_.Lines,h1.1.done_,h1.1.ended_)) else (bif (decide (x0.done_=1)) then ((Gj N x0 x1 ([67,65,84,69,71,79,82,89]:XL) 1 9).bind fun h2=>some (h2.2,h2.1.o_.Report,h2.1.o_.Serial,h2.1.o_.Zone,h2.1.l_.Call,h2.1.l_.Category,h2.1.l_.Power,h2.1.l_.Claimed,h2.1.l_.Jumps,h2.1.l_.Lines,h2.1.done_,h2.1.ended_)) else (bif (decide (x0.done_=2)) then ((Gh N x0 x1 ([80,79,87,69,82]:XL) 1 9999).bind fun h3=>some (h3.2,h3.1.o_.Report,h3.1.o_.Serial,h3.1.o_.Zone,h3.1.l_.Call,h3.1.l_.Category,h3.1.l_.Power,h3.1.l_.Claimed,h3.1.l_.Jumps,h3.1.l_.Lines,h3.1.done_,h3.1.ended_)) else (bif (decide (x0.done_=3)) then ((Gi N x0 x1 ([67,76,65,73,77,69,68]:XL) 0 1000000).bind fun h4=>some (h4.2,h4.1.o_.Report,h4.1.o_.Serial,h4.1.o_.Zone,h4.1.l_.Call,h4.1.l_.Category,h4.1.l_.Power,h4.1.l_.Claimed,h4.1.l_.Jumps,h4.1.l_.Lines,h4.1.done_,h4.1.ended_)) else (bif (decide (x0.done_=4)) then ((HC N x0 x1).bind fun h5=>some (h5.2,h5.1.o_.Report,h5.1.o_.Serial,h5.1.o_.Zone,h5.1.l_.Call,h5.1.l_.Category,h5.1.l_.Power,h5.1.l_.Claimed,h5.1.l_.Jumps,h5.1.l_.Lines,h5.1.done_,h5.1.ended_)) else none))))).bind fun h0=>((bif h0.1 then some (W64 (h0.2.2.2.2.2.2.2.2.2.2.1 + 1)) else some h0.2.2.2.2.2.2.2.2.2.2.1).bind fun h7=>some (({o_:=({Report:=h0.2.1,Serial:=h0.2.2.1,Zone:=h0.2.2.2.1}:Ac),l_:=({Call:=h0.2.2.2.2.1,Category:=h0.2.2.2.2.2.1,Power:=h0.2.2.2.2.2.2.1,Claimed:=h0.2.2.2.2.2.2.2.1,Jumps:=h0.2.2.2.2.2.2.2.2.1,Lines:=h0.2.2.2.2.2.2.2.2.2.1}:Log),done_:=h7,ended_:=h0.2.2.2.2.2.2.2.2.2.2.2}:Aq),h0.1,false))) else (bif (x1==([69,78,68]:XL)) then some (({o_:=({Report:=x0.o_.Report,Serial:=x0.o_.Serial,Zone:=x0.o_.Zone}:Ac),l_:=x0.l_,done_:=x0.done_,ended_:=true}:Aq),true,false) else ((Dh N ({Report:=x0.o_.Report,Serial:=x0.o_.Serial,Zone:=x0.o_.Zone}:Ac) x1).bind fun h6=>((bif (decide ((x0.l_.Lines.length:Int) > 0)) then ((idx x0.l_.Lines (W64 ((x0.l_.Lines.length:Int) - 1))).bind fun h8=>(bif (decide (h6.1.Num<=h8.Num)) then some true else ((idx x0.l_.Lines (W64 ((x0.l_.Lines.length:Int) - 1))).bind fun h9=>(bif (decide (h6.1.Minute < h9.Minute)) then some true else some (h6.2 !=0))))) else some (h6.2 !=0)).bind fun ha=>(bif ha then some (x0,false,false) else (bif ((x0.l_.Lines.length:Int)==400) then some (x0,false,true) else (((DM x0.l_.Lines [h6.1]).bind fun hb=>some hb).bind fun hc=>some (({o_:=({Report:=x0.o_.Report,Serial:=x0.o_.Serial,Zone:=x0.o_.Zone}:Ac),l_:=({Call:=x0.l_.Call,Category:=x0.l_.Category,Power:=x0.l_.Power,Claimed:=x0.l_.Claimed,Jumps:=x0.l_.Jumps,Lines:=hc}:Log),done_:=x0.done_,ended_:=x0.ended_}:Aq),true,false)))))))))
theorem Ip:Aj Tryz.prog 106:=fun _ _=>by kernel_rfl
theorem I9 (N:Nat) {wb w0:World} {Fb F0:Mem} {Lf:Own} (hG:BB F0) (h0:Nat) (x0:Aq) (hg:XM) (hh h2 h9 ha h3 h4 hb hc h5 h6 he hf h7:Nat) (hn:XM) (hm:Nat) (hr:Option Nat×Obj) (hv:LC x0.l_.Jumps.length hh) (hw:SlA AE F0 hg x0.l_.Jumps) (b1:F0 h2=some (oc #[(sv (([67,65,84,69,71,79,82,89]:XL)))] 9)) (b2:F0 h9=some (oc #[(vi 1)] 3)) (b3:F0 ha=some (oc #[(vi 9)] 3)) (b4:F0 h3=some (oc #[(fV 156 #[])] 195)) (b5:F0 h4=some (oc #[(sv (([80,79,87,69,82]:XL)))] 9)) (b6:F0 hb=some (oc #[(vi 1)] 3)) (b7:F0 hc=some (oc #[(vi 9999)] 3)) (b8:F0 h5=some (oc #[(fV 157 #[])] 195)) (b9:F0 h6=some (oc #[(sv (([67,76,65,73,77,69,68]:XL)))] 9)) (ba:F0 he=some (oc #[(vi 0)] 3)) (bb:F0 hf=some (oc #[(vi 1000000)] 3)) (bc:F0 h7=some (oc #[(fV 158 #[])] 195)) (ht:As AD 34 F0 hn hm x0.l_.Lines hr) (x1:XL) (b0:HS wb Fb w0 F0 ((sb h0 #[(.bool x0.o_.Report),(.bool x0.o_.Serial),(.bool x0.o_.Zone),(sv x0.l_.Call),(vi x0.l_.Category),(vi x0.l_.Power),(vi x0.l_.Claimed),(sL hg x0.l_.Jumps hh),(sL hn x0.l_.Lines hm),(fV 153 #[]),(fV 154 #[]),(fV 190 #[(pt h2 0),(pt h9 0),(pt ha 0),(pt h3 0)]),(fV 191 #[(pt h2 0),(pt h3 0)]),(fV 190 #[(pt h4 0),(pt hb 0),(pt hc 0),(pt h5 0)]),(fV 191 #[(pt h4 0),(pt h5 0)]),(fV 190 #[(pt h6 0),(pt he 0),(pt hf 0),(pt h7 0)]),(fV 191 #[(pt h6 0),(pt h7 0)]),(fV 159 #[]),(fV 160 #[]),(vi x0.done_),(.bool x0.ended_)] 130)::hr::Lf)) (r:(Aq×Bool×Bool)) (h:Gg N x0 x1=some r):
  Calls Tryz.prog 106 ([(pt h0 0),(sv x1)]:List Value).toArray w0 (EM wb Fb F0 fun F' v L'=>∃ (bu:XM) (bv:Nat) (bw:XM) (bx:Nat) (bz:Option Nat×Obj),v=(.tuple #[(.bool r.2.1),(.bool r.2.2)])/\L'=(sb h0 #[(.bool r.1.o_.Report),(.bool r.1.o_.Serial),(.bool r.1.o_.Zone),(sv r.1.l_.Call),(vi r.1.l_.Category),(vi r.1.l_.Power),(vi r.1.l_.Claimed),(sL bu r.1.l_.Jumps bv),(sL bw r.1.l_.Lines bx),(fV 153 #[]),(fV 154 #[]),(fV 190 #[(pt h2 0),(pt h9 0),(pt ha 0),(pt h3 0)]),(fV 191 #[(pt h2 0),(pt h3 0)]),(fV 190 #[(pt h4 0),(pt hb 0),(pt hc 0),(pt h5 0)]),(fV 191 #[(pt h4 0),(pt h5 0)]),(fV 190 #[(pt h6 0),(pt he 0),(pt hf 0),(pt h7 0)]),(fV 191 #[(pt h6 0),(pt h7 0)]),(fV 159 #[]),(fV 160 #[]),(vi r.1.done_),(.bool r.1.ended_)] 130)::bz::Lf/\LC r.1.l_.Jumps.length bv/\SlA AE F' bu r.1.l_.Jumps/\As AD 34 F' bw bx r.1.l_.Lines bz):=by
 refine Go 120 Tryz.func106<|Sq (Rg [0,1] ?_)
 refine Vs 2<|Nss<|Bk<|Sq (Rg (rG 5) ?_)
 refine Vs 3<|Ld b0.at0<|Vs 1<|Nt<|Cd h (fun co cp=>?_) (fun co cq=>?_)
 ·refine Sq (Rg [0,1] ?_)
  refine Vs 2<|Nt<|Rt<|Ay<|Af ?_
  obtain rfl:=Aa cp
  exact ReB [(.bool false),(.bool false)] b0 (Xr _) ⟨hg,hh,hn,hm,hr,rfl,rfl,hv,hw,ht⟩
 ·refine Sq (Rg (rG 6) ?_)
  refine Vs 3<|Ld b0.at0<|Vs 2<|Nt<|Cd cq (fun cr ct=>?_) (fun cr cu=>?_)
  ·refine Sq ?_
   refine Sq ?_
   obtain ⟨h8,cv,cw⟩:=bS ct
   refine RD 16 16 [] [] b0 (fun f w=>∃ (F1:Mem) (bd:XM) (be:Nat) (bf:XM) (bg:Nat) (bi:Option Nat×Obj),HS wb Fb w F1 ((sb h0 #[(.bool h8.2.1),(.bool h8.2.2.1),(.bool h8.2.2.2.1),(sv h8.2.2.2.2.1),(vi h8.2.2.2.2.2.1),(vi h8.2.2.2.2.2.2.1),(vi h8.2.2.2.2.2.2.2.1),(sL bd h8.2.2.2.2.2.2.2.2.1 be),(sL bf h8.2.2.2.2.2.2.2.2.2.1 bg),(fV 153 #[]),(fV 154 #[]),(fV 190 #[(pt h2 0),(pt h9 0),(pt ha 0),(pt h3 0)]),(fV 191 #[(pt h2 0),(pt h3 0)]),(fV 190 #[(pt h4 0),(pt hb 0),(pt hc 0),(pt h5 0)]),(fV 191 #[(pt h4 0),(pt h5 0)]),(fV 190 #[(pt h6 0),(pt he 0),(pt hf 0),(pt h7 0)]),(fV 191 #[(pt h6 0),(pt h7 0)]),(fV 159 #[]),(fV 160 #[]),(vi h8.2.2.2.2.2.2.2.2.2.2.1),(.bool h8.2.2.2.2.2.2.2.2.2.2.2)] 130)::bi::Lf)/\Xq F0 F1/\FI f [] [(0,(pt h0 0)),(4,(.bool h8.1))]/\LC h8.2.2.2.2.2.2.2.2.1.length be/\SlA AE F1 bd h8.2.2.2.2.2.2.2.2.1/\As AD 34 F1 bf bg h8.2.2.2.2.2.2.2.2.2.1 bi) (fun it hp=>?_) ?_
   ·refine Dv [0,1,2,3,5,6,10,11,12,13] ?_
    refine D1 4<|XA (l':=[true,true,true,true,true,true,true,false,false,false,true,true,true,true,false,false]) (zd:=true) (by kernel_rfl) (by kernel_rfl) (dst:=(some 24)) (ty:=3) (g:=none) (by kernel_rfl) rfl (BH (t:=3) (x:=(.tmp 23)) (b:=h0) (o:=19) (g:=false) (s:=1) (C:=#[(.bool x0.o_.Report),(.bool x0.o_.Serial),(.bool x0.o_.Zone),(sv x0.l_.Call),(vi x0.l_.Category),(vi x0.l_.Power),(vi x0.l_.Claimed),(sL hg x0.l_.Jumps hh),(sL hn x0.l_.Lines hm),(fV 153 #[]),(fV 154 #[]),(fV 190 #[(pt h2 0),(pt h9 0),(pt ha 0),(pt h3 0)]),(fV 191 #[(pt h2 0),(pt h3 0)]),(fV 190 #[(pt h4 0),(pt hb 0),(pt hc 0),(pt h5 0)]),(fV 191 #[(pt h4 0),(pt h5 0)]),(fV 190 #[(pt h6 0),(pt he 0),(pt hf 0),(pt h7 0)]),(fV 191 #[(pt h6 0),(pt h7 0)]),(fV 159 #[]),(fV 160 #[]),(vi x0.done_),(.bool x0.ended_)]) (v:=(vi x0.done_)) rfl (by kernel_rfl) hp.at0 rfl rfl rfl) (Be hp (Xr _) (by simp) (fun e=>by cases e))<|Sd cv (fun c0 cx=>?_) (fun c0 cy=>?_)
    ·refine Dt 7 27 0 (pt h0 9) (fun _ hq=>J1 (t:=110) (E:=109) (len:=5) (s:=2) (g:=true) (x:=(.tmp 26)) (y:=(.tmp 24)) (k:=.i64) (b:=h0) (o0:=9) (o1:=9) (i:=x0.done_) (n:=0) rfl rfl (by kernel_rfl) (by kernel_rfl) c0 (by decide) rfl) ?_
     refine Dv [8]<|D1 9<|XA (l':=[true,true,true,true,true,true,true,true,true,true,true,true,true,true,false,false]) (zd:=true) (by kernel_rfl) (by kernel_rfl) (dst:=(some 29)) (ty:=106) (g:=none) (by kernel_rfl) rfl (BH (t:=106) (x:=(.tmp 28)) (b:=h0) (o:=9) (g:=false) (s:=1) (C:=#[(.bool x0.o_.Report),(.bool x0.o_.Serial),(.bool x0.o_.Zone),(sv x0.l_.Call),(vi x0.l_.Category),(vi x0.l_.Power),(vi x0.l_.Claimed),(sL hg x0.l_.Jumps hh),(sL hn x0.l_.Lines hm),(fV 153 #[]),(fV 154 #[]),(fV 190 #[(pt h2 0),(pt h9 0),(pt ha 0),(pt h3 0)]),(fV 191 #[(pt h2 0),(pt h3 0)]),(fV 190 #[(pt h4 0),(pt hb 0),(pt hc 0),(pt h5 0)]),(fV 191 #[(pt h4 0),(pt h5 0)]),(fV 190 #[(pt h6 0),(pt he 0),(pt hf 0),(pt h7 0)]),(fV 191 #[(pt h6 0),(pt h7 0)]),(fV 159 #[]),(fV 160 #[]),(vi x0.done_),(.bool x0.ended_)]) (v:=(fV 153 #[])) rfl (by kernel_rfl) hp.at0 rfl rfl rfl) (Be hp (Xr _) (by simp) (fun e=>by cases e))<|D1 14 ?_
     obtain ⟨iu,cz,d0⟩:=bS cx
     refine DCB Ks (La N hG h0 x0 hg hh h2 h9 ha h3 h4 hb hc h5 h6 he hf h7 hn hm hr hv hw b1 b2 b3 b4 b5 b6 b7 b8 b9 ba bb bc ht x1 hp _ cz) ?_
     rintro _ F2 iv _ c1 c3 ⟨d1,d2,d3,d4,d6,rfl,rfl,d7,d8,d9⟩
     refine ⟨Be c1 c3 (by simp) (zdT (by kernel_rfl)),?_⟩
     refine Dv [15] ?_
     obtain rfl:=Aa d0
     exact XD (by kernel_rfl) ⟨F2,d1,d2,d3,d4,d6,c1,c3,fI,d7,d8,d9⟩
    ·refine Sd cy (fun c4 da=>?_) (fun c4 db=>?_)
     ·refine Dt 7 27 0 (pt h0 11) (fun _ hq=>J1 (t:=110) (E:=109) (len:=5) (s:=2) (g:=true) (x:=(.tmp 26)) (y:=(.tmp 24)) (k:=.i64) (b:=h0) (o0:=9) (o1:=11) (i:=x0.done_) (n:=1) rfl rfl (by kernel_rfl) (by kernel_rfl) c4 (by decide) rfl) ?_
      refine Dv [8]<|D1 9<|XA (l':=[true,true,true,true,true,true,true,true,true,true,true,true,true,true,false,false]) (zd:=true) (by kernel_rfl) (by kernel_rfl) (dst:=(some 29)) (ty:=106) (g:=none) (by kernel_rfl) rfl (BH (t:=106) (x:=(.tmp 28)) (b:=h0) (o:=11) (g:=false) (s:=1) (C:=#[(.bool x0.o_.Report),(.bool x0.o_.Serial),(.bool x0.o_.Zone),(sv x0.l_.Call),(vi x0.l_.Category),(vi x0.l_.Power),(vi x0.l_.Claimed),(sL hg x0.l_.Jumps hh),(sL hn x0.l_.Lines hm),(fV 153 #[]),(fV 154 #[]),(fV 190 #[(pt h2 0),(pt h9 0),(pt ha 0),(pt h3 0)]),(fV 191 #[(pt h2 0),(pt h3 0)]),(fV 190 #[(pt h4 0),(pt hb 0),(pt hc 0),(pt h5 0)]),(fV 191 #[(pt h4 0),(pt h5 0)]),(fV 190 #[(pt h6 0),(pt he 0),(pt hf 0),(pt h7 0)]),(fV 191 #[(pt h6 0),(pt h7 0)]),(fV 159 #[]),(fV 160 #[]),(vi x0.done_),(.bool x0.ended_)]) (v:=(fV 190 #[(pt h2 0),(pt h9 0),(pt ha 0),(pt h3 0)])) rfl (by kernel_rfl) hp.at0 rfl rfl rfl) (Be hp (Xr _) (by simp) (fun e=>by cases e))<|D1 14 ?_
      obtain ⟨iw,dc,dd⟩:=bS da
      refine DCB Is (Jc N hG h0 x0 hg hh h2 h9 ha h3 h4 hb hc h5 h6 he hf h7 hn hm hr hv hw b1 b2 b3 b4 b5 b6 b7 b8 b9 ba bb bc ht x1 h2 ([67,65,84,69,71,79,82,89]:XL) b1 h9 1 b2 ha 9 b3 h3 b4 hp _ dc) ?_
      rintro _ F3 iy _ c5 c6 ⟨de,df,dg,dh,di,rfl,rfl,dj,dk,dl⟩
      refine ⟨Be c5 c6 (by simp) (zdT (by kernel_rfl)),?_⟩
      refine Dv [15] ?_
      obtain rfl:=Aa dd
      exact XD (by kernel_rfl) ⟨F3,de,df,dg,dh,di,c5,c6,fI,dj,dk,dl⟩
     ·refine Sd db (fun c7 dm=>?_) (fun c7 dn=>?_)
      ·refine Dt 7 27 0 (pt h0 13) (fun _ hq=>J1 (t:=110) (E:=109) (len:=5) (s:=2) (g:=true) (x:=(.tmp 26)) (y:=(.tmp 24)) (k:=.i64) (b:=h0) (o0:=9) (o1:=13) (i:=x0.done_) (n:=2) rfl rfl (by kernel_rfl) (by kernel_rfl) c7 (by decide) rfl) ?_
       refine Dv [8]<|D1 9<|XA (l':=[true,true,true,true,true,true,true,true,true,true,true,true,true,true,false,false]) (zd:=true) (by kernel_rfl) (by kernel_rfl) (dst:=(some 29)) (ty:=106) (g:=none) (by kernel_rfl) rfl (BH (t:=106) (x:=(.tmp 28)) (b:=h0) (o:=13) (g:=false) (s:=1) (C:=#[(.bool x0.o_.Report),(.bool x0.o_.Serial),(.bool x0.o_.Zone),(sv x0.l_.Call),(vi x0.l_.Category),(vi x0.l_.Power),(vi x0.l_.Claimed),(sL hg x0.l_.Jumps hh),(sL hn x0.l_.Lines hm),(fV 153 #[]),(fV 154 #[]),(fV 190 #[(pt h2 0),(pt h9 0),(pt ha 0),(pt h3 0)]),(fV 191 #[(pt h2 0),(pt h3 0)]),(fV 190 #[(pt h4 0),(pt hb 0),(pt hc 0),(pt h5 0)]),(fV 191 #[(pt h4 0),(pt h5 0)]),(fV 190 #[(pt h6 0),(pt he 0),(pt hf 0),(pt h7 0)]),(fV 191 #[(pt h6 0),(pt h7 0)]),(fV 159 #[]),(fV 160 #[]),(vi x0.done_),(.bool x0.ended_)]) (v:=(fV 190 #[(pt h4 0),(pt hb 0),(pt hc 0),(pt h5 0)])) rfl (by kernel_rfl) hp.at0 rfl rfl rfl) (Be hp (Xr _) (by simp) (fun e=>by cases e))<|D1 14 ?_
       obtain ⟨iz,dp,dq⟩:=bS dm
       refine DCB Iq (Ja N hG h0 x0 hg hh h2 h9 ha h3 h4 hb hc h5 h6 he hf h7 hn hm hr hv hw b1 b2 b3 b4 b5 b6 b7 b8 b9 ba bb bc ht x1 h4 ([80,79,87,69,82]:XL) b5 hb 1 b6 hc 9999 b7 h5 b8 hp _ dp) ?_
       rintro _ F4 j0 _ c8 c9 ⟨dr,ds,dt,du,dv,rfl,rfl,dw,dx,dy⟩
       refine ⟨Be c8 c9 (by simp) (zdT (by kernel_rfl)),?_⟩
       refine Dv [15] ?_
       obtain rfl:=Aa dq
       exact XD (by kernel_rfl) ⟨F4,dr,ds,dt,du,dv,c8,c9,fI,dw,dx,dy⟩
      ·refine Sd dn (fun ca dz=>?_) (fun ca e0=>?_)
       ·refine Dt 7 27 0 (pt h0 15) (fun _ hq=>J1 (t:=110) (E:=109) (len:=5) (s:=2) (g:=true) (x:=(.tmp 26)) (y:=(.tmp 24)) (k:=.i64) (b:=h0) (o0:=9) (o1:=15) (i:=x0.done_) (n:=3) rfl rfl (by kernel_rfl) (by kernel_rfl) ca (by decide) rfl) ?_
        refine Dv [8]<|D1 9<|XA (l':=[true,true,true,true,true,true,true,true,true,true,true,true,true,true,false,false]) (zd:=true) (by kernel_rfl) (by kernel_rfl) (dst:=(some 29)) (ty:=106) (g:=none) (by kernel_rfl) rfl (BH (t:=106) (x:=(.tmp 28)) (b:=h0) (o:=15) (g:=false) (s:=1) (C:=#[(.bool x0.o_.Report),(.bool x0.o_.Serial),(.bool x0.o_.Zone),(sv x0.l_.Call),(vi x0.l_.Category),(vi x0.l_.Power),(vi x0.l_.Claimed),(sL hg x0.l_.Jumps hh),(sL hn x0.l_.Lines hm),(fV 153 #[]),(fV 154 #[]),(fV 190 #[(pt h2 0),(pt h9 0),(pt ha 0),(pt h3 0)]),(fV 191 #[(pt h2 0),(pt h3 0)]),(fV 190 #[(pt h4 0),(pt hb 0),(pt hc 0),(pt h5 0)]),(fV 191 #[(pt h4 0),(pt h5 0)]),(fV 190 #[(pt h6 0),(pt he 0),(pt hf 0),(pt h7 0)]),(fV 191 #[(pt h6 0),(pt h7 0)]),(fV 159 #[]),(fV 160 #[]),(vi x0.done_),(.bool x0.ended_)]) (v:=(fV 190 #[(pt h6 0),(pt he 0),(pt hf 0),(pt h7 0)])) rfl (by kernel_rfl) hp.at0 rfl rfl rfl) (Be hp (Xr _) (by simp) (fun e=>by cases e))<|D1 14 ?_
        obtain ⟨j1,e1,e2⟩:=bS dz
        refine DCB Ir (Jb N hG h0 x0 hg hh h2 h9 ha h3 h4 hb hc h5 h6 he hf h7 hn hm hr hv hw b1 b2 b3 b4 b5 b6 b7 b8 b9 ba bb bc ht x1 h6 ([67,76,65,73,77,69,68]:XL) b9 he 0 ba hf 1000000 bb h7 bc hp _ e1) ?_
        rintro _ F5 j2 _ cb cc ⟨e3,e4,e6,e7,e8,rfl,rfl,e9,ea,eb⟩
        refine ⟨Be cb cc (by simp) (zdT (by kernel_rfl)),?_⟩
        refine Dv [15] ?_
        obtain rfl:=Aa e2
        exact XD (by kernel_rfl) ⟨F5,e3,e4,e6,e7,e8,cb,cc,fI,e9,ea,eb⟩
       ·refine Sd e0 (fun cd ec=>?_) (fun cd ed=>?_)
        ·refine Dt 7 27 0 (pt h0 17) (fun _ hq=>J1 (t:=110) (E:=109) (len:=5) (s:=2) (g:=true) (x:=(.tmp 26)) (y:=(.tmp 24)) (k:=.i64) (b:=h0) (o0:=9) (o1:=17) (i:=x0.done_) (n:=4) rfl rfl (by kernel_rfl) (by kernel_rfl) cd (by decide) rfl) ?_
         refine Dv [8]<|D1 9<|XA (l':=[true,true,true,true,true,true,true,true,true,true,true,true,true,true,false,false]) (zd:=true) (by kernel_rfl) (by kernel_rfl) (dst:=(some 29)) (ty:=106) (g:=none) (by kernel_rfl) rfl (BH (t:=106) (x:=(.tmp 28)) (b:=h0) (o:=17) (g:=false) (s:=1) (C:=#[(.bool x0.o_.Report),(.bool x0.o_.Serial),(.bool x0.o_.Zone),(sv x0.l_.Call),(vi x0.l_.Category),(vi x0.l_.Power),(vi x0.l_.Claimed),(sL hg x0.l_.Jumps hh),(sL hn x0.l_.Lines hm),(fV 153 #[]),(fV 154 #[]),(fV 190 #[(pt h2 0),(pt h9 0),(pt ha 0),(pt h3 0)]),(fV 191 #[(pt h2 0),(pt h3 0)]),(fV 190 #[(pt h4 0),(pt hb 0),(pt hc 0),(pt h5 0)]),(fV 191 #[(pt h4 0),(pt h5 0)]),(fV 190 #[(pt h6 0),(pt he 0),(pt hf 0),(pt h7 0)]),(fV 191 #[(pt h6 0),(pt h7 0)]),(fV 159 #[]),(fV 160 #[]),(vi x0.done_),(.bool x0.ended_)]) (v:=(fV 159 #[])) rfl (by kernel_rfl) hp.at0 rfl rfl rfl) (Be hp (Xr _) (by simp) (fun e=>by cases e))<|D1 14 ?_
         obtain ⟨j3,ee,ef⟩:=bS ec
         refine DCB JI (KC N hG h0 x0 hg hh h2 h9 ha h3 h4 hb hc h5 h6 he hf h7 hn hm hr hv hw b1 b2 b3 b4 b5 b6 b7 b8 b9 ba bb bc ht x1 hp _ ee) ?_
         rintro _ F6 j4 _ ce cf ⟨eg,eh,ei,ej,ek,rfl,rfl,el,en,eo⟩
         refine ⟨Be ce cf (by simp) (zdT (by kernel_rfl)),?_⟩
         refine Dv [15] ?_
         obtain rfl:=Aa ef
         exact XD (by kernel_rfl) ⟨F6,eg,eh,ei,ej,ek,ce,cf,fI,el,en,eo⟩
        ·cases ed
   ·rintro f j5 ⟨F1,bd,be,bf,bg,bi,br,ep,⟨_,rfl⟩,er,et,eu⟩
    refine Ab<|Sq (Rg [0] ?_)
    refine Vs 1<|Nt ?_
    obtain ⟨ev,ew,ex⟩:=bS cw
    refine Xx (fun f w=>∃ (F7:Mem),HS wb Fb w F7 ((sb h0 #[(.bool h8.2.1),(.bool h8.2.2.1),(.bool h8.2.2.2.1),(sv h8.2.2.2.2.1),(vi h8.2.2.2.2.2.1),(vi h8.2.2.2.2.2.2.1),(vi h8.2.2.2.2.2.2.2.1),(sL bd h8.2.2.2.2.2.2.2.2.1 be),(sL bf h8.2.2.2.2.2.2.2.2.2.1 bg),(fV 153 #[]),(fV 154 #[]),(fV 190 #[(pt h2 0),(pt h9 0),(pt ha 0),(pt h3 0)]),(fV 191 #[(pt h2 0),(pt h3 0)]),(fV 190 #[(pt h4 0),(pt hb 0),(pt hc 0),(pt h5 0)]),(fV 191 #[(pt h4 0),(pt h5 0)]),(fV 190 #[(pt h6 0),(pt he 0),(pt hf 0),(pt h7 0)]),(fV 191 #[(pt h6 0),(pt h7 0)]),(fV 159 #[]),(fV 160 #[]),(vi ev),(.bool h8.2.2.2.2.2.2.2.2.2.2.2)] 130)::bi::Lf)/\Xq F1 F7/\FI f [] [(4,(.bool h8.1))]) ?_ ?_
    ·refine Cd ew (fun ey ez=>?_) (fun ey g0=>?_)
     ·refine Rg (rG 8) ?_
      refine Vs 3<|Ld br.at0<|Vs 3<|St0 #[(.bool h8.2.1),(.bool h8.2.2.1),(.bool h8.2.2.2.1),(sv h8.2.2.2.2.1),(vi h8.2.2.2.2.2.1),(vi h8.2.2.2.2.2.2.1),(vi h8.2.2.2.2.2.2.2.1),(sL bd h8.2.2.2.2.2.2.2.2.1 be),(sL bf h8.2.2.2.2.2.2.2.2.2.1 bg),(fV 153 #[]),(fV 154 #[]),(fV 190 #[(pt h2 0),(pt h9 0),(pt ha 0),(pt h3 0)]),(fV 191 #[(pt h2 0),(pt h3 0)]),(fV 190 #[(pt h4 0),(pt hb 0),(pt hc 0),(pt h5 0)]),(fV 191 #[(pt h4 0),(pt h5 0)]),(fV 190 #[(pt h6 0),(pt he 0),(pt hf 0),(pt h7 0)]),(fV 191 #[(pt h6 0),(pt h7 0)]),(fV 159 #[]),(fV 160 #[]),(vi (W64 (h8.2.2.2.2.2.2.2.2.2.2.1 + 1))),(.bool h8.2.2.2.2.2.2.2.2.2.2.2)] br (fun j6 g1=>?_)
      refine Xm ?_
      obtain rfl:=Aa ez
      exact .inl ⟨rfl,F1,g1,(Xr _),fI⟩
     ·refine Sc ?_
      obtain rfl:=Aa g0
      exact .inl ⟨rfl,F1,br,(Xr _),fI⟩
    ·rintro f j7 ⟨F7,g2,bs,⟨_,rfl⟩⟩
     refine Ab<|Sq (Rg [0,1,2] ?_)
     refine Vs 3<|Nt<|Rt<|Ay<|Af ?_
     obtain rfl:=Aa ex
     exact ReB [(.bool h8.1),(.bool false)] g2 (ep.t bs) ⟨bd,be,bf,bg,bi,rfl,rfl,er,(Xt et bs),(eu.mono bs)⟩
  ·refine Sq (Rg [0,1,2] ?_)
   refine Vs 3<|Nt<|Cd cu (fun g3 g4=>?_) (fun g3 g5=>?_)
   ·refine Sq (Rg (rG 4) ?_)
    refine Vs 3<|St0 #[(.bool x0.o_.Report),(.bool x0.o_.Serial),(.bool x0.o_.Zone),(sv x0.l_.Call),(vi x0.l_.Category),(vi x0.l_.Power),(vi x0.l_.Claimed),(sL hg x0.l_.Jumps hh),(sL hn x0.l_.Lines hm),(fV 153 #[]),(fV 154 #[]),(fV 190 #[(pt h2 0),(pt h9 0),(pt ha 0),(pt h3 0)]),(fV 191 #[(pt h2 0),(pt h3 0)]),(fV 190 #[(pt h4 0),(pt hb 0),(pt hc 0),(pt h5 0)]),(fV 191 #[(pt h4 0),(pt h5 0)]),(fV 190 #[(pt h6 0),(pt he 0),(pt hf 0),(pt h7 0)]),(fV 191 #[(pt h6 0),(pt h7 0)]),(fV 159 #[]),(fV 160 #[]),(vi x0.done_),(.bool true)] b0 (fun j8 g6=>?_)
    refine Nss (Rg [0,1] ?_)
    refine Vs 2<|Nt<|Rt<|Ay<|Af ?_
    obtain rfl:=Aa g4
    exact ReB [(.bool true),(.bool false)] g6 (Xr _) ⟨hg,hh,hn,hm,hr,rfl,rfl,hv,hw,ht⟩
   ·refine Sc ?_
    refine Av<|Ab<|Sq (Rg (rG 12) ?_)
    refine Vs 3<|Ld b0.at0<|Vs 1 ?_
    obtain ⟨h1,g7,g8⟩:=bS g5
    refine Cl' Gq b0 (G0 N w0 F0 b0.pers hG (({Report:=x0.o_.Report,Serial:=x0.o_.Serial,Zone:=x0.o_.Zone}:Ac)) x1 _ g7) ?_
    rintro _ F8 j9 g9 hu rfl
    refine Vs 3<|Al' 34 #[(vi 0),(vi 0),(vi 0),(vi 0),(sv (([]:XL))),(vi 0),(vi 0),(vi 0),(vi 0),(vi 0),(vi 0)] g9 (fun hx ja ga=>?_)
    refine St0 (Cn h1.1) ga (fun jb cg=>?_)
    refine Vs 1<|Nss<|Sq (Rg (rG 7) ?_)
    refine Vs 4<|Ld cg.at1<|Vs 2<|Nss ?_
    obtain ⟨gh,gi,gk⟩:=bS g8
    refine RD 36 36 [(sb hx (Cn h1.1) 34),(sb h0 #[(.bool x0.o_.Report),(.bool x0.o_.Serial),(.bool x0.o_.Zone),(sv x0.l_.Call),(vi x0.l_.Category),(vi x0.l_.Power),(vi x0.l_.Claimed),(sL hg x0.l_.Jumps hh),(sL hn x0.l_.Lines hm),(fV 153 #[]),(fV 154 #[]),(fV 190 #[(pt h2 0),(pt h9 0),(pt ha 0),(pt h3 0)]),(fV 191 #[(pt h2 0),(pt h3 0)]),(fV 190 #[(pt h4 0),(pt hb 0),(pt hc 0),(pt h5 0)]),(fV 191 #[(pt h4 0),(pt h5 0)]),(fV 190 #[(pt h6 0),(pt he 0),(pt hf 0),(pt h7 0)]),(fV 191 #[(pt h6 0),(pt h7 0)]),(fV 159 #[]),(fV 160 #[]),(vi x0.done_),(.bool x0.ended_)] 130),hr] [] cg (fun f w=>∃ (F9:Mem),HS wb Fb w F9 ((sb hx (Cn h1.1) 34)::(sb h0 #[(.bool x0.o_.Report),(.bool x0.o_.Serial),(.bool x0.o_.Zone),(sv x0.l_.Call),(vi x0.l_.Category),(vi x0.l_.Power),(vi x0.l_.Claimed),(sL hg x0.l_.Jumps hh),(sL hn x0.l_.Lines hm),(fV 153 #[]),(fV 154 #[]),(fV 190 #[(pt h2 0),(pt h9 0),(pt ha 0),(pt h3 0)]),(fV 191 #[(pt h2 0),(pt h3 0)]),(fV 190 #[(pt h4 0),(pt hb 0),(pt hc 0),(pt h5 0)]),(fV 191 #[(pt h4 0),(pt h5 0)]),(fV 190 #[(pt h6 0),(pt he 0),(pt hf 0),(pt h7 0)]),(fV 191 #[(pt h6 0),(pt h7 0)]),(fV 159 #[]),(fV 160 #[]),(vi x0.done_),(.bool x0.ended_)] 130)::hr::Lf)/\Xq F8 F9/\FI f [] [(0,(pt h0 0)),(6,(pt hx 0)),(100,(.bool gh))]) (fun jc bk=>?_) ?_
    ·refine Dvl [0,1,2] (tf 3 33) ?_
     refine Sd gi (fun hl gl=>?_) (fun hl gm=>?_)
     ·refine Dgl 3 68 0 (pt hx 0) (tf 4 32) 2 true 67 hl (fun _ hq=>fa 34 6 0 0 1 hx 0 0) ?_
      refine Dgl 4 69 3 _ (tf 5 31) 2 true 67 hl (fun _ hq=>ld 3 68 hx 0 false 1 (vi h1.1.Num) (hq.1.2 0 _ _ rfl))<|Dgl 5 70 128 _ (tf 6 30) 2 true 67 hl (fun _ hq=>mv 0 (pt h0 0))<|Dgl 6 71 0 (pt h0 0) (tf 7 29) 2 true 67 hl (fun _ hq=>Ek (x:=(.tmp 70)) (a:=⟨h0,0,none⟩) rfl)<|Dgl 7 72 0 (pt h0 3) (tf 8 28) 2 true 67 hl (fun _ hq=>fa 130 71 1 3 6 h0 0 3)<|Dgl 8 73 0 (pt h0 8) (tf 9 27) 2 true 67 hl (fun _ hq=>fa 27 72 5 5 1 h0 3 8)<|Dgl 9 74 25 _ (tf 10 26) 2 true 67 hl (fun _ hq=>ld 25 73 h0 8 false 1 (sL hn x0.l_.Lines hm) (hq.1.2 1 _ _ rfl))<|Dgl 10 75 3 _ (tf 11 25) 2 true 67 hl (fun _ hq=>mv 8 (vi (x0.l_.Lines.length:Int)))<|Dgl 11 76 3 (vi (W64 ((x0.l_.Lines.length:Int) - 1))) (tf 12 24) 2 true 67 hl (fun _ hq=>JY (t:=3) (t':=3) (x:=(.tmp 75)) (y:=(.const (vi 1))) (k:=.i64) (a:=(x0.l_.Lines.length:Int)) (b:=1) rfl rfl) ?_
      obtain ⟨bl,gn,go⟩:=bS gl
      obtain ⟨gp,hx135'⟩:=Ap gn
      obtain ⟨hy,jd,rfl,rfl,hE142⟩:=As.open (ht.mono hu) hx135'
      have gr:=(ht.mono hu)
      have gs:=hE142 _ _ hx135'
      refine Dgl 12 77 0 (.pointer (some ⟨hy,(((W64 ((x0.l_.Lines.length:Int) - 1)):Int).toNat * 11),none⟩)) (tf 13 23) 2 true 67 hl (fun _ hq=>D4 (t:=25) (x:=(.tmp 74)) (y:=(.tmp 76)) (b:=hy) (E:=34) (s:=11) (by_:=96) rfl rfl (by kernel_rfl) gp)<|Dgl 13 78 0 (.pointer (some ⟨hy,(((W64 ((x0.l_.Lines.length:Int) - 1)):Int).toNat * 11),none⟩)) (tf 14 22) 2 true 67 hl (fun _ hq=>fa 34 77 0 0 1 hy (((W64 ((x0.l_.Lines.length:Int) - 1)):Int).toNat * 11) (((W64 ((x0.l_.Lines.length:Int) - 1)):Int).toNat * 11))<|Dgl 14 79 3 _ (tf 15 21) 2 true 67 hl (fun _ hq=>lx 3 78 0 11 false 1 (vi bl.Num) (hq.1.2 2 _ _ rfl) gs)<|Dgl 15 80 4 (.bool (decide (h1.1.Num<=bl.Num))) (tf 16 20) 2 true 67 hl (fun _ hq=>Mj (t:=3) (t':=3) (x:=(.tmp 69)) (y:=(.tmp 79)) (k:=.i64) (a:=h1.1.Num) (b:=bl.Num) rfl rfl)<|Dgl 16 81 4 _ (tf 17 19) 2 true 67 hl (fun _ hq=>mv 80 (.bool (decide (h1.1.Num<=bl.Num))))<|Sd go (fun ho gu=>?_) (fun ho gv=>?_)
      ·refine Dkl [(17,82),(18,83),(19,84),(20,85),(21,86),(22,87)] 16 false 81 ho (tf 23 13) ?_
       refine Dkl [(23,88),(24,89),(25,90),(26,91),(27,92),(28,93)] 16 false 81 ho (tf 29 7)<|Dkl [(29,94)] 16 false 81 ho (tf 30 6)<|Dgl 30 95 4 _ (tf 31 5) 2 true 67 hl (fun _ hq=>p1 81 (.const (.bool true)) (.tmp 94) (.bool true) ho)<|Dtl 31 96 4 _ (tf 32 4) (fun _ hq=>p1 67 (.tmp 95) (.const (.bool false)) (.bool true) hl)<|Dvl [32] (tf 33 3)<|Dkl [(33,98),(34,99)] 32 false 97 rfl (tf 35 1)<|Dtl 35 100 4 _ (tf 36 0) (fun _ hq=>p1 97 (.const (.bool true)) (.tmp 99) (.bool true) rfl) ?_
       obtain rfl:=Aa gu
       exact XD (by kernel_rfl) ⟨F8,bk,(Xr _),fI⟩
      ·refine Dgl 17 82 0 (pt hx 3) (tf 18 18) 16 false 81 ho (fun _ hq=>fa 34 6 3 3 1 hx 0 3) ?_
       refine Dgl 18 83 3 _ (tf 19 17) 16 false 81 ho (fun _ hq=>ld 3 82 hx 3 false 1 (vi h1.1.Minute) (hq.1.2 0 _ _ rfl))<|Dgl 19 84 128 _ (tf 20 16) 16 false 81 ho (fun _ hq=>mv 0 (pt h0 0))<|Dgl 20 85 0 (pt h0 0) (tf 21 15) 16 false 81 ho (fun _ hq=>Ek (x:=(.tmp 84)) (a:=⟨h0,0,none⟩) rfl)<|Dgl 21 86 0 (pt h0 3) (tf 22 14) 16 false 81 ho (fun _ hq=>fa 130 85 1 3 6 h0 0 3)<|Dgl 22 87 0 (pt h0 8) (tf 23 13) 16 false 81 ho (fun _ hq=>fa 27 86 5 5 1 h0 3 8)<|Dgl 23 88 25 _ (tf 24 12) 16 false 81 ho (fun _ hq=>ld 25 87 h0 8 false 1 (.slice (some ⟨hy,0,none⟩) x0.l_.Lines.length hm) (hq.1.2 1 _ _ rfl))<|Dgl 24 89 3 _ (tf 25 11) 16 false 81 ho (fun _ hq=>mv 8 (vi (x0.l_.Lines.length:Int)))<|Dgl 25 90 3 (vi (W64 ((x0.l_.Lines.length:Int) - 1))) (tf 26 10) 16 false 81 ho (fun _ hq=>JY (t:=3) (t':=3) (x:=(.tmp 89)) (y:=(.const (vi 1))) (k:=.i64) (a:=(x0.l_.Lines.length:Int)) (b:=1) rfl rfl) ?_
       obtain ⟨bj,gw,gx⟩:=bS gv
       obtain ⟨gy,hx150'⟩:=Ap gw
       obtain ⟨je,jf,gz,i0,hE157⟩:=As.open gr hx150'
       cases gz
       cases i0
       have i1:=hE157 _ _ hx150'
       refine Dgl 26 91 0 (.pointer (some ⟨hy,(((W64 ((x0.l_.Lines.length:Int) - 1)):Int).toNat * 11),none⟩)) (tf 27 9) 16 false 81 ho (fun _ hq=>D4 (t:=25) (x:=(.tmp 88)) (y:=(.tmp 90)) (b:=hy) (E:=34) (s:=11) (by_:=96) rfl rfl (by kernel_rfl) gy)<|Dgl 27 92 0 (.pointer (some ⟨hy,((((W64 ((x0.l_.Lines.length:Int) - 1)):Int).toNat * 11) + 3),none⟩)) (tf 28 8) 16 false 81 ho (fun _ hq=>fa 34 91 3 3 1 hy (((W64 ((x0.l_.Lines.length:Int) - 1)):Int).toNat * 11) ((((W64 ((x0.l_.Lines.length:Int) - 1)):Int).toNat * 11) + 3))<|Dgl 28 93 3 _ (tf 29 7) 16 false 81 ho (fun _ hq=>lx 3 92 3 11 false 1 (vi bj.Minute) (hq.1.2 2 _ _ rfl) i1)<|Dgl 29 94 4 (.bool (decide (h1.1.Minute < bj.Minute))) (tf 30 6) 16 false 81 ho (fun _ hq=>J0 (t:=3) (t':=3) (x:=(.tmp 83)) (y:=(.tmp 93)) (k:=.i64) (a:=h1.1.Minute) (b:=bj.Minute) rfl rfl)<|Dgl 30 95 4 _ (tf 31 5) 2 true 67 hl (fun _ hq=>p0 81 (.const (.bool true)) (.tmp 94) (.bool (decide (h1.1.Minute < bj.Minute))) ho)<|Dtl 31 96 4 _ (tf 32 4) (fun _ hq=>p1 67 (.tmp 95) (.const (.bool false)) (.bool (decide (h1.1.Minute < bj.Minute))) hl)<|Dvl [32] (tf 33 3)<|Sd gx (fun bh i2=>?_) (fun bh i3=>?_)
       ·refine Dkl [(33,98),(34,99)] 32 false 97 bh (tf 35 1) ?_
        refine Dtl 35 100 4 _ (tf 36 0) (fun _ hq=>p1 97 (.const (.bool true)) (.tmp 99) (.bool true) bh) ?_
        obtain rfl:=Aa i2
        exact XD (by kernel_rfl) ⟨F8,bk,(Xr _),fI⟩
       ·refine Dgl 33 98 35 _ (tf 34 2) 32 false 97 bh (fun _ hq=>mv 7 (vi h1.2)) ?_
        refine Dgl 34 99 4 (.bool (h1.2 !=0)) (tf 35 1) 32 false 97 bh (fun _ hq=>Mi (t:=35) (t':=35) (x:=(.tmp 98)) (y:=(.const (vi 0))) (k:=.i64) (a:=h1.2) (b:=0) rfl rfl)<|Dtl 35 100 4 _ (tf 36 0) (fun _ hq=>p0 97 (.const (.bool true)) (.tmp 99) (.bool (h1.2 !=0)) bh) ?_
        obtain rfl:=Aa i3
        exact XD (by kernel_rfl) ⟨F8,bk,(Xr _),fI⟩
     ·refine Dkl [(3,68),(4,69),(5,70),(6,71),(7,72),(8,73)] 2 true 67 hl (tf 9 27) ?_
      refine Dkl [(9,74),(10,75),(11,76),(12,77),(13,78),(14,79)] 2 true 67 hl (tf 15 21)<|Dkl [(15,80),(16,81)] 2 true 67 hl (tf 17 19)<|Dul [(17,82),(18,83),(19,84),(20,85),(21,86),(22,87)] 16 false 81 (tf 23 13)<|Dul [(23,88),(24,89),(25,90),(26,91),(27,92),(28,93)] 16 false 81 (tf 29 7)<|Dul [(29,94)] 16 false 81 (tf 30 6)<|Dkl [(30,95)] 2 true 67 hl (tf 31 5)<|Dtl 31 96 4 _ (tf 32 4) (fun _ hq=>p0 67 (.tmp 95) (.const (.bool false)) (.bool false) hl)<|Dvl [32] (tf 33 3)<|Dgl 33 98 35 _ (tf 34 2) 32 false 97 rfl (fun _ hq=>mv 7 (vi h1.2))<|Dgl 34 99 4 (.bool (h1.2 !=0)) (tf 35 1) 32 false 97 rfl (fun _ hq=>Mi (t:=35) (t':=35) (x:=(.tmp 98)) (y:=(.const (vi 0))) (k:=.i64) (a:=h1.2) (b:=0) rfl rfl)<|Dtl 35 100 4 _ (tf 36 0) (fun _ hq=>p0 97 (.const (.bool true)) (.tmp 99) (.bool (h1.2 !=0)) rfl) ?_
      obtain rfl:=Aa gm
      exact XD (by kernel_rfl) ⟨F8,bk,(Xr _),fI⟩
    ·rintro f jg ⟨F9,bm,hz,⟨_,rfl⟩⟩
     refine Ab<|Cd gk (fun i4 i5=>?_) (fun i4 i6=>?_)
     ·refine Sq (Rg [0,1] ?_)
      refine Vs 2<|Nt<|Rt<|Af ?_
      obtain rfl:=Aa i5
      exact ReB [(.bool false),(.bool false)] bm.dr0 (hu.t hz) ⟨hg,hh,hn,hm,hr,rfl,rfl,hv,(Xt hw (hu.t hz)),(ht.mono (hu.t hz))⟩
     ·refine Sc ?_
      refine Ab<|Sq<|Sq (Rg (rG 7) ?_)
      refine Vs 4<|Ld bm.at1<|Vs 2<|Nt<|Cd i6 (fun i7 i8=>?_) (fun i7 i9=>?_)
      ·refine Sq (Rg [0,1] ?_)
       refine Vs 2<|Nt<|Rt<|Af ?_
       obtain rfl:=Aa i8
       exact ReB [(.bool false),(.bool true)] bm.dr0 (hu.t hz) ⟨hg,hh,hn,hm,hr,rfl,rfl,hv,(Xt hw (hu.t hz)),(ht.mono (hu.t hz))⟩
      ·refine Sc ?_
       refine Ab<|Sq ?_
       obtain ⟨ch,ia,ib⟩:=bS i9
       refine RD 12 13 [(sb hx (Cn h1.1) 34)] [(sb h0 #[(.bool x0.o_.Report),(.bool x0.o_.Serial),(.bool x0.o_.Zone),(sv x0.l_.Call),(vi x0.l_.Category),(vi x0.l_.Power),(vi x0.l_.Claimed),(sL hg x0.l_.Jumps hh),(sL hn x0.l_.Lines hm),(fV 153 #[]),(fV 154 #[]),(fV 190 #[(pt h2 0),(pt h9 0),(pt ha 0),(pt h3 0)]),(fV 191 #[(pt h2 0),(pt h3 0)]),(fV 190 #[(pt h4 0),(pt hb 0),(pt hc 0),(pt h5 0)]),(fV 191 #[(pt h4 0),(pt h5 0)]),(fV 190 #[(pt h6 0),(pt he 0),(pt hf 0),(pt h7 0)]),(fV 191 #[(pt h6 0),(pt h7 0)]),(fV 159 #[]),(fV 160 #[]),(vi x0.done_),(.bool x0.ended_)] 130)] bm (fun f w=>∃ (bn:Mem) (bo:XM) (bp:Nat) (bq:Option Nat×Obj),HS wb Fb w bn ((sb h0 #[(.bool x0.o_.Report),(.bool x0.o_.Serial),(.bool x0.o_.Zone),(sv x0.l_.Call),(vi x0.l_.Category),(vi x0.l_.Power),(vi x0.l_.Claimed),(sL hg x0.l_.Jumps hh),(sL bo ch bp),(fV 153 #[]),(fV 154 #[]),(fV 190 #[(pt h2 0),(pt h9 0),(pt ha 0),(pt h3 0)]),(fV 191 #[(pt h2 0),(pt h3 0)]),(fV 190 #[(pt h4 0),(pt hb 0),(pt hc 0),(pt h5 0)]),(fV 191 #[(pt h4 0),(pt h5 0)]),(fV 190 #[(pt h6 0),(pt he 0),(pt hf 0),(pt h7 0)]),(fV 191 #[(pt h6 0),(pt h7 0)]),(fV 159 #[]),(fV 160 #[]),(vi x0.done_),(.bool x0.ended_)] 130)::bq::Lf)/\Xq F9 bn/\FI f [] []/\As AD 34 bn bo bp ch bq) (fun jh ic=>?_) ?_
       ·refine Dv [0,1,2,3,4] ?_
        refine Dl 5 (fun _ hq=>((hq.2 rfl).2 0 _ _ rfl))<|Dl 6 (fun _ hq=>(hq.1.2 0 _ _ rfl))<|D1 7<|DBs 34 [(vi h1.1.Num),(vi h1.1.Khz),(vi h1.1.Mode),(vi h1.1.Minute),(sv h1.1.Call),(vi h1.1.Sent.Report),(vi h1.1.Sent.Serial),(vi h1.1.Sent.Zone),(vi h1.1.Got.Report),(vi h1.1.Got.Serial),(vi h1.1.Got.Zone)] ic (Xr _) (fun ci ji cj=>?_)
        have ie:As AD 34 F9 (some ⟨ci,0,none⟩) 1 [h1.1] (some ci,.cells ([(vi h1.1.Num),(vi h1.1.Khz),(vi h1.1.Mode),(vi h1.1.Minute),(sv h1.1.Call),(vi h1.1.Sent.Report),(vi h1.1.Sent.Serial),(vi h1.1.Sent.Zone),(vi h1.1.Got.Report),(vi h1.1.Got.Serial),(vi h1.1.Got.Zone)]:List Value).toArray 34 (0,0)):=XG ⟨rfl,rfl⟩ (by simp)
        refine D1 8 ?_
        obtain ⟨ig,ii,ij⟩:=bS ia
        refine Xk Tr cj (ht.mono (hu.t hz)) (cj.rd0 ie) ii (Xr _) (fun cl cm ik jj bt io=>?_)
        refine D1 9<|XA (l':=[true,true,true,true,true,true,true,true,true,true,false,false,false]) (zd:=false) (by kernel_rfl) (by kernel_rfl) (dst:=(some 117)) (ty:=0) (g:=none) (by kernel_rfl) rfl (Ek (x:=(.tmp 108)) (a:=⟨h0,0,none⟩) rfl) (Be bt (Xr _) (by simp) (fun _=>by simp))<|D1 10<|XA (l':=[true,true,true,true,true,true,true,true,true,true,true,false,false]) (zd:=false) (by kernel_rfl) (by kernel_rfl) (dst:=(some 118)) (ty:=0) (g:=none) (by kernel_rfl) rfl (C3 (s:=130) (x:=(.tmp 117)) (i:=1) (o:=3) (k:=6) (b:=h0) (o0:=0) rfl (by kernel_rfl) rfl (o1:=3) rfl) (Be bt (Xr _) (by simp) (fun _=>by simp))<|Dv [11]<|D1 12<|NZ #[(.bool x0.o_.Report),(.bool x0.o_.Serial),(.bool x0.o_.Zone),(sv x0.l_.Call),(vi x0.l_.Category),(vi x0.l_.Power),(vi x0.l_.Claimed),(sL hg x0.l_.Jumps hh),(sL cl ig cm),(fV 153 #[]),(fV 154 #[]),(fV 190 #[(pt h2 0),(pt h9 0),(pt ha 0),(pt h3 0)]),(fV 191 #[(pt h2 0),(pt h3 0)]),(fV 190 #[(pt h4 0),(pt hb 0),(pt hc 0),(pt h5 0)]),(fV 191 #[(pt h4 0),(pt h5 0)]),(fV 190 #[(pt h6 0),(pt he 0),(pt hf 0),(pt h7 0)]),(fV 191 #[(pt h6 0),(pt h7 0)]),(fV 159 #[]),(fV 160 #[]),(vi x0.done_),(.bool x0.ended_)] bt (Xr _) (fun jk ip=>?_)
        obtain rfl:=Aa ij
        exact XD (by kernel_rfl) ⟨F9,cl,cm,ik,ip.dr0.dr0,(Xr _),fI,io⟩
       ·rintro f jl ⟨bn,bo,bp,bq,iq,cn,⟨_,rfl⟩,ir⟩
        refine Ab<|Sq (Rg [0,1] ?_)
        refine Vs 2<|Nt<|Rt ?_
        obtain rfl:=Aa ib
        exact ReB [(.bool true),(.bool false)] iq ((hu.t hz).trans cn) ⟨hg,hh,bo,bp,bq,rfl,rfl,hv,(Xt hw ((hu.t hz).trans cn)),ir⟩
def Cc {σ:Type} (N:Nat) (y:(σ->(XL×Bool)->Option (Bool×σ))) (z0:XL) (s:σ):(XL×σ)->Option (BC σ (XL×σ)):=fun s4=>
 (bif (s4.1 !=([]:XL)) then ((strings_Cut N s4.1 ([10]:XL)).bind fun h0=>((y s4.2 (h0.1,h0.2.2)).bind fun h1=>(bif (!h1.1) then some (.ret h1.2) else some (.next (h0.2.1,h1.2))))) else some (.done (s4.1,s4.2)))
def Dy {σ:Type} (N:Nat) (y:σ->(XL×Bool)->Option (Bool×σ)) (z0:XL) (s:σ):Option σ:=
 ((AU (Cc N y z0 s) N (z0,s)).bind fun o=>o.k (fun r=>some r) (fun h0=>some h0.2))
theorem HG:Aj Tryz.prog 169:=fun _ _=>by kernel_rfl
theorem IB (N:Nat) (F0:Mem) (hG:BB F0) (z0:XL) (h0:Nat):
  R7 Tryz.prog 169 [(pt h0 0)] F0 [(sb h0 #[(sv z0)] 9)] Q5 Tq Tf (fun {_} y s=>Dy N y z0 s):=by
 intro σ wb w0 Fb F1 l y J s r Lf hg hJm h8 hJ hY h
 have h8:HS wb Fb w0 F1 ((sb h0 #[(sv z0)] 9)::Lf):=h8
 refine Nx (n:=20) (c:=ND Tryz.f169) Tryz.func169 (by kernel_rfl) (by kernel_rfl) (by kernel_rfl) ?_
 obtain ⟨o1,hh,h3⟩:=bS h
 refine Xx (fun f w=>∃ (h9:(XL×σ)) (F3:Mem) (h6:Own),o1=.done h9/\HS wb Fb w F3 h6/\Xq F1 F3/\FI f [] []/\J h9.2 F3 h6) ?_ ?_
 ·refine Bk ?_
  refine Xp (by kernel_rfl) (fun m f w=>∃ (s4:(XL×σ)) (F2:Mem) (h2:Own),AU (Cc N y z0 s) m s4=some o1/\HS wb Fb w F2 ((sb h0 #[(sv s4.1)] 9)::h2)/\Xq F1 F2/\FI f [] [(0,(.func (.yield l) #[] #[])),(1,(pt h0 0))]/\J s4.2 F2 h2) N ⟨(z0,s),F1,Lf,hh,h8,(Xr _),fI,hJ⟩ ?_
  rintro b9 f w5 ⟨s4,F2,h2,hl,h4,h5,⟨_,rfl⟩,hJ9⟩
  obtain ⟨hm,ba,rfl,hn,ha⟩:=AV hl
  refine Sq<|Sq (Rg [0,1] ?_)
  refine Ld h4.at0<|Vs 1<|Nt<|Cd hn (fun ho hp=>?_) (fun ho hq=>?_)
  ·refine Sc ?_
   refine Ab<|Bk<|Sq (Rg (rG 9) ?_)
   refine Ld h4.at0 ?_
   obtain ⟨h1,hr,ht⟩:=bS hp
   refine Cl' Io h4 (Jq N w5 F2 h4.pers (hG.mono (hg.t h5)) s4.1 (([10]:XL)) _ hr) ?_
   rintro _ F4 hu hv h7 rfl
   refine Vs 1<|Vs 1<|Vs 1<|Vs 1<|Vs 1<|Vs 1<|Vs 1<|Nss<|Sq (Rg (rG 5) ?_)
   refine Vs 1<|Vs 1<|Vs 1 ?_
   obtain ⟨hc,hw,hx⟩:=bS ht
   refine RWP.yield (dst:=(some 17)) (ty:=4) (g:=none) (by kernel_rfl) rfl (f0:=(.tmp 14)) (aos:=#[(.tmp 15),(.tmp 16)]) (ats:=#[9,4]) (l:=l) (args:=[(sv h1.1),(.bool h1.2.2)]) rfl rfl (hY s4.2 (h1.1,h1.2.2) hu F4 [(sb h0 #[(sv s4.1)] 9)] h2 hc (h5.t h7) trivial (hJm _ _ _ _ hJ9 h7) hv hw) ?_
   rintro _ hy ⟨F5,hb,rfl,hz,he,hJ43⟩
   have hf:HS wb Fb hy F5 ((sb h0 #[(sv s4.1)] 9)::hb):=hz
   refine ⟨_,rfl,?_⟩
   refine Vs 1<|Nt<|Cd hx (fun b0 b1=>?_) (fun b0 b2=>?_)
   ·refine Rt ?_
    refine Af<|Ay<|Af<|Ay ?_
    have hret:=CV b1 ha
    subst hret
    refine .inr ?_
    have hfin:=Aa h3
    subst hfin
    exact ⟨rfl,.tuple #[],AR (l:=[]) (by kernel_rfl) (vs:=[]) trivial,F5,hb,rfl,hf.dr0,((h5.t h7).trans he),hJ43⟩
   ·refine Sc ?_
    refine Ab<|Rg [0,1]<|Vs 1<|St0 #[(sv h1.2.1)] hf (fun bb b3=>?_)
    refine Xm<|Av ?_
    have b4:=AW b2 ha
    exact ⟨hm,Nat.lt_succ_self _,(h1.2.1,hc.2),F5,hb,b4,b3,((h5.t h7).trans he),fI,hJ43⟩
  ·refine Ex ?_
   refine Au<|Au<|AB rfl ?_
   have b5:=AX hq ha
   exact .inl ⟨rfl,(s4.1,s4.2),F2,h2,b5,h4.dr0,h5,fI,hJ9⟩
 ·rintro f w14 ⟨h9,F3,h6,rfl,b6,b7,⟨_,rfl⟩,hJ18⟩
  have b8:=BX h3
  have hfin:=Aa b8
  subst hfin
  exact ⟨rfl,.tuple #[],AR (l:=[]) (by kernel_rfl) (vs:=[]) trivial,F3,h6,rfl,b6,b7,hJ18⟩
theorem Jn:Aj Tryz.prog 105:=fun _ _=>by kernel_rfl
set_option maxRecDepth 100000 in
theorem KD (w0:World) (F0:Mem) (hF:XN w0 F0) (x0:XL):
  Calls Tryz.prog 105 ([(.string ⟨x0.toArray⟩)]:List Value).toArray w0 (NI w0 F0 fun _ v L'=>∃ (b0:Nat),v=.func (.func 169) #[] #[.pointer (some ⟨b0,0,none⟩)]/\L'=[(some b0,.cells #[(.string ⟨x0.toArray⟩)] 9 (0,0))]):=by
 have h0:=Xs hF
 refine Go 4 Tryz.func105<|Sq (Rg [0,1] ?_)
 refine Bx' 9 #[(.string ⟨x0.toArray⟩)] h0 (fun b0 w1 h1=>?_)
 refine Vs 1<|Nss (Rg [0,1] ?_)
 refine Vs 2<|Nt<|Rt ?_
 exact ⟨rfl,_,AR (l:=[.tmp 2]) (by kernel_rfl) (vs:=[.func (.func 169) #[] #[.pointer (some ⟨b0,0,none⟩)]]) ⟨by kernel_rfl,trivial⟩,_,F0,_,rfl,h1,b0,rfl,rfl⟩
def Ji (N:Nat) (x0:Ac) (x1:XL):(Int×Int×Bool×Bool×Bool×XL×Int×Int×Int×List Int×List Line×Int×Bool×Int)->(XL×Bool)->Option ((Int×Int×Bool×Bool×Bool×XL×Int×Int×Int×List Int×List Line×Int×Bool×Int)×Bool):=fun h1 h3=>
 ((bif h3.2 then ((Gg N ({o_:=({Report:=h1.2.2.1,Serial:=h1.2.2.2.1,Zone:=h1.2.2.2.2.1}:Ac),l_:=({Call:=h1.2.2.2.2.2.1,Category:=h1.2.2.2.2.2.2.1,Power:=h1.2.2.2.2.2.2.2.1,Claimed:=h1.2.2.2.2.2.2.2.2.1,Jumps:=h1.2.2.2.2.2.2.2.2.2.1,Lines:=h1.2.2.2.2.2.2.2.2.2.2.1}:Log),done_:=h1.2.2.2.2.2.2.2.2.2.2.2.1,ended_:=h1.2.2.2.2.2.2.2.2.2.2.2.2.1}:Aq) h3.1).bind fun h2=>some (h2.2.1,h2.2.2,h2.1.o_.Report,h2.1.o_.Serial,h2.1.o_.Zone,h2.1.l_.Call,h2.1.l_.Category,h2.1.l_.Power,h2.1.l_.Claimed,h2.1.l_.Jumps,h2.1.l_.Lines,h2.1.done_,h2.1.ended_)) else some (false,false,h1.2.2.1,h1.2.2.2.1,h1.2.2.2.2.1,h1.2.2.2.2.2.1,h1.2.2.2.2.2.2.1,h1.2.2.2.2.2.2.2.1,h1.2.2.2.2.2.2.2.2.1,h1.2.2.2.2.2.2.2.2.2.1,h1.2.2.2.2.2.2.2.2.2.2.1,h1.2.2.2.2.2.2.2.2.2.2.2.1,h1.2.2.2.2.2.2.2.2.2.2.2.2.1)).bind fun h0=>(bif h0.2.1 then some ((2,(W64 (h1.2.2.2.2.2.2.2.2.2.2.2.2.2 + 1)),h0.2.2.1,h0.2.2.2.1,h0.2.2.2.2.1,h0.2.2.2.2.2.1,h0.2.2.2.2.2.2.1,h0.2.2.2.2.2.2.2.1,h0.2.2.2.2.2.2.2.2.1,h0.2.2.2.2.2.2.2.2.2.1,h0.2.2.2.2.2.2.2.2.2.2.1,h0.2.2.2.2.2.2.2.2.2.2.2.1,h0.2.2.2.2.2.2.2.2.2.2.2.2,(W64 (h1.2.2.2.2.2.2.2.2.2.2.2.2.2 + 1))),false) else (bif (!h0.1) then some ((20,(W64 (h1.2.2.2.2.2.2.2.2.2.2.2.2.2 + 1)),h0.2.2.1,h0.2.2.2.1,h0.2.2.2.2.1,h0.2.2.2.2.2.1,h0.2.2.2.2.2.2.1,h0.2.2.2.2.2.2.2.1,h0.2.2.2.2.2.2.2.2.1,h0.2.2.2.2.2.2.2.2.2.1,h0.2.2.2.2.2.2.2.2.2.2.1,h0.2.2.2.2.2.2.2.2.2.2.2.1,h0.2.2.2.2.2.2.2.2.2.2.2.2,(W64 (h1.2.2.2.2.2.2.2.2.2.2.2.2.2 + 1))),false) else some ((h1.1,h1.2.1,h0.2.2.1,h0.2.2.2.1,h0.2.2.2.2.1,h0.2.2.2.2.2.1,h0.2.2.2.2.2.2.1,h0.2.2.2.2.2.2.2.1,h0.2.2.2.2.2.2.2.2.1,h0.2.2.2.2.2.2.2.2.2.1,h0.2.2.2.2.2.2.2.2.2.2.1,h0.2.2.2.2.2.2.2.2.2.2.2.1,h0.2.2.2.2.2.2.2.2.2.2.2.2,(W64 (h1.2.2.2.2.2.2.2.2.2.2.2.2.2 + 1))),true))))
def JE (N:Nat) (x0:Ac) (x1:XL):Option (Log×Int×Int):=
 (bif (decide ((x1.length:Int) > 65536)) then some (({Call:=([]:XL),Category:=0,Power:=0,Claimed:=0,Jumps:=([]:List Int),Lines:=([]:List Line)}:Log),2,0) else ((Dy N (Ul (Ji N x0 x1)) x1 ((0,0,x0.Report,x0.Serial,x0.Zone,([]:XL),0,0,0,([]:List Int),([]:List Line),0,false,0),true)).bind fun h0=>(bif h0.2 then (bif (!h0.1.2.2.2.2.2.2.2.2.2.2.2.2.1) then some (({Call:=([]:XL),Category:=0,Power:=0,Claimed:=0,Jumps:=([]:List Int),Lines:=([]:List Line)}:Log),20,(W64 (h0.1.2.2.2.2.2.2.2.2.2.2.2.2.2 + 1))) else some (({Call:=h0.1.2.2.2.2.2.1,Category:=h0.1.2.2.2.2.2.2.1,Power:=h0.1.2.2.2.2.2.2.2.1,Claimed:=h0.1.2.2.2.2.2.2.2.2.1,Jumps:=h0.1.2.2.2.2.2.2.2.2.2.1,Lines:=h0.1.2.2.2.2.2.2.2.2.2.2.1}:Log),0,0)) else some (({Call:=([]:XL),Category:=0,Power:=0,Claimed:=0,Jumps:=([]:List Int),Lines:=([]:List Line)}:Log),h0.1.1,h0.1.2.1))))
theorem ES:Aj Tryz.prog 33:=fun _ _=>by kernel_rfl
theorem Fv (N:Nat) (w0:World) (F0:Mem) (hF:XN w0 F0) (hG:BB F0) (x0:Ac) (x1:XL) (r:(Log×Int×Int)) (h:JE N x0 x1=some r):
  Calls Tryz.prog 33 ([(.agg (Al x0)),(sv x1)]:List Value).toArray w0 (AA w0 F0 fun F' v=>∃ (ci:XM) (cj:Nat) (cl:XM) (cm:Nat),v=(.tuple #[(.agg (AL r.1 ci cj cl cm)),(vi r.2.1),(vi r.2.2)])/\LC r.1.Jumps.length cj/\SlA AE F' ci r.1.Jumps/\LC r.1.Lines.length cm/\SlA AD F' cl r.1.Lines):=by
 have dp:=Xs hF
 refine Oo (n:=55) (c:=ND Tryz.f33) Tryz.func33 (by kernel_rfl) (by kernel_rfl) (by kernel_rfl)<|Sq (Rg (rG 4) ?_)
 refine Bx' 23 (Al x0) dp (fun dq ju dr=>?_)
 refine Al' 27 #[(sv (([]:XL))),(vi 0),(vi 0),(vi 0),(sN Int),(sN Line)] dr (fun hb jv ds=>?_)
 refine Al' 35 #[(vi 0)] ds (fun hc jw dt=>?_)
 refine Al' 3 #[(vi 0)] dt (fun ha jx cn=>?_)
 refine Nss<|Sq (Rg [0,1,2] ?_)
 refine Vs 3<|Nt<|Cd h (fun du dv=>?_) (fun du dw=>?_)
 ·refine Sq (Rg (rG 4) ?_)
  refine Vs 1<|St2 #[(sv (([]:XL))),(vi 0),(vi 0),(vi 0),(sN Int),(sN Line)] cn (fun jy dx=>?_)
  refine St1 #[(vi 2)] dx (fun jz dy=>?_)
  refine St0 #[(vi 0)] dy (fun k0 bj=>?_)
  refine Nt<|Rt<|Af ?_
  obtain rfl:=Aa dv
  exact .inl ⟨rfl,(.tuple #[(.agg #[(sv (([]:XL))),(vi 0),(vi 0),(vi 0),(sN Int),(sN Line)]),(vi 2),(vi 0)]),AR (l:=[.cell 4 27,.cell 5 35,.cell 6 3]) (by kernel_rfl) (vs:=[(.agg #[(sv (([]:XL))),(vi 0),(vi 0),(vi 0),(sN Int),(sN Line)]),(vi 2),(vi 0)]) ⟨hb,0,rfl,Am (t:=27) (g:=true) (s:=6) (by kernel_rfl) bj.at2 rfl (by decide),⟨hc,0,rfl,Am (t:=35) (g:=false) (s:=1) (by kernel_rfl) bj.at1 rfl (by decide),⟨ha,0,rfl,Am (t:=3) (g:=false) (s:=1) (by kernel_rfl) bj.at0 rfl (by decide),trivial⟩⟩⟩,(.tuple #[(.agg #[(sv (([]:XL))),(vi 0),(vi 0),(vi 0),(sN Int),(sN Line)]),(vi 2),(vi 0)]),F0,rfl,bj.clear,⟨none,0,none,0,rfl,Xu,(.inl rfl),Xu,(.inl rfl)⟩⟩
 ·refine Sc ?_
  refine Ab<|Sq<|RD 5 6 [(sb ha #[(vi 0)] 3),(sb hc #[(vi 0)] 35),(sb hb #[(sv (([]:XL))),(vi 0),(vi 0),(vi 0),(sN Int),(sN Line)] 27),(sb dq (Al x0) 23)] [] cn (fun f w=>∃ (F1:Mem) (he h9 h3 hf hg h4 h5 hh hm h6 h7 hn ho h8:Nat),HS w0 F0 w F1 [(sb he #[(pt h9 0)] 128),(sb h9 #[(.bool x0.Report),(.bool x0.Serial),(.bool x0.Zone),(sv (([]:XL))),(vi 0),(vi 0),(vi 0),(sN Int),(sN Line),(fV 153 #[]),(fV 154 #[]),(fV 190 #[(pt h3 0),(pt hf 0),(pt hg 0),(pt h4 0)]),(fV 191 #[(pt h3 0),(pt h4 0)]),(fV 190 #[(pt h5 0),(pt hh 0),(pt hm 0),(pt h6 0)]),(fV 191 #[(pt h5 0),(pt h6 0)]),(fV 190 #[(pt h7 0),(pt hn 0),(pt ho 0),(pt h8 0)]),(fV 191 #[(pt h7 0),(pt h8 0)]),(fV 159 #[]),(fV 160 #[]),(vi 0),(.bool false)] 130),(sb ha #[(vi 0)] 3),(sb hc #[(vi 0)] 35),(sb hb #[(sv (([]:XL))),(vi 0),(vi 0),(vi 0),(sN Int),(sN Line)] 27)]/\Xq F0 F1/\FI f [] [(1,(sv x1)),(4,(pt hb 0)),(5,(pt hc 0)),(6,(pt ha 0)),(7,(pt he 0))]/\F1 h3=some (oc #[(sv (([67,65,84,69,71,79,82,89]:XL)))] 9)/\F1 hf=some (oc #[(vi 1)] 3)/\F1 hg=some (oc #[(vi 9)] 3)/\F1 h4=some (oc #[(fV 156 #[])] 195)/\F1 h5=some (oc #[(sv (([80,79,87,69,82]:XL)))] 9)/\F1 hh=some (oc #[(vi 1)] 3)/\F1 hm=some (oc #[(vi 9999)] 3)/\F1 h6=some (oc #[(fV 157 #[])] 195)/\F1 h7=some (oc #[(sv (([67,76,65,73,77,69,68]:XL)))] 9)/\F1 hn=some (oc #[(vi 0)] 3)/\F1 ho=some (oc #[(vi 1000000)] 3)/\F1 h8=some (oc #[(fV 158 #[])] 195)) (fun dz bz=>?_) ?_
  ·refine Dl 0 (fun _ hq=>(hq.1.2 3 _ _ rfl)) ?_
   refine Xz (i:=1) (j:=4) (by kernel_rfl) ?_ ?_
   ·refine DCl ER bz (Fu dz F0 bz.pers) ?_
    rintro _ F2 k1 co b8 ⟨ba,bk,bl,bb,bc,bm,bn,bd,be,bo,bp,bf,rfl,cp,cq,cr,ct,cu,cv,cw,cx,cy,cz,d0,d1⟩
    refine Dv [2]<|Xz (i:=3) (j:=4) (by kernel_rfl) ?_ ?_
    ·refine DBx 130 #[(.bool x0.Report),(.bool x0.Serial),(.bool x0.Zone),(sv (([]:XL))),(vi 0),(vi 0),(vi 0),(sN Int),(sN Line),(fV 153 #[]),(fV 154 #[]),(fV 190 #[(pt ba 0),(pt bk 0),(pt bl 0),(pt bb 0)]),(fV 191 #[(pt ba 0),(pt bb 0)]),(fV 190 #[(pt bc 0),(pt bm 0),(pt bn 0),(pt bd 0)]),(fV 191 #[(pt bc 0),(pt bd 0)]),(fV 190 #[(pt be 0),(pt bo 0),(pt bp 0),(pt bf 0)]),(fV 191 #[(pt be 0),(pt bf 0)]),(fV 159 #[]),(fV 160 #[]),(vi 0),(.bool false)] co b8 (fun d2 k2 e0=>?_)
     refine D1 4<|DAl 128 #[(.pointer none)] e0 b8 (fun e1 k3 e2=>?_)
     refine D1 5<|GJ #[(pt d2 0)] e2 b8 (fun k4 e3=>?_)
     exact XD (by kernel_rfl) ⟨F2,e1,d2,ba,bk,bl,bb,bc,bm,bn,bd,be,bo,bp,bf,e3.dr5,b8,fI,cp,cq,cr,ct,cu,cv,cw,cx,cy,cz,d0,d1⟩
    ·refine DAl 128 #[(.pointer none)] co b8 (fun e4 k5 e6=>?_)
     refine D1 3<|DBx 130 #[(.bool x0.Report),(.bool x0.Serial),(.bool x0.Zone),(sv (([]:XL))),(vi 0),(vi 0),(vi 0),(sN Int),(sN Line),(fV 153 #[]),(fV 154 #[]),(fV 190 #[(pt ba 0),(pt bk 0),(pt bl 0),(pt bb 0)]),(fV 191 #[(pt ba 0),(pt bb 0)]),(fV 190 #[(pt bc 0),(pt bm 0),(pt bn 0),(pt bd 0)]),(fV 191 #[(pt bc 0),(pt bd 0)]),(fV 190 #[(pt be 0),(pt bo 0),(pt bp 0),(pt bf 0)]),(fV 191 #[(pt be 0),(pt bf 0)]),(fV 159 #[]),(fV 160 #[]),(vi 0),(.bool false)] e6 b8 (fun d3 k6 e7=>?_)
     refine D1 5<|Mh #[(pt d3 0)] e7 b8 (fun k7 e8=>?_)
     have e9:=e8.dr5.pk4.pk4.pk4.pk3.pk4
     exact XD (by kernel_rfl) ⟨F2,e4,d3,ba,bk,bl,bb,bc,bm,bn,bd,be,bo,bp,bf,e9,b8,fI,cp,cq,cr,ct,cu,cv,cw,cx,cy,cz,d0,d1⟩
   ·refine DAl 128 #[(.pointer none)] bz (Xr _) (fun ea eb d4=>?_)
    refine D1 1<|DCl ER d4 (Fu eb F0 d4.pers) ?_
    rintro _ F3 k8 ec c0 ⟨c1,d6,d7,c3,c4,d8,d9,c5,c6,da,db,c7,rfl,ed,ee,ef,eg,eh,ei,ej,ek,el,en,eo,ep⟩
    refine Dv [2]<|D1 3<|DBx 130 #[(.bool x0.Report),(.bool x0.Serial),(.bool x0.Zone),(sv (([]:XL))),(vi 0),(vi 0),(vi 0),(sN Int),(sN Line),(fV 153 #[]),(fV 154 #[]),(fV 190 #[(pt c1 0),(pt d6 0),(pt d7 0),(pt c3 0)]),(fV 191 #[(pt c1 0),(pt c3 0)]),(fV 190 #[(pt c4 0),(pt d8 0),(pt d9 0),(pt c5 0)]),(fV 191 #[(pt c4 0),(pt c5 0)]),(fV 190 #[(pt c6 0),(pt da 0),(pt db 0),(pt c7 0)]),(fV 191 #[(pt c6 0),(pt c7 0)]),(fV 159 #[]),(fV 160 #[]),(vi 0),(.bool false)] ec c0 (fun dc k9 er=>?_)
    refine D1 5<|Mh #[(pt dc 0)] er c0 (fun ka et=>?_)
    have eu:=et.dr5.pk4.pk4.pk4.pk3.pk4
    exact XD (by kernel_rfl) ⟨F3,ea,dc,c1,d6,d7,c3,c4,d8,d9,c5,c6,da,db,c7,eu,c0,fI,ed,ee,ef,eg,eh,ei,ej,ek,el,en,eo,ep⟩
  ·rintro f kb ⟨F1,he,h9,h3,hf,hg,h4,h5,hh,hm,h6,h7,hn,ho,h8,ev,dd,⟨_,rfl⟩,ew,ex,ey,ez,g0,g1,g2,g3,g4,g5,g6,g7⟩
   refine Ab<|Sq (Rg [0,1] ?_)
   refine Al' 3 #[(vi 0)] ev (fun hp kc g8=>?_)
   refine St0 #[(vi 0)] g8 (fun g9 de=>?_)
   refine Nss<|Sq (Rg [0,1] ?_)
   refine Vs 1<|RWP.callO (dst:=(some 22)) (ty:=132) (g:=none) (by kernel_rfl) rfl (f0:=(.func 105)) (aos:=#[(.tmp 21)]) (ats:=#[9]) (fid:=105) (first:=#[]) (cap:=#[]) (args:=[(sv x1)]) rfl Jn rfl de (KD g9 F1 de.pers x1) ?_
   rintro _ F4 ga _ gh hr ⟨bq,rfl,rfl⟩
   have gi:HS w0 F0 ga F4 [(sb bq #[(sv x1)] 9),(sb hp #[(vi 0)] 3),(sb he #[(pt h9 0)] 128),(sb h9 #[(.bool x0.Report),(.bool x0.Serial),(.bool x0.Zone),(sv (([]:XL))),(vi 0),(vi 0),(vi 0),(sN Int),(sN Line),(fV 153 #[]),(fV 154 #[]),(fV 190 #[(pt h3 0),(pt hf 0),(pt hg 0),(pt h4 0)]),(fV 191 #[(pt h3 0),(pt h4 0)]),(fV 190 #[(pt h5 0),(pt hh 0),(pt hm 0),(pt h6 0)]),(fV 191 #[(pt h5 0),(pt h6 0)]),(fV 190 #[(pt h7 0),(pt hn 0),(pt ho 0),(pt h8 0)]),(fV 191 #[(pt h7 0),(pt h8 0)]),(fV 159 #[]),(fV 160 #[]),(vi 0),(.bool false)] 130),(sb ha #[(vi 0)] 3),(sb hc #[(vi 0)] 35),(sb hb #[(sv (([]:XL))),(vi 0),(vi 0),(vi 0),(sN Int),(sN Line)] 27)]:=gh
   refine Nt<|Bk ?_
   have gk:=gi.dummy (oc #[] 0)
   have gl:=gk.pk7.pk7.pk7.pk7.pk7
   obtain ⟨h0,gm,df⟩:=bS dw
   refine CWP.rangeRet (enc:=Q5) (ok:=Tq) (px:=Tf) (m:=fun {_} y s=>Dy N y x1 s) (L:=[(none,.cells #[] 0 (0,0)),(sb hp #[(vi 0)] 3),(sb he #[(pt h9 0)] 128),(sb h9 #[(.bool x0.Report),(.bool x0.Serial),(.bool x0.Zone),(sv (([]:XL))),(vi 0),(vi 0),(vi 0),(sN Int),(sN Line),(fV 153 #[]),(fV 154 #[]),(fV 190 #[(pt h3 0),(pt hf 0),(pt hg 0),(pt h4 0)]),(fV 191 #[(pt h3 0),(pt h4 0)]),(fV 190 #[(pt h5 0),(pt hh 0),(pt hm 0),(pt h6 0)]),(fV 191 #[(pt h5 0),(pt h6 0)]),(fV 190 #[(pt h7 0),(pt hn 0),(pt ho 0),(pt h8 0)]),(fV 191 #[(pt h7 0),(pt h8 0)]),(fV 159 #[]),(fV 160 #[]),(vi 0),(.bool false)] 130),(sb ha #[(vi 0)] 3),(sb hc #[(vi 0)] 35),(sb hb #[(sv (([]:XL))),(vi 0),(vi 0),(vi 0),(sN Int),(sN Line)] 27)]) (B:=[(sb bq #[(sv x1)] 9)]) (ps:=[23,24]) (by kernel_rfl) (gf:=169) (cap:=[(pt bq 0)]) rfl HG rfl (by kernel_rfl) (by kernel_rfl) (fun _=>rfl) gl.pk7.pk6.pk7 (IB N F4 (hG.mono (dd.t hr)) x1 bq) (Ji N x0 x1) (fun (h2:(Int×Int×Bool×Bool×Bool×XL×Int×Int×Int×List Int×List Line×Int×Bool×Int)) (F5:Mem) (Lq:Own)=>∃ (b3:XM) (b4:Nat) (b5:XM) (b6:Nat) (b7:Option Nat×Obj),Lq=[b7,(sb hp #[(vi h2.2.2.2.2.2.2.2.2.2.2.2.2.2)] 3),(sb he #[(pt h9 0)] 128),(sb h9 #[(.bool h2.2.2.1),(.bool h2.2.2.2.1),(.bool h2.2.2.2.2.1),(sv h2.2.2.2.2.2.1),(vi h2.2.2.2.2.2.2.1),(vi h2.2.2.2.2.2.2.2.1),(vi h2.2.2.2.2.2.2.2.2.1),(sL b3 h2.2.2.2.2.2.2.2.2.2.1 b4),(sL b5 h2.2.2.2.2.2.2.2.2.2.2.1 b6),(fV 153 #[]),(fV 154 #[]),(fV 190 #[(pt h3 0),(pt hf 0),(pt hg 0),(pt h4 0)]),(fV 191 #[(pt h3 0),(pt h4 0)]),(fV 190 #[(pt h5 0),(pt hh 0),(pt hm 0),(pt h6 0)]),(fV 191 #[(pt h5 0),(pt h6 0)]),(fV 190 #[(pt h7 0),(pt hn 0),(pt ho 0),(pt h8 0)]),(fV 191 #[(pt h7 0),(pt h8 0)]),(fV 159 #[]),(fV 160 #[]),(vi h2.2.2.2.2.2.2.2.2.2.2.2.1),(.bool h2.2.2.2.2.2.2.2.2.2.2.2.2.1)] 130),(sb ha #[(vi h2.2.1)] 3),(sb hc #[(vi h2.1)] 35),(sb hb #[(sv (([]:XL))),(vi 0),(vi 0),(vi 0),(sN Int),(sN Line)] 27)]/\LC h2.2.2.2.2.2.2.2.2.2.1.length b4/\SlA AE F5 b3 h2.2.2.2.2.2.2.2.2.2.1/\As AD 34 F5 b5 b6 h2.2.2.2.2.2.2.2.2.2.2.1 b7) ?_ (s:=(0,0,x0.Report,x0.Serial,x0.Zone,([]:XL),0,0,0,([]:List Int),([]:List Line),0,false,0)) (r:=h0) ?_ gm ?_ ?_ ?_
   ·rintro s F F' L ⟨b3,b4,b5,b6,b7,rfl,br,bs,bt⟩ hl
    exact ⟨b3,b4,b5,b6,b7,rfl,br,(bs.mono hl),(bt.mono hl)⟩
   ·exact ⟨none,0,none,0,(none,.cells #[] 0 (0,0)),rfl,Xu,(.inl rfl),(XF AD 34 F4 _)⟩
   ·rintro kd h2 gn go F5 _ Rf119 ke ht kf ⟨b3,b4,b5,b6,b7,rfl,br,bs,bt⟩ gp gr
    have gs:=gr
    have gu:HS w0 F0 go F5 (b7::(sb hp #[(vi h2.2.2.2.2.2.2.2.2.2.2.2.2.2)] 3)::(sb he #[(pt h9 0)] 128)::(sb h9 #[(.bool h2.2.2.1),(.bool h2.2.2.2.1),(.bool h2.2.2.2.2.1),(sv h2.2.2.2.2.2.1),(vi h2.2.2.2.2.2.2.1),(vi h2.2.2.2.2.2.2.2.1),(vi h2.2.2.2.2.2.2.2.2.1),(sL b3 h2.2.2.2.2.2.2.2.2.2.1 b4),(sL b5 h2.2.2.2.2.2.2.2.2.2.2.1 b6),(fV 153 #[]),(fV 154 #[]),(fV 190 #[(pt h3 0),(pt hf 0),(pt hg 0),(pt h4 0)]),(fV 191 #[(pt h3 0),(pt h4 0)]),(fV 190 #[(pt h5 0),(pt hh 0),(pt hm 0),(pt h6 0)]),(fV 191 #[(pt h5 0),(pt h6 0)]),(fV 190 #[(pt h7 0),(pt hn 0),(pt ho 0),(pt h8 0)]),(fV 191 #[(pt h7 0),(pt h8 0)]),(fV 159 #[]),(fV 160 #[]),(vi h2.2.2.2.2.2.2.2.2.2.2.2.1),(.bool h2.2.2.2.2.2.2.2.2.2.2.2.2.1)] 130)::(sb ha #[(vi h2.2.1)] 3)::(sb hc #[(vi h2.1)] 35)::(sb hb #[(sv (([]:XL))),(vi 0),(vi 0),(vi 0),(sN Int),(sN Line)] 27)::Rf119):=gp
    refine Sq (Rg [0] ?_)
    refine Vs 1<|Nt<|Rg [0]<|Vs 1<|Xm<|⟨rfl,F5,[b7,(sb hp #[(vi h2.2.2.2.2.2.2.2.2.2.2.2.2.2)] 3),(sb he #[(pt h9 0)] 128),(sb h9 #[(.bool h2.2.2.1),(.bool h2.2.2.2.1),(.bool h2.2.2.2.2.1),(sv h2.2.2.2.2.2.1),(vi h2.2.2.2.2.2.2.1),(vi h2.2.2.2.2.2.2.2.1),(vi h2.2.2.2.2.2.2.2.2.1),(sL b3 h2.2.2.2.2.2.2.2.2.2.1 b4),(sL b5 h2.2.2.2.2.2.2.2.2.2.2.1 b6),(fV 153 #[]),(fV 154 #[]),(fV 190 #[(pt h3 0),(pt hf 0),(pt hg 0),(pt h4 0)]),(fV 191 #[(pt h3 0),(pt h4 0)]),(fV 190 #[(pt h5 0),(pt hh 0),(pt hm 0),(pt h6 0)]),(fV 191 #[(pt h5 0),(pt h6 0)]),(fV 190 #[(pt h7 0),(pt hn 0),(pt ho 0),(pt h8 0)]),(fV 191 #[(pt h7 0),(pt h8 0)]),(fV 159 #[]),(fV 160 #[]),(vi h2.2.2.2.2.2.2.2.2.2.2.2.1),(.bool h2.2.2.2.2.2.2.2.2.2.2.2.2.1)] 130),(sb ha #[(vi h2.2.1)] 3),(sb hc #[(vi h2.1)] 35),(sb hb #[(sv (([]:XL))),(vi 0),(vi 0),(vi 0),(sN Int),(sN Line)] 27)],gu,fun gv Rf128 gw=>?_⟩
    have dg:HS w0 F0 gv F5 (b7::(sb hp #[(vi h2.2.2.2.2.2.2.2.2.2.2.2.2.2)] 3)::(sb he #[(pt h9 0)] 128)::(sb h9 #[(.bool h2.2.2.1),(.bool h2.2.2.2.1),(.bool h2.2.2.2.2.1),(sv h2.2.2.2.2.2.1),(vi h2.2.2.2.2.2.2.1),(vi h2.2.2.2.2.2.2.2.1),(vi h2.2.2.2.2.2.2.2.2.1),(sL b3 h2.2.2.2.2.2.2.2.2.2.1 b4),(sL b5 h2.2.2.2.2.2.2.2.2.2.2.1 b6),(fV 153 #[]),(fV 154 #[]),(fV 190 #[(pt h3 0),(pt hf 0),(pt hg 0),(pt h4 0)]),(fV 191 #[(pt h3 0),(pt h4 0)]),(fV 190 #[(pt h5 0),(pt hh 0),(pt hm 0),(pt h6 0)]),(fV 191 #[(pt h5 0),(pt h6 0)]),(fV 190 #[(pt h7 0),(pt hn 0),(pt ho 0),(pt h8 0)]),(fV 191 #[(pt h7 0),(pt h8 0)]),(fV 159 #[]),(fV 160 #[]),(vi h2.2.2.2.2.2.2.2.2.2.2.2.1),(.bool h2.2.2.2.2.2.2.2.2.2.2.2.2.1)] 130)::(sb ha #[(vi h2.2.1)] 3)::(sb hc #[(vi h2.1)] 35)::(sb hb #[(sv (([]:XL))),(vi 0),(vi 0),(vi 0),(sN Int),(sN Line)] 27)::Rf128):=gw
    refine Bk<|Sq (Rg [0,1,2] ?_)
    refine Ld dg.at1<|Vs 1<|St1 #[(vi (W64 (h2.2.2.2.2.2.2.2.2.2.2.2.2.2 + 1)))] dg (fun kg c8=>?_)
    refine Nss (Rg [0,1] ?_)
    refine Vs 2<|Nss<|Sq (Rg [0] ?_)
    refine Vs 1<|Nt ?_
    obtain ⟨h1,gx,gy⟩:=bS gs
    refine Xx (fun f w=>∃ (F7:Mem) (hu:XM) (hv:Nat) (hw:XM) (hx:Nat) (hy:Option Nat×Obj),HS w0 F0 w F7 (hy::(sb hp #[(vi (W64 (h2.2.2.2.2.2.2.2.2.2.2.2.2.2 + 1)))] 3)::(sb he #[(pt h9 0)] 128)::(sb h9 #[(.bool h1.2.2.1),(.bool h1.2.2.2.1),(.bool h1.2.2.2.2.1),(sv h1.2.2.2.2.2.1),(vi h1.2.2.2.2.2.2.1),(vi h1.2.2.2.2.2.2.2.1),(vi h1.2.2.2.2.2.2.2.2.1),(sL hu h1.2.2.2.2.2.2.2.2.2.1 hv),(sL hw h1.2.2.2.2.2.2.2.2.2.2.1 hx),(fV 153 #[]),(fV 154 #[]),(fV 190 #[(pt h3 0),(pt hf 0),(pt hg 0),(pt h4 0)]),(fV 191 #[(pt h3 0),(pt h4 0)]),(fV 190 #[(pt h5 0),(pt hh 0),(pt hm 0),(pt h6 0)]),(fV 191 #[(pt h5 0),(pt h6 0)]),(fV 190 #[(pt h7 0),(pt hn 0),(pt ho 0),(pt h8 0)]),(fV 191 #[(pt h7 0),(pt h8 0)]),(fV 159 #[]),(fV 160 #[]),(vi h1.2.2.2.2.2.2.2.2.2.2.2.1),(.bool h1.2.2.2.2.2.2.2.2.2.2.2.2)] 130)::(sb ha #[(vi h2.2.1)] 3)::(sb hc #[(vi h2.1)] 35)::(sb hb #[(sv (([]:XL))),(vi 0),(vi 0),(vi 0),(sN Int),(sN Line)] 27)::Rf128)/\Xq F5 F7/\FI f [] [(4,(pt hb 0)),(5,(pt hc 0)),(6,(pt ha 0)),(7,(pt he 0)),(8,(pt hp 0)),(11,(.bool h1.1)),(12,(.bool h1.2.1))]/\LC h1.2.2.2.2.2.2.2.2.2.1.length hv/\SlA AE F7 hu h1.2.2.2.2.2.2.2.2.2.1/\As AD 34 F7 hw hx h1.2.2.2.2.2.2.2.2.2.2.1 hy) ?_ ?_
    ·refine Cd gx (fun gz i0=>?_) (fun gz i1=>?_)
     ·refine Rg (rG 8) ?_
      refine Ld c8.at2<|Vs 1 ?_
      have i2:=c8.pk6.pk6.pk6.pk5.pk5
      obtain ⟨kh,i3,i4⟩:=bS i0
      refine CB Ip (I9 N (hG.mono ((dd.t hr).trans ht)) h9 (({o_:=({Report:=h2.2.2.1,Serial:=h2.2.2.2.1,Zone:=h2.2.2.2.2.1}:Ac),l_:=({Call:=h2.2.2.2.2.2.1,Category:=h2.2.2.2.2.2.2.1,Power:=h2.2.2.2.2.2.2.2.1,Claimed:=h2.2.2.2.2.2.2.2.2.1,Jumps:=h2.2.2.2.2.2.2.2.2.2.1,Lines:=h2.2.2.2.2.2.2.2.2.2.2.1}:Log),done_:=h2.2.2.2.2.2.2.2.2.2.2.2.1,ended_:=h2.2.2.2.2.2.2.2.2.2.2.2.2.1}:Aq)) b3 b4 h3 hf hg h4 h5 hh hm h6 h7 hn ho h8 b5 b6 b7 br bs ((hr.t ht) _ _ ew) ((hr.t ht) _ _ ex) ((hr.t ht) _ _ ey) ((hr.t ht) _ _ ez) ((hr.t ht) _ _ g0) ((hr.t ht) _ _ g1) ((hr.t ht) _ _ g2) ((hr.t ht) _ _ g3) ((hr.t ht) _ _ g4) ((hr.t ht) _ _ g5) ((hr.t ht) _ _ g6) ((hr.t ht) _ _ g7) bt gn.1 i2.pk5.pk6 _ i3) ?_
      rintro _ F8 ki _ i5 i6 ⟨i7,i8,i9,ia,ib,rfl,rfl,ic,ie,ig⟩
      refine Vs 5<|Xm ?_
      obtain rfl:=Aa i4
      have ii:=i5.pk6.pk6.pk6.pk3.pk6
      exact .inl ⟨rfl,F8,i7,i8,i9,ia,ib,ii.pk6.pk6,i6,fI,ic,ie,ig⟩
     ·refine Sc ?_
      obtain rfl:=Aa i1
      exact .inl ⟨rfl,F5,b3,b4,b5,b6,b7,c8,(Xr _),fI,br,bs,bt⟩
    ·rintro f kj ⟨F7,hu,hv,hw,hx,hy,c9,ca,⟨_,rfl⟩,cb,cc,cd⟩
     refine Ab<|Bk<|Sq (Rg [0,1] ?_)
     refine Vs 2<|Nt<|Cd gy (fun ij ik=>?_) (fun ij io=>?_)
     ·refine Sq ?_
      refine RD 4 5 [hy,(sb hp #[(vi (W64 (h2.2.2.2.2.2.2.2.2.2.2.2.2.2 + 1)))] 3),(sb he #[(pt h9 0)] 128),(sb h9 #[(.bool h1.2.2.1),(.bool h1.2.2.2.1),(.bool h1.2.2.2.2.1),(sv h1.2.2.2.2.2.1),(vi h1.2.2.2.2.2.2.1),(vi h1.2.2.2.2.2.2.2.1),(vi h1.2.2.2.2.2.2.2.2.1),(sL hu h1.2.2.2.2.2.2.2.2.2.1 hv),(sL hw h1.2.2.2.2.2.2.2.2.2.2.1 hx),(fV 153 #[]),(fV 154 #[]),(fV 190 #[(pt h3 0),(pt hf 0),(pt hg 0),(pt h4 0)]),(fV 191 #[(pt h3 0),(pt h4 0)]),(fV 190 #[(pt h5 0),(pt hh 0),(pt hm 0),(pt h6 0)]),(fV 191 #[(pt h5 0),(pt h6 0)]),(fV 190 #[(pt h7 0),(pt hn 0),(pt ho 0),(pt h8 0)]),(fV 191 #[(pt h7 0),(pt h8 0)]),(fV 159 #[]),(fV 160 #[]),(vi h1.2.2.2.2.2.2.2.2.2.2.2.1),(.bool h1.2.2.2.2.2.2.2.2.2.2.2.2)] 130)] [(sb ha #[(vi h2.2.1)] 3)] c9 (fun f w=>∃ (F9:Mem),HS w0 F0 w F9 (hy::(sb hp #[(vi (W64 (h2.2.2.2.2.2.2.2.2.2.2.2.2.2 + 1)))] 3)::(sb he #[(pt h9 0)] 128)::(sb h9 #[(.bool h1.2.2.1),(.bool h1.2.2.2.1),(.bool h1.2.2.2.2.1),(sv h1.2.2.2.2.2.1),(vi h1.2.2.2.2.2.2.1),(vi h1.2.2.2.2.2.2.2.1),(vi h1.2.2.2.2.2.2.2.2.1),(sL hu h1.2.2.2.2.2.2.2.2.2.1 hv),(sL hw h1.2.2.2.2.2.2.2.2.2.2.1 hx),(fV 153 #[]),(fV 154 #[]),(fV 190 #[(pt h3 0),(pt hf 0),(pt hg 0),(pt h4 0)]),(fV 191 #[(pt h3 0),(pt h4 0)]),(fV 190 #[(pt h5 0),(pt hh 0),(pt hm 0),(pt h6 0)]),(fV 191 #[(pt h5 0),(pt h6 0)]),(fV 190 #[(pt h7 0),(pt hn 0),(pt ho 0),(pt h8 0)]),(fV 191 #[(pt h7 0),(pt h8 0)]),(fV 159 #[]),(fV 160 #[]),(vi h1.2.2.2.2.2.2.2.2.2.2.2.1),(.bool h1.2.2.2.2.2.2.2.2.2.2.2.2)] 130)::(sb ha #[(vi (W64 (h2.2.2.2.2.2.2.2.2.2.2.2.2.2 + 1)))] 3)::(sb hc #[(vi 2)] 35)::(sb hb #[(sv (([]:XL))),(vi 0),(vi 0),(vi 0),(sN Int),(sN Line)] 27)::Rf128)/\Xq F7 F9/\FI f [] [(4,(pt hb 0)),(5,(pt hc 0)),(6,(pt ha 0)),(7,(pt he 0)),(8,(pt hp 0))]) (fun kl ip=>?_) ?_
      ·refine Dv [0] ?_
       refine Dl 1 (fun _ hq=>(hq.1.2 1 _ _ rfl))<|D1 2<|Vx #[(sv (([]:XL))),(vi 0),(vi 0),(vi 0),(sN Int),(sN Line)] ip (Xr _) (fun km iq=>?_)
       refine D1 3<|Rk #[(vi 2)] iq (Xr _) (fun kn ir=>?_)
       refine D1 4<|W4 #[(vi (W64 (h2.2.2.2.2.2.2.2.2.2.2.2.2.2 + 1)))] ir (Xr _) (fun ko it=>?_)
       exact XD (by kernel_rfl) ⟨F7,it,(Xr _),fI⟩
      ·rintro f kp ⟨F9,iu,ce,⟨_,rfl⟩⟩
       refine Ab<|Rt<|Ay<|Ay ?_
       obtain rfl:=Aa ik
       exact ⟨.inr ⟨rfl,rfl⟩,F9,[hy,(sb hp #[(vi (W64 (h2.2.2.2.2.2.2.2.2.2.2.2.2.2 + 1)))] 3),(sb he #[(pt h9 0)] 128),(sb h9 #[(.bool h1.2.2.1),(.bool h1.2.2.2.1),(.bool h1.2.2.2.2.1),(sv h1.2.2.2.2.2.1),(vi h1.2.2.2.2.2.2.1),(vi h1.2.2.2.2.2.2.2.1),(vi h1.2.2.2.2.2.2.2.2.1),(sL hu h1.2.2.2.2.2.2.2.2.2.1 hv),(sL hw h1.2.2.2.2.2.2.2.2.2.2.1 hx),(fV 153 #[]),(fV 154 #[]),(fV 190 #[(pt h3 0),(pt hf 0),(pt hg 0),(pt h4 0)]),(fV 191 #[(pt h3 0),(pt h4 0)]),(fV 190 #[(pt h5 0),(pt hh 0),(pt hm 0),(pt h6 0)]),(fV 191 #[(pt h5 0),(pt h6 0)]),(fV 190 #[(pt h7 0),(pt hn 0),(pt ho 0),(pt h8 0)]),(fV 191 #[(pt h7 0),(pt h8 0)]),(fV 159 #[]),(fV 160 #[]),(vi h1.2.2.2.2.2.2.2.2.2.2.2.1),(.bool h1.2.2.2.2.2.2.2.2.2.2.2.2)] 130),(sb ha #[(vi (W64 (h2.2.2.2.2.2.2.2.2.2.2.2.2.2 + 1)))] 3),(sb hc #[(vi 2)] 35),(sb hb #[(sv (([]:XL))),(vi 0),(vi 0),(vi 0),(sN Int),(sN Line)] 27)],iu,(ca.t ce),⟨hu,hv,hw,hx,hy,rfl,cb,(Xt cc ce),(cd.mono ce)⟩⟩
     ·refine Sq (Rg [0,1,2] ?_)
      refine Vs 3<|Nt<|Cd io (fun iv iw=>?_) (fun iv iy=>?_)
      ·refine Sq ?_
       refine RD 4 5 [hy,(sb hp #[(vi (W64 (h2.2.2.2.2.2.2.2.2.2.2.2.2.2 + 1)))] 3),(sb he #[(pt h9 0)] 128),(sb h9 #[(.bool h1.2.2.1),(.bool h1.2.2.2.1),(.bool h1.2.2.2.2.1),(sv h1.2.2.2.2.2.1),(vi h1.2.2.2.2.2.2.1),(vi h1.2.2.2.2.2.2.2.1),(vi h1.2.2.2.2.2.2.2.2.1),(sL hu h1.2.2.2.2.2.2.2.2.2.1 hv),(sL hw h1.2.2.2.2.2.2.2.2.2.2.1 hx),(fV 153 #[]),(fV 154 #[]),(fV 190 #[(pt h3 0),(pt hf 0),(pt hg 0),(pt h4 0)]),(fV 191 #[(pt h3 0),(pt h4 0)]),(fV 190 #[(pt h5 0),(pt hh 0),(pt hm 0),(pt h6 0)]),(fV 191 #[(pt h5 0),(pt h6 0)]),(fV 190 #[(pt h7 0),(pt hn 0),(pt ho 0),(pt h8 0)]),(fV 191 #[(pt h7 0),(pt h8 0)]),(fV 159 #[]),(fV 160 #[]),(vi h1.2.2.2.2.2.2.2.2.2.2.2.1),(.bool h1.2.2.2.2.2.2.2.2.2.2.2.2)] 130)] [(sb ha #[(vi h2.2.1)] 3)] c9 (fun f w=>∃ (bu:Mem),HS w0 F0 w bu (hy::(sb hp #[(vi (W64 (h2.2.2.2.2.2.2.2.2.2.2.2.2.2 + 1)))] 3)::(sb he #[(pt h9 0)] 128)::(sb h9 #[(.bool h1.2.2.1),(.bool h1.2.2.2.1),(.bool h1.2.2.2.2.1),(sv h1.2.2.2.2.2.1),(vi h1.2.2.2.2.2.2.1),(vi h1.2.2.2.2.2.2.2.1),(vi h1.2.2.2.2.2.2.2.2.1),(sL hu h1.2.2.2.2.2.2.2.2.2.1 hv),(sL hw h1.2.2.2.2.2.2.2.2.2.2.1 hx),(fV 153 #[]),(fV 154 #[]),(fV 190 #[(pt h3 0),(pt hf 0),(pt hg 0),(pt h4 0)]),(fV 191 #[(pt h3 0),(pt h4 0)]),(fV 190 #[(pt h5 0),(pt hh 0),(pt hm 0),(pt h6 0)]),(fV 191 #[(pt h5 0),(pt h6 0)]),(fV 190 #[(pt h7 0),(pt hn 0),(pt ho 0),(pt h8 0)]),(fV 191 #[(pt h7 0),(pt h8 0)]),(fV 159 #[]),(fV 160 #[]),(vi h1.2.2.2.2.2.2.2.2.2.2.2.1),(.bool h1.2.2.2.2.2.2.2.2.2.2.2.2)] 130)::(sb ha #[(vi (W64 (h2.2.2.2.2.2.2.2.2.2.2.2.2.2 + 1)))] 3)::(sb hc #[(vi 20)] 35)::(sb hb #[(sv (([]:XL))),(vi 0),(vi 0),(vi 0),(sN Int),(sN Line)] 27)::Rf128)/\Xq F7 bu/\FI f [] [(4,(pt hb 0)),(5,(pt hc 0)),(6,(pt ha 0)),(7,(pt he 0)),(8,(pt hp 0))]) (fun kr iz=>?_) ?_
       ·refine Dv [0] ?_
        refine Dl 1 (fun _ hq=>(hq.1.2 1 _ _ rfl))<|D1 2<|Vx #[(sv (([]:XL))),(vi 0),(vi 0),(vi 0),(sN Int),(sN Line)] iz (Xr _) (fun ks j0=>?_)
        refine D1 3<|Rk #[(vi 20)] j0 (Xr _) (fun kt j1=>?_)
        refine D1 4<|W4 #[(vi (W64 (h2.2.2.2.2.2.2.2.2.2.2.2.2.2 + 1)))] j1 (Xr _) (fun ku j2=>?_)
        exact XD (by kernel_rfl) ⟨F7,j2,(Xr _),fI⟩
       ·rintro f kw ⟨bu,j3,cf,⟨_,rfl⟩⟩
        refine Ab<|Rt<|Ay<|Ay ?_
        obtain rfl:=Aa iw
        exact ⟨.inr ⟨rfl,rfl⟩,bu,[hy,(sb hp #[(vi (W64 (h2.2.2.2.2.2.2.2.2.2.2.2.2.2 + 1)))] 3),(sb he #[(pt h9 0)] 128),(sb h9 #[(.bool h1.2.2.1),(.bool h1.2.2.2.1),(.bool h1.2.2.2.2.1),(sv h1.2.2.2.2.2.1),(vi h1.2.2.2.2.2.2.1),(vi h1.2.2.2.2.2.2.2.1),(vi h1.2.2.2.2.2.2.2.2.1),(sL hu h1.2.2.2.2.2.2.2.2.2.1 hv),(sL hw h1.2.2.2.2.2.2.2.2.2.2.1 hx),(fV 153 #[]),(fV 154 #[]),(fV 190 #[(pt h3 0),(pt hf 0),(pt hg 0),(pt h4 0)]),(fV 191 #[(pt h3 0),(pt h4 0)]),(fV 190 #[(pt h5 0),(pt hh 0),(pt hm 0),(pt h6 0)]),(fV 191 #[(pt h5 0),(pt h6 0)]),(fV 190 #[(pt h7 0),(pt hn 0),(pt ho 0),(pt h8 0)]),(fV 191 #[(pt h7 0),(pt h8 0)]),(fV 159 #[]),(fV 160 #[]),(vi h1.2.2.2.2.2.2.2.2.2.2.2.1),(.bool h1.2.2.2.2.2.2.2.2.2.2.2.2)] 130),(sb ha #[(vi (W64 (h2.2.2.2.2.2.2.2.2.2.2.2.2.2 + 1)))] 3),(sb hc #[(vi 20)] 35),(sb hb #[(sv (([]:XL))),(vi 0),(vi 0),(vi 0),(sN Int),(sN Line)] 27)],j3,(ca.t cf),⟨hu,hv,hw,hx,hy,rfl,cb,(Xt cc cf),(cd.mono cf)⟩⟩
      ·refine Sc ?_
       refine Av<|Av ?_
       obtain rfl:=Aa iy
       exact ⟨.inl ⟨rfl,rfl⟩,F7,[hy,(sb hp #[(vi (W64 (h2.2.2.2.2.2.2.2.2.2.2.2.2.2 + 1)))] 3),(sb he #[(pt h9 0)] 128),(sb h9 #[(.bool h1.2.2.1),(.bool h1.2.2.2.1),(.bool h1.2.2.2.2.1),(sv h1.2.2.2.2.2.1),(vi h1.2.2.2.2.2.2.1),(vi h1.2.2.2.2.2.2.2.1),(vi h1.2.2.2.2.2.2.2.2.1),(sL hu h1.2.2.2.2.2.2.2.2.2.1 hv),(sL hw h1.2.2.2.2.2.2.2.2.2.2.1 hx),(fV 153 #[]),(fV 154 #[]),(fV 190 #[(pt h3 0),(pt hf 0),(pt hg 0),(pt h4 0)]),(fV 191 #[(pt h3 0),(pt h4 0)]),(fV 190 #[(pt h5 0),(pt hh 0),(pt hm 0),(pt h6 0)]),(fV 191 #[(pt h5 0),(pt h6 0)]),(fV 190 #[(pt h7 0),(pt hn 0),(pt ho 0),(pt h8 0)]),(fV 191 #[(pt h7 0),(pt h8 0)]),(fV 159 #[]),(fV 160 #[]),(vi h1.2.2.2.2.2.2.2.2.2.2.2.1),(.bool h1.2.2.2.2.2.2.2.2.2.2.2.2)] 130),(sb ha #[(vi h2.2.1)] 3),(sb hc #[(vi h2.1)] 35),(sb hb #[(sv (([]:XL))),(vi 0),(vi 0),(vi 0),(sN Int),(sN Line)] 27)],c9,ca,⟨hu,hv,hw,hx,hy,rfl,cb,cc,cd⟩⟩
   ·rintro j4
    have j5:=Pa df j4
    rintro b9 j6 F6 _ j7 ky ⟨hz,b0,b1,b2,bh,rfl,dh,di,cg⟩
    have bg:HS w0 F0 j6 F6 [(some b9,(.deferred (some []))),bh,(sb hp #[(vi h0.1.2.2.2.2.2.2.2.2.2.2.2.2.2)] 3),(sb he #[(pt h9 0)] 128),(sb h9 #[(.bool h0.1.2.2.1),(.bool h0.1.2.2.2.1),(.bool h0.1.2.2.2.2.1),(sv h0.1.2.2.2.2.2.1),(vi h0.1.2.2.2.2.2.2.1),(vi h0.1.2.2.2.2.2.2.2.1),(vi h0.1.2.2.2.2.2.2.2.2.1),(sL hz h0.1.2.2.2.2.2.2.2.2.2.1 b0),(sL b1 h0.1.2.2.2.2.2.2.2.2.2.2.1 b2),(fV 153 #[]),(fV 154 #[]),(fV 190 #[(pt h3 0),(pt hf 0),(pt hg 0),(pt h4 0)]),(fV 191 #[(pt h3 0),(pt h4 0)]),(fV 190 #[(pt h5 0),(pt hh 0),(pt hm 0),(pt h6 0)]),(fV 191 #[(pt h5 0),(pt h6 0)]),(fV 190 #[(pt h7 0),(pt hn 0),(pt ho 0),(pt h8 0)]),(fV 191 #[(pt h7 0),(pt h8 0)]),(fV 159 #[]),(fV 160 #[]),(vi h0.1.2.2.2.2.2.2.2.2.2.2.2.1),(.bool h0.1.2.2.2.2.2.2.2.2.2.2.2.2.1)] 130),(sb ha #[(vi h0.1.2.1)] 3),(sb hc #[(vi h0.1.1)] 35),(sb hb #[(sv (([]:XL))),(vi 0),(vi 0),(vi 0),(sN Int),(sN Line)] 27)]:=j7
    refine Av<|Ab<|Sq<|Sq (Rg (rG 5) ?_)
    refine Ld bg.at3<|Vs 2<|Ld bg.at4<|Vs 1<|Nt<|Cd j5 (fun j8 j9=>?_) (fun j8 ja=>?_)
    ·refine Sq ?_
     refine RD 5 6 [(some b9,(.deferred (some []))),bh,(sb hp #[(vi h0.1.2.2.2.2.2.2.2.2.2.2.2.2.2)] 3),(sb he #[(pt h9 0)] 128),(sb h9 #[(.bool h0.1.2.2.1),(.bool h0.1.2.2.2.1),(.bool h0.1.2.2.2.2.1),(sv h0.1.2.2.2.2.2.1),(vi h0.1.2.2.2.2.2.2.1),(vi h0.1.2.2.2.2.2.2.2.1),(vi h0.1.2.2.2.2.2.2.2.2.1),(sL hz h0.1.2.2.2.2.2.2.2.2.2.1 b0),(sL b1 h0.1.2.2.2.2.2.2.2.2.2.2.1 b2),(fV 153 #[]),(fV 154 #[]),(fV 190 #[(pt h3 0),(pt hf 0),(pt hg 0),(pt h4 0)]),(fV 191 #[(pt h3 0),(pt h4 0)]),(fV 190 #[(pt h5 0),(pt hh 0),(pt hm 0),(pt h6 0)]),(fV 191 #[(pt h5 0),(pt h6 0)]),(fV 190 #[(pt h7 0),(pt hn 0),(pt ho 0),(pt h8 0)]),(fV 191 #[(pt h7 0),(pt h8 0)]),(fV 159 #[]),(fV 160 #[]),(vi h0.1.2.2.2.2.2.2.2.2.2.2.2.1),(.bool h0.1.2.2.2.2.2.2.2.2.2.2.2.2.1)] 130)] [(sb ha #[(vi h0.1.2.1)] 3)] bg (fun f w=>∃ (bi:Mem),HS w0 F0 w bi [(some b9,(.deferred (some []))),(sb ha #[(vi (W64 (h0.1.2.2.2.2.2.2.2.2.2.2.2.2.2 + 1)))] 3),(sb hc #[(vi 20)] 35),(sb hb #[(sv (([]:XL))),(vi 0),(vi 0),(vi 0),(sN Int),(sN Line)] 27)]/\Xq F6 bi/\FI f [{target:=.collected b9,args:=#[]}] [(4,(pt hb 0)),(5,(pt hc 0)),(6,(pt ha 0))]) (fun kz jb=>?_) ?_
     ·refine Dv [0] ?_
      refine Dl 1 (fun _ hq=>(hq.1.2 2 _ _ rfl))<|Dv [2]<|D1 3<|Xj #[(sv (([]:XL))),(vi 0),(vi 0),(vi 0),(sN Int),(sN Line)] jb (Xr _) (fun l0 jc=>?_)
      refine D1 4<|Vx #[(vi 20)] jc (Xr _) (fun l1 jd=>?_)
      refine D1 5<|Rk #[(vi (W64 (h0.1.2.2.2.2.2.2.2.2.2.2.2.2.2 + 1)))] jd (Xr _) (fun l2 je=>?_)
      exact XD (by kernel_rfl) ⟨F6,je.dr1.dr1.dr1.dr1,(Xr _),fI⟩
     ·rintro f jf ⟨bi,dj,l3,⟨_,rfl⟩⟩
      refine Ab<|Rt<|Af ?_
      have jg:=dj.put (k:=0) rfl (.deferred none)
      have bv:HS w0 F0 (B4 jf b9 (.deferred none)) bi [(sb ha #[(vi (W64 (h0.1.2.2.2.2.2.2.2.2.2.2.2.2.2 + 1)))] 3),(sb hc #[(vi 20)] 35),(sb hb #[(sv (([]:XL))),(vi 0),(vi 0),(vi 0),(sN Int),(sN Line)] 27)]:=jg.drop 0
      obtain rfl:=Aa j9
      exact .inr ⟨b9,rfl,dj.ownAt (k:=0) rfl,(.tuple #[(.agg #[(sv (([]:XL))),(vi 0),(vi 0),(vi 0),(sN Int),(sN Line)]),(vi 20),(vi (W64 (h0.1.2.2.2.2.2.2.2.2.2.2.2.2.2 + 1)))]),AR (l:=[.cell 4 27,.cell 5 35,.cell 6 3]) (by kernel_rfl) (vs:=[(.agg #[(sv (([]:XL))),(vi 0),(vi 0),(vi 0),(sN Int),(sN Line)]),(vi 20),(vi (W64 (h0.1.2.2.2.2.2.2.2.2.2.2.2.2.2 + 1)))]) ⟨hb,0,rfl,Am (t:=27) (g:=true) (s:=6) (by kernel_rfl) bv.at2 rfl (by decide),⟨hc,0,rfl,Am (t:=35) (g:=false) (s:=1) (by kernel_rfl) bv.at1 rfl (by decide),⟨ha,0,rfl,Am (t:=3) (g:=false) (s:=1) (by kernel_rfl) bv.at0 rfl (by decide),trivial⟩⟩⟩,(.tuple #[(.agg #[(sv (([]:XL))),(vi 0),(vi 0),(vi 0),(sN Int),(sN Line)]),(vi 20),(vi (W64 (h0.1.2.2.2.2.2.2.2.2.2.2.2.2.2 + 1)))]),bi,rfl,bv.clear,⟨none,0,none,0,rfl,Xu,(.inl rfl),Xu,(.inl rfl)⟩⟩
    ·refine Sc ?_
     refine Ab<|Sq (Rg (rG 7) ?_)
     refine Ld bg.at3<|Vs 2<|Ld bg.at4<|St7 #[(sv h0.1.2.2.2.2.2.1),(vi h0.1.2.2.2.2.2.2.1),(vi h0.1.2.2.2.2.2.2.2.1),(vi h0.1.2.2.2.2.2.2.2.2.1),(sL hz h0.1.2.2.2.2.2.2.2.2.2.1 b0),(sL b1 h0.1.2.2.2.2.2.2.2.2.2.2.1 b2)] bg (fun l4 jh=>?_)
     refine St6 #[(vi 0)] jh (fun l5 ji=>?_)
     refine St5 #[(vi 0)] ji (fun jj jk=>?_)
     refine Nt<|Rt ?_
     have jl:=XE cg
     obtain ⟨dk,dl,jm,jo⟩:=jk.fr1 cg
     have jp:=dl.put (k:=0) rfl (.deferred none)
     have bw:HS w0 F0 (B4 jj b9 (.deferred none)) dk [(sb hp #[(vi h0.1.2.2.2.2.2.2.2.2.2.2.2.2.2)] 3),(sb he #[(pt h9 0)] 128),(sb h9 #[(.bool h0.1.2.2.1),(.bool h0.1.2.2.2.1),(.bool h0.1.2.2.2.2.1),(sv h0.1.2.2.2.2.2.1),(vi h0.1.2.2.2.2.2.2.1),(vi h0.1.2.2.2.2.2.2.2.1),(vi h0.1.2.2.2.2.2.2.2.2.1),(sL hz h0.1.2.2.2.2.2.2.2.2.2.1 b0),(sL b1 h0.1.2.2.2.2.2.2.2.2.2.2.1 b2),(fV 153 #[]),(fV 154 #[]),(fV 190 #[(pt h3 0),(pt hf 0),(pt hg 0),(pt h4 0)]),(fV 191 #[(pt h3 0),(pt h4 0)]),(fV 190 #[(pt h5 0),(pt hh 0),(pt hm 0),(pt h6 0)]),(fV 191 #[(pt h5 0),(pt h6 0)]),(fV 190 #[(pt h7 0),(pt hn 0),(pt ho 0),(pt h8 0)]),(fV 191 #[(pt h7 0),(pt h8 0)]),(fV 159 #[]),(fV 160 #[]),(vi h0.1.2.2.2.2.2.2.2.2.2.2.2.1),(.bool h0.1.2.2.2.2.2.2.2.2.2.2.2.2.1)] 130),(sb ha #[(vi 0)] 3),(sb hc #[(vi 0)] 35),(sb hb #[(sv h0.1.2.2.2.2.2.1),(vi h0.1.2.2.2.2.2.2.1),(vi h0.1.2.2.2.2.2.2.2.1),(vi h0.1.2.2.2.2.2.2.2.2.1),(sL hz h0.1.2.2.2.2.2.2.2.2.2.1 b0),(sL b1 h0.1.2.2.2.2.2.2.2.2.2.2.1 b2)] 27)]:=jp.drop 0
     obtain rfl:=Aa ja
     exact .inr ⟨b9,rfl,dl.ownAt (k:=0) rfl,(.tuple #[(.agg #[(sv h0.1.2.2.2.2.2.1),(vi h0.1.2.2.2.2.2.2.1),(vi h0.1.2.2.2.2.2.2.2.1),(vi h0.1.2.2.2.2.2.2.2.2.1),(sL hz h0.1.2.2.2.2.2.2.2.2.2.1 b0),(sL b1 h0.1.2.2.2.2.2.2.2.2.2.2.1 b2)]),(vi 0),(vi 0)]),AR (l:=[.cell 4 27,.cell 5 35,.cell 6 3]) (by kernel_rfl) (vs:=[(.agg #[(sv h0.1.2.2.2.2.2.1),(vi h0.1.2.2.2.2.2.2.1),(vi h0.1.2.2.2.2.2.2.2.1),(vi h0.1.2.2.2.2.2.2.2.2.1),(sL hz h0.1.2.2.2.2.2.2.2.2.2.1 b0),(sL b1 h0.1.2.2.2.2.2.2.2.2.2.2.1 b2)]),(vi 0),(vi 0)]) ⟨hb,0,rfl,Am (t:=27) (g:=true) (s:=6) (by kernel_rfl) bw.at5 rfl (by decide),⟨hc,0,rfl,Am (t:=35) (g:=false) (s:=1) (by kernel_rfl) bw.at4 rfl (by decide),⟨ha,0,rfl,Am (t:=3) (g:=false) (s:=1) (by kernel_rfl) bw.at3 rfl (by decide),trivial⟩⟩⟩,(.tuple #[(.agg #[(sv h0.1.2.2.2.2.2.1),(vi h0.1.2.2.2.2.2.2.1),(vi h0.1.2.2.2.2.2.2.2.1),(vi h0.1.2.2.2.2.2.2.2.2.1),(sL hz h0.1.2.2.2.2.2.2.2.2.2.1 b0),(sL b1 h0.1.2.2.2.2.2.2.2.2.2.2.1 b2)]),(vi 0),(vi 0)]),dk,rfl,bw.clear,⟨hz,b0,b1,b2,rfl,dh,(Xt di jm),jl,jo⟩⟩
   ·rintro jq
    have jr:=Pb df jq
    rintro ch dm F6 _ js l6 ⟨hz,b0,b1,b2,bh,rfl,dh,di,cg⟩
    have dn:HS w0 F0 dm F6 [(some ch,(.deferred (some []))),bh,(sb hp #[(vi h0.1.2.2.2.2.2.2.2.2.2.2.2.2.2)] 3),(sb he #[(pt h9 0)] 128),(sb h9 #[(.bool h0.1.2.2.1),(.bool h0.1.2.2.2.1),(.bool h0.1.2.2.2.2.1),(sv h0.1.2.2.2.2.2.1),(vi h0.1.2.2.2.2.2.2.1),(vi h0.1.2.2.2.2.2.2.2.1),(vi h0.1.2.2.2.2.2.2.2.2.1),(sL hz h0.1.2.2.2.2.2.2.2.2.2.1 b0),(sL b1 h0.1.2.2.2.2.2.2.2.2.2.2.1 b2),(fV 153 #[]),(fV 154 #[]),(fV 190 #[(pt h3 0),(pt hf 0),(pt hg 0),(pt h4 0)]),(fV 191 #[(pt h3 0),(pt h4 0)]),(fV 190 #[(pt h5 0),(pt hh 0),(pt hm 0),(pt h6 0)]),(fV 191 #[(pt h5 0),(pt h6 0)]),(fV 190 #[(pt h7 0),(pt hn 0),(pt ho 0),(pt h8 0)]),(fV 191 #[(pt h7 0),(pt h8 0)]),(fV 159 #[]),(fV 160 #[]),(vi h0.1.2.2.2.2.2.2.2.2.2.2.2.1),(.bool h0.1.2.2.2.2.2.2.2.2.2.2.2.2.1)] 130),(sb ha #[(vi h0.1.2.1)] 3),(sb hc #[(vi h0.1.1)] 35),(sb hb #[(sv (([]:XL))),(vi 0),(vi 0),(vi 0),(sN Int),(sN Line)] 27)]:=js
    refine Ay<|Af ?_
    have jt:=dn.put (k:=0) rfl (.deferred none)
    have bx:HS w0 F0 (B4 dm ch (.deferred none)) F6 [bh,(sb hp #[(vi h0.1.2.2.2.2.2.2.2.2.2.2.2.2.2)] 3),(sb he #[(pt h9 0)] 128),(sb h9 #[(.bool h0.1.2.2.1),(.bool h0.1.2.2.2.1),(.bool h0.1.2.2.2.2.1),(sv h0.1.2.2.2.2.2.1),(vi h0.1.2.2.2.2.2.2.1),(vi h0.1.2.2.2.2.2.2.2.1),(vi h0.1.2.2.2.2.2.2.2.2.1),(sL hz h0.1.2.2.2.2.2.2.2.2.2.1 b0),(sL b1 h0.1.2.2.2.2.2.2.2.2.2.2.1 b2),(fV 153 #[]),(fV 154 #[]),(fV 190 #[(pt h3 0),(pt hf 0),(pt hg 0),(pt h4 0)]),(fV 191 #[(pt h3 0),(pt h4 0)]),(fV 190 #[(pt h5 0),(pt hh 0),(pt hm 0),(pt h6 0)]),(fV 191 #[(pt h5 0),(pt h6 0)]),(fV 190 #[(pt h7 0),(pt hn 0),(pt ho 0),(pt h8 0)]),(fV 191 #[(pt h7 0),(pt h8 0)]),(fV 159 #[]),(fV 160 #[]),(vi h0.1.2.2.2.2.2.2.2.2.2.2.2.1),(.bool h0.1.2.2.2.2.2.2.2.2.2.2.2.2.1)] 130),(sb ha #[(vi h0.1.2.1)] 3),(sb hc #[(vi h0.1.1)] 35),(sb hb #[(sv (([]:XL))),(vi 0),(vi 0),(vi 0),(sN Int),(sN Line)] 27)]:=jt.drop 0
    obtain rfl:=Aa jr
    exact .inr ⟨ch,rfl,dn.ownAt (k:=0) rfl,(.tuple #[(.agg #[(sv (([]:XL))),(vi 0),(vi 0),(vi 0),(sN Int),(sN Line)]),(vi h0.1.1),(vi h0.1.2.1)]),AR (l:=[.cell 4 27,.cell 5 35,.cell 6 3]) (by kernel_rfl) (vs:=[(.agg #[(sv (([]:XL))),(vi 0),(vi 0),(vi 0),(sN Int),(sN Line)]),(vi h0.1.1),(vi h0.1.2.1)]) ⟨hb,0,rfl,Am (t:=27) (g:=true) (s:=6) (by kernel_rfl) bx.at6 rfl (by decide),⟨hc,0,rfl,Am (t:=35) (g:=false) (s:=1) (by kernel_rfl) bx.at5 rfl (by decide),⟨ha,0,rfl,Am (t:=3) (g:=false) (s:=1) (by kernel_rfl) bx.at4 rfl (by decide),trivial⟩⟩⟩,(.tuple #[(.agg #[(sv (([]:XL))),(vi 0),(vi 0),(vi 0),(sN Int),(sN Line)]),(vi h0.1.1),(vi h0.1.2.1)]),F6,rfl,bx.clear,⟨none,0,none,0,rfl,Xu,(.inl rfl),Xu,(.inl rfl)⟩⟩
def Gb (N:Nat) (x0:(List Int)) (x1:(List Int)):Int->Option (BC Bool Int):=fun h0=>
 (bif (decide (h0 < (x0.length:Int))) then none else some (.done h0))
def HZ (N:Nat) (x0:(List Int)) (x1:(List Int)):Option Bool:=
 (bif ((x0.length:Int)!=(x1.length:Int)) then none else ((AU (Gb N x0 x1) N 0).bind fun o=>o.k (fun r=>some r) (fun h0=>some true)))
theorem Kq:Aj Tryz.prog 57:=fun _ _=>by kernel_rfl
theorem K8 (N:Nat) (w0:World) (F0:Mem) (hF:XN w0 F0) (x0:(List Int)) (h1:XM) (h2:Nat) (ht:LC x0.length h2) (hu:SlA AE F0 h1 x0) (x1:(List Int)) (h3:XM) (h4:Nat) (hv:LC x1.length h4) (hw:SlA AE F0 h3 x1) (r:Bool) (h:HZ N x0 x1=some r):
  Calls Tryz.prog 57 ([(sL h1 x0 h2),(sL h3 x1 h4)]:List Value).toArray w0 (AA w0 F0 fun F' v=>v=(.bool r)):=by
 have h7:=Xs hF
 refine Go 26 Tryz.func57<|Sq (Rg [0] ?_)
 refine Vs 1<|Nss<|Sq (Rg (rG 5) ?_)
 refine Vs 5<|Nt<|Cd h (fun h8 h9=>?_) (fun h8 ha=>?_)
 ·cases h9
 ·refine Sc ?_
  refine Ab<|Sq<|Sq (Rg [0] ?_)
  refine Vs 1<|Nt ?_
  obtain ⟨h5,hb,hc⟩:=bS ha
  refine Xx (fun f w=>∃ (h6:Int) (F2:Mem),h5=.done h6/\HS w0 F0 w F2 []/\Xq F0 F2/\FI f [] []) ?_ ?_
  ·refine Bk ?_
   refine Xp (by kernel_rfl) (fun m f w=>∃ (h0:Int) (F1:Mem),AU (Gb N x0 x1) m h0=some h5/\HS w0 F0 w F1 []/\Xq F0 F1/\FI f [] [(0,(sL h1 x0 h2)),(1,(sL h3 x1 h4)),(5,(vi h0))]) N ⟨0,F0,hb,h7,(Xr _),fI⟩ ?_
   rintro hx f hy ⟨h0,F1,he,hf,hg,⟨_,rfl⟩⟩
   obtain ⟨hz,b0,rfl,hh,hl⟩:=AV he
   refine Sq<|Sq (Rg (rG 4) ?_)
   refine Vs 4<|Nt<|Cd hh (fun hm hn=>?_) (fun hm ho=>?_)
   ·cases hn
   ·refine Ex ?_
    refine Au<|Au<|AB rfl ?_
    have hp:=AX ho hl
    exact .inl ⟨rfl,h0,F1,hp,hf,hg,fI⟩
  ·rintro f b1 ⟨h6,F2,rfl,hq,b2,⟨_,rfl⟩⟩
   have hr:=BX hc
   refine Ab<|Sq (Rg [0] ?_)
   refine Vs 1<|Nt<|Rt ?_
   obtain rfl:=Aa hr
   exact Re [(.bool true)] hq rfl
def Jg (N:Nat) (x0 x1:Log) (h4:Bool):Int->Option (BC Bool Int):=fun h2=>
 (bif (decide (h2 < (x0.Lines.length:Int))) then (((idx x0.Lines h2).bind fun h0=>((idx x1.Lines h2).bind fun h1=>some (!((h0.Num==h1.Num)&&((h0.Khz==h1.Khz)&&((h0.Mode==h1.Mode)&&((h0.Minute==h1.Minute)&&((h0.Call==h1.Call)&&(((h0.Sent.Report==h1.Sent.Report)&&((h0.Sent.Serial==h1.Sent.Serial)&&((h0.Sent.Zone==h1.Sent.Zone)&&true)))&&(((h0.Got.Report==h1.Got.Report)&&((h0.Got.Serial==h1.Got.Serial)&&((h0.Got.Zone==h1.Got.Zone)&&true)))&&true)))))))))).bind fun h3=>(bif h3 then none else some (.next (W64 (h2 + 1))))) else some (.done h2))
def MQ (N:Nat) (x0 x1:Log):Option Bool:=
 (bif (x0.Call !=x1.Call) then none else (bif (x0.Category !=x1.Category) then none else (bif (x0.Power !=x1.Power) then none else (bif (x0.Claimed !=x1.Claimed) then none else ((HZ N x0.Jumps x1.Jumps).bind fun h0=>(bif (!h0) then none else (bif ((x0.Lines.length:Int)!=(x1.Lines.length:Int)) then some false else ((AU (Jg N x0 x1 h0) N 0).bind fun o=>o.k (fun r=>some r) (fun h1=>some true)))))))))
theorem NO:Aj Tryz.prog 35:=fun _ _=>by kernel_rfl
theorem Ph (N:Nat) (w0:World) (F0:Mem) (hF:XN w0 F0) (x0:Log) (h2:XM) (h3:Nat) (hu:LC x0.Jumps.length h3) (hv:SlA AE F0 h2 x0.Jumps) (ha:XM) (hb:Nat) (ce:LC x0.Lines.length hb) (hw:SlA AD F0 ha x0.Lines) (x1:Log) (h4:XM) (h5:Nat) (hx:LC x1.Jumps.length h5) (hy:SlA AE F0 h4 x1.Jumps) (hc:XM) (he:Nat) (cf:LC x1.Lines.length he) (hz:SlA AD F0 hc x1.Lines) (r:Bool) (h:MQ N x0 x1=some r):
  Calls Tryz.prog 35 ([(.agg (AL x0 h2 h3 ha hb)),(.agg (AL x1 h4 h5 hc he))]:List Value).toArray w0 (AA w0 F0 fun F' v=>v=(.bool r)):=by
 have b0:=Xs hF
 refine Go 67 Tryz.func35<|Sq (Rg [0,1,2] ?_)
 refine Bx' 27 (AL x0 h2 h3 ha hb) b0 (fun hg cg b1=>?_)
 refine Bx' 27 (AL x1 h4 h5 hc he) b1 (fun hh b2 h0=>?_)
 refine Vs 1<|Nss<|Sq (Rg (rG 43) ?_)
 refine Vs 1<|Ld h0.at1<|Vs 1<|Ld h0.at0<|Vs 2<|Sp h (fun h6 b3=>?_) (fun h6 b4=>?_)
 ·cases b3
 ·refine Vgs h6 1 ?_
  refine Lg h6 h0.at1<|Vgs h6 1<|Lg h6 h0.at0<|Vgs h6 1<|Pk0 h6<|Vs 1<|Sp b4 (fun h7 b5=>?_) (fun h7 b6=>?_)
  ·cases b5
  ·refine Vgs h7 1 ?_
   refine Lg h7 h0.at1<|Vgs h7 1<|Lg h7 h0.at0<|Vgs h7 1<|Pk0 h7<|Vs 1<|Sp b6 (fun h8 b7=>?_) (fun h8 b8=>?_)
   ·cases b7
   ·refine Vgs h8 1 ?_
    refine Lg h8 h0.at1<|Vgs h8 1<|Lg h8 h0.at0<|Vgs h8 1<|Pk0 h8<|Vs 1<|Sp b8 (fun h1 b9=>?_) (fun h1 ba=>?_)
    ·cases b9
    ·refine Vgs h1 1 ?_
     refine Lg h1 h0.at1<|Vgs h1 1<|Lg h1 h0.at0 ?_
     obtain ⟨bb,bc,bd⟩:=bS ba
     refine Cg h1 Kq h0 (K8 N b2 F0 h0.pers x0.Jumps h2 h3 hu hv x1.Jumps h4 h5 hx hy _ bc) ?_
     rintro _ F1 ch hl ho rfl
     refine Vgs h1 1<|Pk0 h1<|Vs 1<|Sp bd (fun h9 be=>?_) (fun h9 bf=>?_)
     ·cases be
     ·refine Vgs h9 1 ?_
      refine Lg h9 hl.at1<|Vgs h9 2<|Lg h9 hl.at0<|Vgs h9 2<|Pk0 h9<|Nt<|Cd bf (fun bg bh=>?_) (fun bg bi=>?_)
      ·refine Sq (Rg [0] ?_)
       refine Vs 1<|Nt<|Rt<|Af ?_
       obtain rfl:=Aa bh
       exact Re [(.bool false)] hl rfl
      ·refine Sc ?_
       refine Ab<|Sq<|Sq (Rg [0] ?_)
       refine Vs 1<|Nt ?_
       obtain ⟨hp,bj,bk⟩:=bS bi
       refine Xx (fun f w=>∃ (hr:Int) (F3:Mem),hp=.done hr/\HS w0 F0 w F3 []/\Xq F1 F3/\FI f [] []) ?_ ?_
       ·refine Bk ?_
        refine Xp (by kernel_rfl) (fun m f w=>∃ (hf:Int) (F2:Mem),AU (Jg N x0 x1 bb) m hf=some hp/\HS w0 F0 w F2 [(sb hh (AL x1 h4 h5 hc he) 27),(sb hg (AL x0 h2 h3 ha hb) 27)]/\Xq F1 F2/\FI f [] [(2,(pt hg 0)),(3,(pt hh 0)),(5,(vi hf))]) N ⟨0,F1,bj,hl,(Xr _),fI⟩ ?_
        rintro ci f cj ⟨hf,F2,bl,hn,hm,⟨_,rfl⟩⟩
        obtain ⟨bm,cl,rfl,bn,ht⟩:=AV bl
        refine Sq<|Sq (Rg (rG 5) ?_)
        refine Vs 2<|Ld hn.at1<|Vs 2<|Nt<|Cd bn (fun bo bp=>?_) (fun bo bq=>?_)
        ·refine Sc ?_
         refine Ab<|Sq<|Bk<|Sq ?_
         obtain ⟨br,bs,bt⟩:=bS bp
         refine RD 11 11 [(sb hh (AL x1 h4 h5 hc he) 27),(sb hg (AL x0 h2 h3 ha hb) 27)] [] hn (fun f w=>∃ (F4:Mem),HS w0 F0 w F4 [(sb hh (AL x1 h4 h5 hc he) 27),(sb hg (AL x0 h2 h3 ha hb) 27)]/\Xq F2 F4/\FI f [] [(2,(pt hg 0)),(3,(pt hh 0)),(5,(vi hf)),(66,(.bool br))]) (fun cm bu=>?_) ?_
         ·refine Dv [0] ?_
          refine Dl 1 (fun _ hq=>(hq.1.2 1 _ _ rfl))<|Dv [2] ?_
          obtain ⟨cn,bv,bw⟩:=bS bs
          obtain ⟨bx,hx92'⟩:=Ap bv
          obtain ⟨co,cp,cq,cr,ct,rfl,hF101,hE102⟩:=Xy (Xt hw (ho.t hm)) hx92'
          have bz:=hE102 _ _ hx92'
          refine Di 3 bx<|Dx 4 0 (fun _ hq=>hq.1.1 _ _ hF101) bz<|Dv [5]<|Dl 6 (fun _ hq=>(hq.1.2 0 _ _ rfl))<|Dv [7] ?_
          obtain ⟨cu,c0,c1⟩:=bS bw
          obtain ⟨c3,hx106'⟩:=Ap c0
          obtain ⟨cv,cw,cx,cy,cz,rfl,hF115,hE116⟩:=Xy (Xt hz (ho.t hm)) hx106'
          have c4:=hE116 _ _ hx106'
          refine Di 8 c3<|Dx 9 0 (fun _ hq=>hq.1.1 _ _ hF115) c4<|Dv [10] ?_
          obtain rfl:=Aa c1
          exact XD (by kernel_rfl) ⟨F2,bu,(Xr _),fI⟩
         ·rintro f d0 ⟨F4,c5,c6,⟨_,rfl⟩⟩
          refine Ab<|Cd bt (fun c7 c8=>?_) (fun c7 c9=>?_)
          ·cases c8
          ·refine Sc ?_
           refine Av<|Ab<|Rg [0,1,2]<|Vs 3<|Xm ?_
           have ca:=AW c9 ht
           exact ⟨bm,Nat.lt_succ_self _,(W64 (hf + 1)),F4,ca,c5,(hm.t c6),fI⟩
        ·refine Ex ?_
         refine Au<|Au<|AB rfl ?_
         have cb:=AX bq ht
         exact .inl ⟨rfl,hf,F2,cb,hn.dr0.dr0,hm,fI⟩
       ·rintro f d1 ⟨hr,F3,rfl,cc,d2,⟨_,rfl⟩⟩
        have cd:=BX bk
        refine Ab<|Sq (Rg [0] ?_)
        refine Vs 1<|Nt<|Rt ?_
        obtain rfl:=Aa cd
        exact Re [(.bool true)] cc rfl
def CL (F:Mem) (v:Value) (L:Own):Option Ah->Prop
 | none=>v=.tuple #[.pointer none,.int .i64 2]/\L=[]
 | some m=>∃ (b:Nat) (am_3:XM) (nm_3:Nat) (mbm_4:Nat) (em_4:Option Nat×Obj) (mbm_5:Nat) (em_5:Option Nat×Obj),v=.tuple #[.pointer (some ⟨b,0,none⟩),.int .i64 0]/\L=[(sb b #[(.bool m.o_.Report),(.bool m.o_.Serial),(.bool m.o_.Zone),(sL am_3 m.lines_ nm_3),(.map (some mbm_4)),(.map (some mbm_5))] 148),em_4,em_5]/\LC m.lines_.length nm_3/\SlA AN F am_3 m.lines_/\Bd Ax AE F mbm_4 m.known_ em_4/\Bd AN Ar F mbm_5 m.read_ em_5
theorem FV {F:Mem} {v:Value} {L:Own} (h:CL F v L none):v=.tuple #[.pointer none,.int .i64 2]/\L=[]:=h
theorem FU {F:Mem} {v:Value} {L:Own} {m:Ah} (h:CL F v L (some m)):∃ (b:Nat) (am_3:XM) (nm_3:Nat) (mbm_4:Nat) (em_4:Option Nat×Obj) (mbm_5:Nat) (em_5:Option Nat×Obj),v=.tuple #[.pointer (some ⟨b,0,none⟩),.int .i64 0]/\L=[(sb b #[(.bool m.o_.Report),(.bool m.o_.Serial),(.bool m.o_.Zone),(sL am_3 m.lines_ nm_3),(.map (some mbm_4)),(.map (some mbm_5))] 148),em_4,em_5]/\LC m.lines_.length nm_3/\SlA AN F am_3 m.lines_/\Bd Ax AE F mbm_4 m.known_ em_4/\Bd AN Ar F mbm_5 m.read_ em_5:=h
theorem IG {F:Mem} {v:Value} {L:Own} (h:v=.tuple #[.pointer none,.int .i64 2]/\L=[]):CL F v L none:=h
theorem IF {F:Mem} {v:Value} {L:Own} {m:Ah} (h:∃ (b:Nat) (am_3:XM) (nm_3 mbm_4:Nat) (em_4:Option Nat×Obj) (mbm_5:Nat) (em_5:Option Nat×Obj),v=.tuple #[.pointer (some ⟨b,0,none⟩),.int .i64 0]/\L=[(sb b #[(.bool m.o_.Report),(.bool m.o_.Serial),(.bool m.o_.Zone),(sL am_3 m.lines_ nm_3),(.map (some mbm_4)),(.map (some mbm_5))] 148),em_4,em_5]/\LC m.lines_.length nm_3/\SlA AN F am_3 m.lines_/\Bd Ax AE F mbm_4 m.known_ em_4/\Bd AN Ar F mbm_5 m.read_ em_5):CL F v L (some m):=h
def Cb (N:Nat) (x0:Ac) (x1:XL):(List XL)->(XL×Bool)->Option (List XL):=fun h0 h1=>
 (((DM h0 [h1.1]).bind fun h2=>some h2).bind fun h3=>some h3)
def Eo (N:Nat) (x0:Ac) (x1:XL):Option (Option Ah):=
 ((Dy N (fun st x=>((Cb N x0 x1) st x).map fun t=>(true,t)) x1 ([]:List XL)).bind fun h0=>(bif ((decide ((x1.length:Int) > 65536))||(decide ((h0.length:Int) > 400))) then some none else some (some ({o_:=({Report:=x0.Report,Serial:=x0.Serial,Zone:=x0.Zone}:Ac),lines_:=h0,known_:=([]:List (Ad×Int)),read_:=([]:List (XL×An))}:Ah))))
theorem HF:Aj Tryz.prog 108:=fun _ _=>by kernel_rfl
theorem IA (N:Nat) (w0:World) (F0:Mem) (hF:XN w0 F0) (hG:BB F0) (x0:Ac) (x1:XL) (r:(Option Ah)) (h:Eo N x0 x1=some r):
  Calls Tryz.prog 108 ([(.agg (Al x0)),(sv x1)]:List Value).toArray w0 (NI w0 F0 fun F' v L'=>CL F' v L' r):=by
 have bc:=Xs hF
 refine Oo (n:=39) (c:=ND Tryz.f108) Tryz.func108 (by kernel_rfl) (by kernel_rfl) (by kernel_rfl)<|Sq (Rg [0,1,2] ?_)
 refine Bx' 23 (Al x0) bc (fun hh cu hy=>?_)
 refine Vs 2<|Nss (Rg (rG 7) ?_)
 refine Ld hy.at0<|RWP.makeMap (t:=145) (K:=Ax) (T:=AE) (dst:=(some 9)) (ty:=145) (g:=none) (by kernel_rfl) rfl hy (fun h1 h3 bd (be:HS w0 F0 bd F0 [h3,(sb hh (Al x0) 23)]) bf=>?_)
 refine RWP.makeMap (t:=146) (K:=AN) (T:=Ar) (dst:=(some 10)) (ty:=146) (g:=none) (by kernel_rfl) rfl be (fun h2 h4 bg (bh:HS w0 F0 bg F0 [h4,h3,(sb hh (Al x0) 23)]) bi=>?_)
 refine Vs 1<|Bx' 148 #[(.bool x0.Report),(.bool x0.Serial),(.bool x0.Zone),(sN XL),(.map (some h1)),(.map (some h2))] bh (fun h0 cv bj=>?_)
 refine Al' 138 #[(.pointer none)] bj (fun h5 cw bk=>?_)
 refine St0 #[(pt h0 0)] bk (fun bl hz=>?_)
 refine Nss<|Sq (Rg [0,1] ?_)
 refine Vs 1<|RWP.callO (dst:=(some 14)) (ty:=132) (g:=none) (by kernel_rfl) rfl (f0:=(.func 105)) (aos:=#[(.tmp 13)]) (ats:=#[9]) (fid:=105) (first:=#[]) (cap:=#[]) (args:=[(sv x1)]) rfl Jn rfl hz (KD bl F0 hz.pers x1) ?_
 rintro _ F1 bm _ bn ht ⟨hm,rfl,rfl⟩
 have bo:HS w0 F0 bm F1 [(sb hm #[(sv x1)] 9),(sb h5 #[(pt h0 0)] 138),(sb h0 #[(.bool x0.Report),(.bool x0.Serial),(.bool x0.Zone),(sN XL),(.map (some h1)),(.map (some h2))] 148),h4,h3,(sb hh (Al x0) 23)]:=bn
 refine Nt<|Bk ?_
 have bp:=bo.dr5.dummy (oc #[] 0)
 have bq:=bp.pk5.pk5.pk5.pk5.pk4.pk5
 obtain ⟨hc,br,bs⟩:=bS h
 refine CWP.rangeFunc (enc:=Q5) (ok:=Tq) (px:=Tf) (m:=fun {_} y s=>Dy N y x1 s) (L:=[(none,.cells #[] 0 (0,0)),(sb h5 #[(pt h0 0)] 138),(sb h0 #[(.bool x0.Report),(.bool x0.Serial),(.bool x0.Zone),(sN XL),(.map (some h1)),(.map (some h2))] 148),h4,h3]) (B:=[(sb hm #[(sv x1)] 9)]) (ps:=[15,16]) (by kernel_rfl) (gf:=169) (cap:=[(pt hm 0)]) rfl HG rfl (by kernel_rfl) (by kernel_rfl) (fun _=>rfl) bq (IB N F1 (hG.mono ht) x1 hm) (fun st x=>((Cb N x0 x1) st x).map fun t=>(true,t)) (fun (ha:(List XL)) (F2:Mem) (Lq:Own)=>∃ (h7:XM) (h8:Nat) (h9:Option Nat×Obj),Lq=[h9,(sb h5 #[(pt h0 0)] 138),(sb h0 #[(.bool x0.Report),(.bool x0.Serial),(.bool x0.Zone),(sL h7 ha h8),(.map (some h1)),(.map (some h2))] 148),h4,h3]/\As AN 9 F2 h7 h8 ha h9) ?_ (s:=([]:List XL)) (r:=hc) ?_ br (fun _ _ _ h=>(PM h).1) ?_ ?_
 ·rintro s F F' L ⟨h7,h8,h9,rfl,hu⟩ hl
  exact ⟨h7,h8,h9,rfl,(hu.mono hl)⟩
 ·exact ⟨none,0,(none,.cells #[] 0 (0,0)),rfl,(XF AN 9 F1 _)⟩
 ·rintro cx ha hv bt F2 _ Rf68 ⟨_,cy⟩ cz d0 ⟨h7,h8,h9,rfl,hu⟩ bu bv
  have bw:=(PM bv).2
  have bx:HS w0 F0 bt F2 (h9::(sb h5 #[(pt h0 0)] 138)::(sb h0 #[(.bool x0.Report),(.bool x0.Serial),(.bool x0.Zone),(sL h7 ha h8),(.map (some h1)),(.map (some h2))] 148)::h4::h3::Rf68):=bu
  refine Rg [0]<|Vs 1<|Xm<|⟨rfl,F2,[h9,(sb h5 #[(pt h0 0)] 138),(sb h0 #[(.bool x0.Report),(.bool x0.Serial),(.bool x0.Zone),(sL h7 ha h8),(.map (some h1)),(.map (some h2))] 148),h4,h3],bx,fun bz Rf77 c0=>?_⟩
  have c1:HS w0 F0 bz F2 (h9::(sb h5 #[(pt h0 0)] 138)::(sb h0 #[(.bool x0.Report),(.bool x0.Serial),(.bool x0.Zone),(sL h7 ha h8),(.map (some h1)),(.map (some h2))] 148)::h4::h3::Rf77):=c0
  refine Bk ?_
  obtain ⟨hw,c3,c4⟩:=bS bw
  refine RD 10 11 [(sb h5 #[(pt h0 0)] 138),h4,h3] [(sb h0 #[(.bool x0.Report),(.bool x0.Serial),(.bool x0.Zone),(sL h7 ha h8),(.map (some h1)),(.map (some h2))] 148)] c1 (fun f w=>∃ (F4:Mem) (he:XM) (hf:Nat) (hg:Option Nat×Obj),HS w0 F0 w F4 (hg::(sb h5 #[(pt h0 0)] 138)::(sb h0 #[(.bool x0.Report),(.bool x0.Serial),(.bool x0.Zone),(sL he hw hf),(.map (some h1)),(.map (some h2))] 148)::h4::h3::Rf77)/\Xq F2 F4/\FI f [] [(2,(pt hh 0)),(6,(pt h5 0)),(9,(.map (some h1))),(10,(.map (some h2))),(11,(.agg #[(.bool x0.Report),(.bool x0.Serial),(.bool x0.Zone),(sN XL),(.map (some h1)),(.map (some h2))])),(12,(pt h0 0))]/\As AN 9 F4 he hf hw hg) (fun d1 c5=>?_) ?_
  ·refine Dl 0 (fun _ hq=>(hq.1.2 0 _ _ rfl)) ?_
   refine Dl 1 (fun _ hq=>(hq.1.2 0 _ _ rfl))<|Dv [2,3]<|Dl 4 (fun _ hq=>((hq.2 rfl).2 0 _ _ rfl))<|Dv [5]<|D1 6<|DBs 9 [(sv hv.1)] c5 (Xr _) (fun b0 d2 b1=>?_)
   have c6:As AN 9 F2 (some ⟨b0,0,none⟩) 1 [hv.1] (some b0,.cells ([(sv hv.1)]:List Value).toArray 9 (0,0)):=XG ⟨rfl,rfl⟩ (by simp)
   refine D1 7 ?_
   obtain ⟨c7,c8,c9⟩:=bS c3
   refine Xl WK b1 hu (b1.rd0 c6) c8 (Xr _) (fun b2 b3 ca d3 b4 cb=>?_)
   refine D1 8<|XA (l':=[true,true,true,true,true,true,true,true,true,false,false]) (zd:=false) (by kernel_rfl) (by kernel_rfl) (dst:=(some 25)) (ty:=0) (g:=none) (by kernel_rfl) rfl (Ek (x:=(.tmp 17)) (a:=⟨h0,0,none⟩) rfl) (Be b4 (Xr _) (by simp) (fun _=>by simp))<|Dv [9]<|D1 10<|Vy #[(.bool x0.Report),(.bool x0.Serial),(.bool x0.Zone),(sL b2 c7 b3),(.map (some h1)),(.map (some h2))] b4 (Xr _) (fun d4 cc=>?_)
   obtain rfl:=Aa c9
   exact XD (by kernel_rfl) ⟨F2,b2,b3,ca,cc.dr0,(Xr _),fI,cb⟩
  ·rintro f d6 ⟨F4,he,hf,hg,cd,ce,⟨_,rfl⟩,cf⟩
   refine Av ?_
   obtain rfl:=Aa c4
   exact ⟨rfl,F4,[hg,(sb h5 #[(pt h0 0)] 138),(sb h0 #[(.bool x0.Report),(.bool x0.Serial),(.bool x0.Zone),(sL he hw hf),(.map (some h1)),(.map (some h2))] 148),h4,h3],cd,ce,⟨he,hf,hg,rfl,cf⟩⟩
 ·rintro hb cg F3 _ ch b5 ⟨hn,ho,b6,rfl,b7⟩
  have hp:HS w0 F0 cg F3 [(some hb,(.deferred (some []))),b6,(sb h5 #[(pt h0 0)] 138),(sb h0 #[(.bool x0.Report),(.bool x0.Serial),(.bool x0.Zone),(sL hn hc ho),(.map (some h1)),(.map (some h2))] 148),h4,h3]:=ch
  refine Av<|Ab<|Sq<|Sq (Rg (rG 11) ?_)
  refine Xw (fun f w=>∃ (F5:Mem),HS w0 F0 w F5 [(some hb,(.deferred (some []))),b6,(sb h5 #[(pt h0 0)] 138),(sb h0 #[(.bool x0.Report),(.bool x0.Serial),(.bool x0.Zone),(sL hn hc ho),(.map (some h1)),(.map (some h2))] 148),h4,h3]/\Xq F3 F5/\FI f [{target:=.collected hb,args:=#[]}] [(6,(pt h5 0)),(37,(.bool ((decide ((x1.length:Int) > 65536))||(decide ((hc.length:Int) > 400)))))]) ?_ ?_
  ·refine Vs 4 ?_
   refine Xv (decide ((x1.length:Int) > 65536)) (fun h6=>?_) (fun h6=>?_)
   ·refine Ss h6 6 ?_
    refine Pk1 h6 ?_
    exact Xm ⟨rfl,F3,hp,(Xr _),(fJ ⟨rfl,(congrArg Value.bool (G9 h6 rfl)),trivial⟩)⟩
   ·refine Lg h6 hp.at2 ?_
    refine Vgs h6 2<|Lg h6 hp.at3<|Vgs h6 2<|Pk0 h6 ?_
    exact Xm ⟨rfl,F3,hp,(Xr _),(fJ ⟨rfl,(congrArg Value.bool (C9 h6 rfl)),trivial⟩)⟩
  ·rintro f b8 ⟨F5,hx,hr,⟨_,rfl⟩⟩
   refine Ab<|Cd bs (fun ci cj=>?_) (fun ci cl=>?_)
   ·refine Sq (Rg [0,1] ?_)
    refine Vs 2<|Nt<|Rt<|Af ?_
    have b9:=hx.dr1.dr1.dr1.dr1.dr1
    have cm:=b9.put (k:=0) rfl (.deferred none)
    have cn:HS w0 F0 (B4 b8 hb (.deferred none)) F5 []:=cm.drop 0
    obtain rfl:=Aa cj
    exact .inr ⟨hb,rfl,b9.ownAt (k:=0) rfl,(.tuple #[(.pointer none),(vi 2)]),AR (l:=[.tmp 4,.tmp 5]) (by kernel_rfl) (vs:=[(.pointer none),(vi 2)]) ⟨rfl,⟨rfl,trivial⟩⟩,(.tuple #[(.pointer none),(vi 2)]),F5,_,rfl,cn,(IG ⟨rfl,rfl⟩)⟩
   ·refine Sc ?_
    refine Ab<|Sq (Rg [0,1,2] ?_)
    refine Ld hx.at2<|Vs 2<|Nt<|Rt ?_
    have co:=XE (b7.mono hr)
    obtain ⟨F6,cp,ba,cq⟩:=hx.fr1 (b7.mono hr)
    have bb:=cp.dr1.pk2.pk3.pk3.pk3
    have cr:=bb.put (k:=0) rfl (.deferred none)
    have ct:HS w0 F0 (B4 b8 hb (.deferred none)) F6 [(sb h0 #[(.bool x0.Report),(.bool x0.Serial),(.bool x0.Zone),(sL hn hc ho),(.map (some h1)),(.map (some h2))] 148),h3,h4]:=cr.drop 0
    obtain rfl:=Aa cl
    exact .inr ⟨hb,rfl,bb.ownAt (k:=0) rfl,(.tuple #[(pt h0 0),(vi 0)]),AR (l:=[.tmp 4,.tmp 5]) (by kernel_rfl) (vs:=[(pt h0 0),(vi 0)]) ⟨rfl,⟨rfl,trivial⟩⟩,(.tuple #[(pt h0 0),(vi 0)]),F6,_,rfl,ct,(IF ⟨h0,hn,ho,h1,h3,h2,h4,rfl,rfl,co,cq,(bf.mono (((ht.t b5).trans hr).trans ba)),(bi.mono (((ht.t b5).trans hr).trans ba))⟩)⟩
def Hd (N:Nat):Option Ad:=
 some ({at_:=0,stage_:=0,num_:=0,minute_:=(-1)}:Ad)
theorem Jm:Aj Tryz.prog 110:=fun _ _=>by kernel_rfl
theorem KB (N:Nat) (w0:World) (F0:Mem) (hF:XN w0 F0) (r:Ad) (h:Hd N=some r):
  Calls Tryz.prog 110 ([]:List Value).toArray w0 (AA w0 F0 fun F' v=>v=(.agg (Ai r))):=by
 have h1:=Xs hF
 refine Go 2 Tryz.func110<|Sq (Rg [0] ?_)
 refine Al' 143 #[(vi 0),(vi 0),(vi 0),(vi 0)] h1 (fun h2 h4 h3=>?_)
 refine Nss (Rg [0,1] ?_)
 refine Vs 1<|St0 #[(vi 0),(vi 0),(vi 0),(vi (-1))] h3 (fun h5 h0=>?_)
 refine Nt<|Rt ?_
 obtain rfl:=Aa h
 exact ⟨rfl,(.agg #[(vi 0),(vi 0),(vi 0),(vi (-1))]),AR (l:=[.cell 0 143]) (by kernel_rfl) (vs:=[(.agg #[(vi 0),(vi 0),(vi 0),(vi (-1))])]) ⟨h2,0,rfl,Am (t:=143) (g:=true) (s:=4) (by kernel_rfl) h0.at0 rfl (by decide),trivial⟩,(.agg #[(vi 0),(vi 0),(vi 0),(vi (-1))]),F0,rfl,h0.clear,rfl⟩
def A9 (N:Nat) (x0:Int):Option XL:=
 ((idx ([([]:XL),([67,65,84,69,71,79,82,89,32,49]:XL),([80,79,87,69,82,32,49]:XL),([67,76,65,73,77,69,68,32,48]:XL),([74,85,77,80,83]:XL),([69,78,68]:XL)]:List XL) x0).bind fun h0=>some h0)
theorem B3:Aj Tryz.prog 121:=fun _ _=>by kernel_rfl
theorem Ci (N:Nat) (w0:World) (F0:Mem) (hF:XN w0 F0) (x0:Int) (r:XL) (h:A9 N x0=some r):
  Calls Tryz.prog 121 ([(vi x0)]:List Value).toArray w0 (AA w0 F0 fun F' v=>v=(sv r)):=by
 have h1:=Xs hF
 refine Go 6 Tryz.func121<|Sq (Rg [0] ?_)
 refine Vs 1<|Nss (Rg (rG 4) ?_)
 refine V 3 219 (Jw (t:=219) (parts:=#[(1,(.const (sv ([67,65,84,69,71,79,82,89,32,49]:XL)))),(2,(.const (sv ([80,79,87,69,82,32,49]:XL)))),(3,(.const (sv ([67,76,65,73,77,69,68,32,48]:XL)))),(4,(.const (sv ([74,85,77,80,83]:XL)))),(5,(.const (sv ([69,78,68]:XL))))]) (vs:=[(1,(sv (([67,65,84,69,71,79,82,89,32,49]:XL)))),(2,(sv (([80,79,87,69,82,32,49]:XL)))),(3,(sv (([67,76,65,73,77,69,68,32,48]:XL)))),(4,(sv (([74,85,77,80,83]:XL)))),(5,(sv (([69,78,68]:XL))))]) rfl (cs:=[(sv (([]:XL))),(sv (([67,65,84,69,71,79,82,89,32,49]:XL))),(sv (([80,79,87,69,82,32,49]:XL))),(sv (([67,76,65,73,77,69,68,32,48]:XL))),(sv (([74,85,77,80,83]:XL))),(sv (([69,78,68]:XL)))]) (by kernel_rfl))<|Vs 1 ?_
 obtain ⟨h0,h2,h3⟩:=bS h
 refine V 5 9 (Rr (t:=219) (E:=9) (len:=6) (x:=(.tmp 3)) (y:=(.tmp 4)) (k:=.i64) (i:=x0) (cs:=(([([]:XL),([67,65,84,69,71,79,82,89,32,49]:XL),([80,79,87,69,82,32,49]:XL),([67,76,65,73,77,69,68,32,48]:XL),([74,85,77,80,83]:XL),([69,78,68]:XL)]:List XL)).map (fun x:XL=>Value.string ⟨x.toArray⟩)) (v:=(sv h0)) rfl rfl (by kernel_rfl) (by kernel_rfl) rfl (PY (f:=(fun x:XL=>Value.string ⟨x.toArray⟩)) h2))<|Vs 1<|Nt<|Rt ?_
 obtain rfl:=Aa h3
 exact Re [(sv h0)] h1 rfl
def EO (N:Nat) (x0:Log) (x1:XL):Option (Log×Bool):=
 ((strings_CutPrefix N x1 ([67,65,76,76,32]:XL)).bind fun h0=>((bif h0.2 then ((DW N h0.1).bind fun h1=>some h1) else some false).bind fun h2=>some (({Call:=h0.1,Category:=x0.Category,Power:=x0.Power,Claimed:=x0.Claimed,Jumps:=x0.Jumps,Lines:=x0.Lines}:Log),h2)))
theorem K3:Aj Tryz.prog 153:=fun _ _=>by kernel_rfl
theorem Md (N:Nat) {wb w0:World} {Fb F0:Mem} {Lf:Own} (hG:BB F0) (h5:Nat) (x0:Log) (h1:XM) (h2:Nat) (h3:XM) (h4:Nat) (hh:LC x0.Jumps.length h2) (hl:SlA AE F0 h1 x0.Jumps) (hm:LC x0.Lines.length h4) (hn:SlA AD F0 h3 x0.Lines) (x1:XL) (ha:HS wb Fb w0 F0 ((sb h5 (AL x0 h1 h2 h3 h4) 27)::Lf)) (r:(Log×Bool)) (h:EO N x0 x1=some r):
  Calls Tryz.prog 153 ([(pt h5 0),(sv x1)]:List Value).toArray w0 (EM wb Fb F0 fun F' v L'=>∃ (hb:XM) (hc:Nat) (he:XM) (hf:Nat),v=(.bool r.2)/\L'=(sb h5 (AL r.1 hb hc he hf) 27)::Lf/\LC r.1.Jumps.length hc/\SlA AE F' hb r.1.Jumps/\LC r.1.Lines.length hf/\SlA AD F' he r.1.Lines):=by
 refine Go 21 Tryz.func153<|Sq (Rg [0] ?_)
 refine Vs 1<|Nss (Rg (rG 7) ?_)
 refine Vs 1 ?_
 obtain ⟨h7,ho,hp⟩:=bS h
 refine Cl' A4 ha (Ba N w0 F0 ha.pers x1 (([67,65,76,76,32]:XL)) _ ho) ?_
 rintro _ F1 b2 hq h6 rfl
 refine Vs 5<|Nss (Rg (rG 5) ?_)
 refine Vs 4<|St0 #[(sv h7.1),(vi x0.Category),(vi x0.Power),(vi x0.Claimed),(sL h1 x0.Jumps h2),(sL h3 x0.Lines h4)] hq (fun hr h8=>?_)
 refine Nss (Rg (rG 6) ?_)
 obtain ⟨hg,ht,hu⟩:=bS hp
 refine Xw (fun f w=>∃ (F2:Mem),HS wb Fb w F2 ((sb h5 #[(sv h7.1),(vi x0.Category),(vi x0.Power),(vi x0.Claimed),(sL h1 x0.Jumps h2),(sL h3 x0.Lines h4)] 27)::Lf)/\Xq F1 F2/\FI f [] [(4,(.bool hg))]) ?_ ?_
 ·refine Vs 2 ?_
  refine Sp ht (fun h0 hv=>?_) (fun h0 hw=>?_)
  ·refine Vgs h0 1 ?_
   obtain ⟨b3,hx,hy⟩:=bS hv
   refine Cg h0 EK h8 (Fh N hr F1 h8.pers (hG.mono h6) h7.1 _ hx) ?_
   rintro _ F3 b4 hz b0 rfl
   refine Pk1 h0<|Vs 1 ?_
   obtain rfl:=Aa hy
   exact Xm ⟨rfl,F3,hz,b0,fI⟩
  ·refine Ss h0 2 ?_
   refine Pk0 h0<|Vs 1 ?_
   obtain rfl:=Aa hw
   exact Xm ⟨rfl,F1,h8,(Xr _),fI⟩
 ·rintro f b5 ⟨F2,b1,h9,⟨_,rfl⟩⟩
  refine Ab<|Rt ?_
  obtain rfl:=Aa hu
  exact ReB [(.bool hg)] b1 (h6.t h9) ⟨h1,h2,h3,h4,rfl,rfl,hh,(Xt hl (h6.t h9)),hm,(Xt hn (h6.t h9))⟩
def Bo (N:Nat) (x0:Log) (x1:XL) (h5:(List XL)) (h1:List XL):(List Int×Int)->Option (BC (Log×Bool) (List Int×Int)):=fun h0=>
 (bif (decide (h0.2 < (h1.length:Int))) then ((idx h1 h0.2).bind fun h3=>((AF N h3).bind fun h2=>(bif (!h2.2) then some (.ret (x0,false)) else ((DM h0.1 [h2.1]).bind fun h4=>some (.next (h4,(W64 (h0.2 + 1)))))))) else some (.done (h0.1,h0.2)))
def En (N:Nat) (x0:Log) (x1:XL):Option (Log×Bool):=
 ((strings_Split N x1 ([32]:XL)).bind fun h0=>((sub h0 1 (h0.length:Int)).bind fun h2=>((AU (Bo N x0 x1 h0 h2) N (([]:List Int),0)).bind fun o=>o.k (fun r=>some r) (fun h1=>(((idx h0 0).bind fun h3=>(bif (h3==([74,85,77,80,83]:XL)) then ((De N h1.1).bind fun h4=>some h4) else some false)).bind fun h5=>some (({Call:=x0.Call,Category:=x0.Category,Power:=x0.Power,Claimed:=x0.Claimed,Jumps:=h1.1,Lines:=x0.Lines}:Log),h5))))))
theorem Kr:Aj Tryz.prog 159:=fun _ _=>by kernel_rfl
theorem K9 (N:Nat) {wb w0:World} {Fb F0:Mem} {Lf:Own} (hG:BB F0) (h0:Nat) (x0:Log) (ha:XM) (hb:Nat) (h1:XM) (h2:Nat) (bf:LC x0.Jumps.length hb) (bg:SlA AE F0 ha x0.Jumps) (hx:LC x0.Lines.length h2) (hy:SlA AD F0 h1 x0.Lines) (x1:XL) (hz:HS wb Fb w0 F0 ((sb h0 (AL x0 ha hb h1 h2) 27)::Lf)) (r:(Log×Bool)) (h:En N x0 x1=some r):
  Calls Tryz.prog 159 ([(pt h0 0),(sv x1)]:List Value).toArray w0 (EM wb Fb F0 fun F' v L'=>∃ (b0:XM) (b1:Nat) (b2:XM) (b3:Nat),v=(.bool r.2)/\L'=(sb h0 (AL r.1 b0 b1 b2 b3) 27)::Lf/\LC r.1.Jumps.length b1/\SlA AE F' b0 r.1.Jumps/\LC r.1.Lines.length b3/\SlA AD F' b2 r.1.Lines):=by
 refine Go 44 Tryz.func159<|Sq (Rg [0] ?_)
 refine Vs 1<|Nss (Rg [0,1,2] ?_)
 refine Vs 1 ?_
 obtain ⟨hc,bh,bi⟩:=bS h
 refine Cl' CF hz (CX N w0 F0 hz.pers hG x1 (([32]:XL)) _ bh) ?_
 rintro _ F1 d7 bj h8 ⟨ho,hp,rfl,bk,b4⟩
 refine Vs 1<|Nss (Rg [0] ?_)
 refine Vs 1<|Nss<|Sq (Rg (rG 4) ?_)
 refine Vs 1 ?_
 obtain ⟨hf,bl,bm⟩:=bS bi
 obtain ⟨bn,bo,d8,bp,bq⟩:=FE (P:=Tryz.prog) (T:=AN) (lo:=(some (.const (vi 1)))) (hi:=none) (mx:=none) (t:=55) (E:=9) (by_:=16) (c:=hp) (a:=ho) (l:=hc) (r:=hf) (il:=1) (ih:=(hc.length:Int)) (im:=0) (by kernel_rfl) (by kernel_rfl) bk b4 (fun h=>by first | rfl | cases h) bl
 refine V 14 55 (bq (x:=(.tmp 13)) rfl rfl rfl trivial)<|Vs 2<|Nt ?_
 have br:=bj.dummy (oc #[] 0)
 obtain ⟨b5,bs,b6⟩:=bS bm
 refine Xx (fun f w=>∃ (h4:(List Int×Int)) (F3:Mem) (h5:XM) (h6:Nat) (hq:Option Nat×Obj),b5=.done h4/\HS wb Fb w F3 (hq::(sb h0 (AL x0 ha hb h1 h2) 27)::Lf)/\Xq F1 F3/\FI f [] [(0,(pt h0 0)),(5,(sL ho hc hp)),(6,(sL h5 h4.1 h6))]/\As AE 3 F3 h5 h6 h4.1 hq) ?_ ?_
 ·refine Bk ?_
  refine Xp (by kernel_rfl) (fun m f w=>∃ (h3:(List Int×Int)) (F2:Mem) (hg:XM) (hh:Nat) (hl:Option Nat×Obj),AU (Bo N x0 x1 hc hf) m h3=some b5/\HS wb Fb w F2 (hl::(sb h0 (AL x0 ha hb h1 h2) 27)::Lf)/\Xq F1 F2/\FI f [] [(0,(pt h0 0)),(5,(sL ho hc hp)),(6,(sL hg h3.1 hh)),(14,(sL bn hf bo)),(15,(vi (hf.length:Int))),(16,(vi h3.2))]/\As AE 3 F2 hg hh h3.1 hl) N ⟨(([]:List Int),0),F1,none,0,(none,.cells #[] 0 (0,0)),bs,br,(Xr _),fI,(XF AE 3 F1 _)⟩ ?_
  rintro d9 f bt ⟨h3,F2,hg,hh,hl,bu,hm,h7,⟨_,rfl⟩,b7⟩
  obtain ⟨bv,da,rfl,bw,hr⟩:=AV bu
  refine Sq (Rg [0] ?_)
  refine Vs 1<|Nss<|Cd bw (fun bx bz=>?_) (fun bx c0=>?_)
  ·refine Sc ?_
   refine Ab<|Sq<|Bk<|Sq (Rg [0,1,2] ?_)
   obtain ⟨c1,c3,c4⟩:=bS bz
   obtain ⟨c5,hx71'⟩:=Ap c3
   obtain ⟨db,dc,dd,de,df,rfl,hF80,hE81⟩:=Xy (Xt bp h7) hx71'
   have c6:=hE81 _ _ hx71'
   refine Ix c5<|Lx 0 (hm.pers _ _ hF80) c6<|Vs 1<|Nss (Rg (rG 7) ?_)
   refine Vs 1 ?_
   obtain ⟨ht,c7,c8⟩:=bS c4
   refine Cl' Bf hm (Br N bt F2 hm.pers (hG.mono (h8.t h7)) c1 _ c7) ?_
   rintro _ F4 dg b8 he rfl
   refine Vs 5<|Nss<|Sq (Rg [0,1] ?_)
   refine Vs 2<|Nt<|Cd c8 (fun c9 ca=>?_) (fun c9 cb=>?_)
   ·refine Sq (Rg [0] ?_)
    refine Vs 1<|Nt<|Rt<|Af<|Ay<|Af<|Af<|Ay ?_
    have hret:=CV ca hr
    subst hret
    refine .inr<|Af ?_
    obtain rfl:=Aa b6
    exact ReB [(.bool false)] b8.dr0 ((h8.t h7).trans he) ⟨ha,hb,h1,h2,rfl,rfl,bf,(Xt bg ((h8.t h7).trans he)),hx,(Xt hy ((h8.t h7).trans he))⟩
   ·refine Sc ?_
    refine Ab<|Rg (rG 5)<|Vs 2<|Bs 3 [(vi ht.1)] b8 (fun b9 dh ba=>?_)
    have cc:As AE 3 F4 (some ⟨b9,0,none⟩) 1 [ht.1] (some b9,.cells ([(vi ht.1)]:List Value).toArray 3 (0,0)):=XG ⟨rfl,rfl⟩ (by simp)
    obtain ⟨cd,ce,cf⟩:=bS cb
    refine Ap1 V5 ba (b7.mono he) (ba.rd0 cc) ce (fun cg ch ci di cj cl=>?_)
    refine Vs 1<|Xm<|Av<|Ab<|Rg [0,1]<|Vs 2<|Xm ?_
    have cm:=AW cf hr
    exact ⟨bv,Nat.lt_succ_self _,(cd,(W64 (h3.2 + 1))),F4,cg,ch,ci,cm,cj.dr0,(h7.t he),fI,cl⟩
  ·refine Ex ?_
   refine Au<|Au<|AB rfl ?_
   have cn:=AX c0 hr
   exact .inl ⟨rfl,(h3.1,h3.2),F2,hg,hh,hl,cn,hm,h7,fI,b7⟩
 ·rintro f dj ⟨h4,F3,h5,h6,hq,rfl,co,hu,⟨_,rfl⟩,bb⟩
  have cp:=BX b6
  refine Ab<|Sq (Rg (rG 5) ?_)
  refine Vs 4 ?_
  have bc:=XE bb
  obtain ⟨F5,cq,hv,bd⟩:=co.fr0 bb
  refine St0 #[(sv x0.Call),(vi x0.Category),(vi x0.Power),(vi x0.Claimed),(sL h5 h4.1 h6),(sL h1 x0.Lines h2)] cq (fun cr hn=>?_)
  refine Nss (Rg (rG 9) ?_)
  obtain ⟨be,ct,cu⟩:=bS cp
  refine Xw (fun f w=>∃ (F6:Mem),HS wb Fb w F6 ((sb h0 #[(sv x0.Call),(vi x0.Category),(vi x0.Power),(vi x0.Claimed),(sL h5 h4.1 h6),(sL h1 x0.Lines h2)] 27)::Lf)/\Xq F5 F6/\FI f [] [(4,(.bool be))]) ?_ ?_
  ·refine Vs 1 ?_
   obtain ⟨dk,cv,cw⟩:=bS ct
   obtain ⟨cx,hx127'⟩:=Ap cv
   obtain ⟨dl,dm,dn,dp,dq,rfl,hF136,hE137⟩:=Xy (Xt b4 (hu.t hv)) hx127'
   have cy:=hE137 _ _ hx127'
   refine Ix cx<|Lx 0 (hn.pers _ _ hF136) cy<|Vs 2<|Sp cw (fun h9 cz=>?_) (fun h9 d0=>?_)
   ·refine Vgs h9 1 ?_
    obtain ⟨dr,d1,d2⟩:=bS cz
    refine Cg h9 GD hn (Hs N cr F5 hn.pers h4.1 h5 h6 bc bd _ d1) ?_
    rintro _ F7 ds d3 d4 rfl
    refine Pk1 h9<|Vs 1 ?_
    obtain rfl:=Aa d2
    exact Xm ⟨rfl,F7,d3,d4,fI⟩
   ·refine Ss h9 2 ?_
    refine Pk0 h9<|Vs 1 ?_
    obtain rfl:=Aa d0
    exact Xm ⟨rfl,F5,hn,(Xr _),fI⟩
  ·rintro f dt ⟨F6,d6,hw,⟨_,rfl⟩⟩
   refine Ab<|Rt ?_
   obtain rfl:=Aa cu
   exact ReB [(.bool be)] d6 (((h8.t hu).trans hv).trans hw) ⟨h5,h6,h1,h2,rfl,rfl,bc,(Xt bd hw),hx,(Xt hy (((h8.t hu).trans hv).trans hw))⟩
def Cx (N:Nat) (x0:Ah) (x1:XL):Option (Ah×An):=
 ((bif (!(H7 x0.read_ x1)) then ((Dh N ({Report:=x0.o_.Report,Serial:=x0.o_.Serial,Zone:=x0.o_.Zone}:Ac) x1).bind fun h0=>((some (JC x0.read_ x1 ({x_:=h0.1,ok_:=(h0.2==0)}:An))).bind fun h2=>some (h0.1.Num,h0.1.Khz,h0.1.Mode,h0.1.Minute,h0.1.Call,h0.1.Sent.Report,h0.1.Sent.Serial,h0.1.Sent.Zone,h0.1.Got.Report,h0.1.Got.Serial,h0.1.Got.Zone,(h0.2==0),h2))) else some (((C8 x0.read_ x1 ({x_:=({Num:=0,Khz:=0,Mode:=0,Minute:=0,Call:=([]:XL),Sent:=({Report:=0,Serial:=0,Zone:=0}:Ae),Got:=({Report:=0,Serial:=0,Zone:=0}:Ae)}:Line),ok_:=false}:An))).x_.Num,((C8 x0.read_ x1 ({x_:=({Num:=0,Khz:=0,Mode:=0,Minute:=0,Call:=([]:XL),Sent:=({Report:=0,Serial:=0,Zone:=0}:Ae),Got:=({Report:=0,Serial:=0,Zone:=0}:Ae)}:Line),ok_:=false}:An))).x_.Khz,((C8 x0.read_ x1 ({x_:=({Num:=0,Khz:=0,Mode:=0,Minute:=0,Call:=([]:XL),Sent:=({Report:=0,Serial:=0,Zone:=0}:Ae),Got:=({Report:=0,Serial:=0,Zone:=0}:Ae)}:Line),ok_:=false}:An))).x_.Mode,((C8 x0.read_ x1 ({x_:=({Num:=0,Khz:=0,Mode:=0,Minute:=0,Call:=([]:XL),Sent:=({Report:=0,Serial:=0,Zone:=0}:Ae),Got:=({Report:=0,Serial:=0,Zone:=0}:Ae)}:Line),ok_:=false}:An))).x_.Minute,((C8 x0.read_ x1 ({x_:=({Num:=0,Khz:=0,Mode:=0,Minute:=0,Call:=([]:XL),Sent:=({Report:=0,Serial:=0,Zone:=0}:Ae),Got:=({Report:=0,Serial:=0,Zone:=0}:Ae)}:Line),ok_:=false}:An))).x_.Call,((C8 x0.read_ x1 ({x_:=({Num:=0,Khz:=0,Mode:=0,Minute:=0,Call:=([]:XL),Sent:=({Report:=0,Serial:=0,Zone:=0}:Ae),Got:=({Report:=0,Serial:=0,Zone:=0}:Ae)}:Line),ok_:=false}:An))).x_.Sent.Report,((C8 x0.read_ x1 ({x_:=({Num:=0,Khz:=0,Mode:=0,Minute:=0,Call:=([]:XL),Sent:=({Report:=0,Serial:=0,Zone:=0}:Ae),Got:=({Report:=0,Serial:=0,Zone:=0}:Ae)}:Line),ok_:=false}:An))).x_.Sent.Serial,((C8 x0.read_ x1 ({x_:=({Num:=0,Khz:=0,Mode:=0,Minute:=0,Call:=([]:XL),Sent:=({Report:=0,Serial:=0,Zone:=0}:Ae),Got:=({Report:=0,Serial:=0,Zone:=0}:Ae)}:Line),ok_:=false}:An))).x_.Sent.Zone,((C8 x0.read_ x1 ({x_:=({Num:=0,Khz:=0,Mode:=0,Minute:=0,Call:=([]:XL),Sent:=({Report:=0,Serial:=0,Zone:=0}:Ae),Got:=({Report:=0,Serial:=0,Zone:=0}:Ae)}:Line),ok_:=false}:An))).x_.Got.Report,((C8 x0.read_ x1 ({x_:=({Num:=0,Khz:=0,Mode:=0,Minute:=0,Call:=([]:XL),Sent:=({Report:=0,Serial:=0,Zone:=0}:Ae),Got:=({Report:=0,Serial:=0,Zone:=0}:Ae)}:Line),ok_:=false}:An))).x_.Got.Serial,((C8 x0.read_ x1 ({x_:=({Num:=0,Khz:=0,Mode:=0,Minute:=0,Call:=([]:XL),Sent:=({Report:=0,Serial:=0,Zone:=0}:Ae),Got:=({Report:=0,Serial:=0,Zone:=0}:Ae)}:Line),ok_:=false}:An))).x_.Got.Zone,((C8 x0.read_ x1 ({x_:=({Num:=0,Khz:=0,Mode:=0,Minute:=0,Call:=([]:XL),Sent:=({Report:=0,Serial:=0,Zone:=0}:Ae),Got:=({Report:=0,Serial:=0,Zone:=0}:Ae)}:Line),ok_:=false}:An))).ok_,x0.read_)).bind fun h1=>some (({o_:=({Report:=x0.o_.Report,Serial:=x0.o_.Serial,Zone:=x0.o_.Zone}:Ac),lines_:=x0.lines_,known_:=x0.known_,read_:=h1.2.2.2.2.2.2.2.2.2.2.2.2}:Ah),({x_:=({Num:=h1.1,Khz:=h1.2.1,Mode:=h1.2.2.1,Minute:=h1.2.2.2.1,Call:=h1.2.2.2.2.1,Sent:=({Report:=h1.2.2.2.2.2.1,Serial:=h1.2.2.2.2.2.2.1,Zone:=h1.2.2.2.2.2.2.2.1}:Ae),Got:=({Report:=h1.2.2.2.2.2.2.2.2.1,Serial:=h1.2.2.2.2.2.2.2.2.2.1,Zone:=h1.2.2.2.2.2.2.2.2.2.2.1}:Ae)}:Line),ok_:=h1.2.2.2.2.2.2.2.2.2.2.2.1}:An)))
theorem Hn:Aj Tryz.prog 205:=fun _ _=>by kernel_rfl
theorem HQ (N:Nat) {wb w0:World} {Fb F0:Mem} {Lf:Own} (hG:BB F0) (h4:Nat) (x0:Ah) (h5:XM) (h6 h3:Nat) (h7:Option Nat×Obj) (h2:Nat) (he:Option Nat×Obj) (hx:LC x0.lines_.length h6) (hy:SlA AN F0 h5 x0.lines_) (hz:Bd Ax AE F0 h3 x0.known_ h7) (hf:Bd AN Ar F0 h2 x0.read_ he) (x1:XL) (b0:HS wb Fb w0 F0 ((sb h4 #[(.bool x0.o_.Report),(.bool x0.o_.Serial),(.bool x0.o_.Zone),(sL h5 x0.lines_ h6),(.map (some h3)),(.map (some h2))] 148)::h7::he::Lf)) (r:(Ah×An)) (h:Cx N x0 x1=some r):
  Calls Tryz.prog 205 ([(pt h4 0),(sv x1)]:List Value).toArray w0 (EM wb Fb F0 fun F' v L'=>∃ (hl:XM) (hm:Nat) (hn:Option Nat×Obj) (ho:Option Nat×Obj),v=(.agg (EQ r.2))/\L'=(sb h4 #[(.bool r.1.o_.Report),(.bool r.1.o_.Serial),(.bool r.1.o_.Zone),(sL hl r.1.lines_ hm),(.map (some h3)),(.map (some h2))] 148)::hn::ho::Lf/\LC r.1.lines_.length hm/\SlA AN F' hl r.1.lines_/\Bd Ax AE F' h3 r.1.known_ hn/\Bd AN Ar F' h2 r.1.read_ ho):=by
 refine Go 40 Tryz.func205<|Sq (Rg [0] ?_)
 refine Al' 243 #[(vi 0),(vi 0),(vi 0),(vi 0),(sv (([]:XL))),(vi 0),(vi 0),(vi 0),(vi 0),(vi 0),(vi 0),(.bool false)] b0 (fun h8 bo hg=>?_)
 refine Nss (Rg (rG 12) ?_)
 refine Vs 3<|Ld hg.at1<|Vs 1<|V 15 279 (MK (mt:=146) (k:=9) (vt:=243) (m:=(.tmp 13)) (x:=(.tmp 14)) (kv:=(sv x1)) (kx:=x1) (z:=(.agg #[(vi 0),(vi 0),(vi 0),(vi 0),(sv (([]:XL))),(vi 0),(vi 0),(vi 0),(vi 0),(vi 0),(vi 0),(.bool false)])) (zx:=({x_:=({Num:=0,Khz:=0,Mode:=0,Minute:=0,Call:=([]:XL),Sent:=({Report:=0,Serial:=0,Zone:=0}:Ae),Got:=({Report:=0,Serial:=0,Zone:=0}:Ae)}:Line),ok_:=false}:An)) (K:=AN) (T:=Ar) kl9 rfl rfl ⟨_,rfl,rfl⟩ (by kernel_rfl) (by kernel_rfl) ⟨_,rfl,rfl⟩ (Bd.mpw hg (i:=3) rfl hf) (fun h=>by obtain ⟨_,rfl,rfl⟩:=h;rfl))<|Vs 3<|Al' 243 #[(vi 0),(vi 0),(vi 0),(vi 0),(sv (([]:XL))),(vi 0),(vi 0),(vi 0),(vi 0),(vi 0),(vi 0),(.bool false)] hg (fun h9 bp b1=>?_)
 refine St0 (EQ ((C8 x0.read_ x1 ({x_:=({Num:=0,Khz:=0,Mode:=0,Minute:=0,Call:=([]:XL),Sent:=({Report:=0,Serial:=0,Zone:=0}:Ae),Got:=({Report:=0,Serial:=0,Zone:=0}:Ae)}:Line),ok_:=false}:An)))) b1 (fun b2 ha=>?_)
 refine Vs 1<|Nss<|Sq (Rg [0,1] ?_)
 refine Vs 2<|Nt ?_
 obtain ⟨h1,b3,b4⟩:=bS h
 refine Xx (fun f w=>∃ (F1:Mem) (hb:Option Nat×Obj),HS wb Fb w F1 ((sb h9 #[(vi h1.1),(vi h1.2.1),(vi h1.2.2.1),(vi h1.2.2.2.1),(sv h1.2.2.2.2.1),(vi h1.2.2.2.2.2.1),(vi h1.2.2.2.2.2.2.1),(vi h1.2.2.2.2.2.2.2.1),(vi h1.2.2.2.2.2.2.2.2.1),(vi h1.2.2.2.2.2.2.2.2.2.1),(vi h1.2.2.2.2.2.2.2.2.2.2.1),(.bool h1.2.2.2.2.2.2.2.2.2.2.2.1)] 243)::(sb h8 #[(vi 0),(vi 0),(vi 0),(vi 0),(sv (([]:XL))),(vi 0),(vi 0),(vi 0),(vi 0),(vi 0),(vi 0),(.bool false)] 243)::(sb h4 #[(.bool x0.o_.Report),(.bool x0.o_.Serial),(.bool x0.o_.Zone),(sL h5 x0.lines_ h6),(.map (some h3)),(.map (some h2))] 148)::h7::hb::Lf)/\Xq F0 F1/\FI f [] [(4,(pt h8 0)),(5,(pt h9 0))]/\Bd AN Ar F1 h2 h1.2.2.2.2.2.2.2.2.2.2.2.2 hb) ?_ ?_
 ·refine Cd b3 (fun b5 b6=>?_) (fun b5 b7=>?_)
  ·refine Sq (Rg (rG 12) ?_)
   refine Vs 3<|Ld ha.at2<|Vs 1 ?_
   obtain ⟨h0,b8,b9⟩:=bS b6
   refine Cl' Gq ha (G0 N b2 F0 ha.pers hG (({Report:=x0.o_.Report,Serial:=x0.o_.Serial,Zone:=x0.o_.Zone}:Ac)) x1 _ b8) ?_
   rintro _ F2 bq ba hp rfl
   refine Vs 3<|Al' 34 #[(vi 0),(vi 0),(vi 0),(vi 0),(sv (([]:XL))),(vi 0),(vi 0),(vi 0),(vi 0),(vi 0),(vi 0)] ba (fun hr br bb=>?_)
   refine St0 (Cn h0.1) bb (fun bs ht=>?_)
   refine Vs 1<|Nss (Rg (rG 5) ?_)
   refine Ld ht.at0<|Vs 3<|St1 #[(vi h0.1.Num),(vi h0.1.Khz),(vi h0.1.Mode),(vi h0.1.Minute),(sv h0.1.Call),(vi h0.1.Sent.Report),(vi h0.1.Sent.Serial),(vi h0.1.Sent.Zone),(vi h0.1.Got.Report),(vi h0.1.Got.Serial),(vi h0.1.Got.Zone),(.bool (h0.2==0))] ht (fun bt bc=>?_)
   refine Nt ?_
   obtain ⟨bd,be,bf⟩:=bS b9
   refine RD 7 7 [(sb hr (Cn h0.1) 34),(sb h9 #[(vi h0.1.Num),(vi h0.1.Khz),(vi h0.1.Mode),(vi h0.1.Minute),(sv h0.1.Call),(vi h0.1.Sent.Report),(vi h0.1.Sent.Serial),(vi h0.1.Sent.Zone),(vi h0.1.Got.Report),(vi h0.1.Got.Serial),(vi h0.1.Got.Zone),(.bool (h0.2==0))] 243),(sb h8 #[(vi 0),(vi 0),(vi 0),(vi 0),(sv (([]:XL))),(vi 0),(vi 0),(vi 0),(vi 0),(vi 0),(vi 0),(.bool false)] 243),(sb h4 #[(.bool x0.o_.Report),(.bool x0.o_.Serial),(.bool x0.o_.Zone),(sL h5 x0.lines_ h6),(.map (some h3)),(.map (some h2))] 148),h7] [] bc (fun f w=>∃ (F3:Mem) (hc:Option Nat×Obj),HS wb Fb w F3 ((sb h9 #[(vi h0.1.Num),(vi h0.1.Khz),(vi h0.1.Mode),(vi h0.1.Minute),(sv h0.1.Call),(vi h0.1.Sent.Report),(vi h0.1.Sent.Serial),(vi h0.1.Sent.Zone),(vi h0.1.Got.Report),(vi h0.1.Got.Serial),(vi h0.1.Got.Zone),(.bool (h0.2==0))] 243)::(sb h8 #[(vi 0),(vi 0),(vi 0),(vi 0),(sv (([]:XL))),(vi 0),(vi 0),(vi 0),(vi 0),(vi 0),(vi 0),(.bool false)] 243)::(sb h4 #[(.bool x0.o_.Report),(.bool x0.o_.Serial),(.bool x0.o_.Zone),(sL h5 x0.lines_ h6),(.map (some h3)),(.map (some h2))] 148)::h7::hc::Lf)/\Xq F2 F3/\FI f [] [(4,(pt h8 0)),(5,(pt h9 0))]/\Bd AN Ar F3 h2 bd hc) (fun bu bg=>?_) ?_
   ·refine Dv [0,1,2] ?_
    refine Dl 3 (fun _ hq=>(hq.1.2 3 _ _ rfl))<|Dv [4]<|Dl 5 (fun _ hq=>(hq.1.2 1 _ _ rfl))<|D1 6<|Aw.mapPut (l':=[true,true,true,true,true,true,true]) (zd:=true) (by kernel_rfl) (by kernel_rfl) kl9 (ty:=0) (g:=none) (mt:=146) (k:=9) (vt:=243) (m:=(.tmp 36)) (x:=(.tmp 37)) (y:=(.tmp 38)) (b:=h2) (kx:=x1) (u:=({x_:=h0.1,ok_:=(h0.2==0)}:An)) (kv:=(sv x1)) (v:=(.agg #[(vi h0.1.Num),(vi h0.1.Khz),(vi h0.1.Mode),(vi h0.1.Minute),(sv h0.1.Call),(vi h0.1.Sent.Report),(vi h0.1.Sent.Serial),(vi h0.1.Sent.Zone),(vi h0.1.Got.Report),(vi h0.1.Got.Serial),(vi h0.1.Got.Zone),(.bool (h0.2==0))])) (K:=AN) (T:=Ar) (by kernel_rfl) rfl rfl rfl rfl ⟨_,rfl,rfl⟩ ⟨_,rfl,rfl⟩ (by kernel_rfl) bg (q:=5) rfl (hf.mono hp) (Xr _) (fun _=>by simp) (fun e=>by cases e) (fun hu bh (bi:HS wb Fb bh F2 ((sb hr (Cn h0.1) 34)::(sb h9 #[(vi h0.1.Num),(vi h0.1.Khz),(vi h0.1.Mode),(vi h0.1.Minute),(sv h0.1.Call),(vi h0.1.Sent.Report),(vi h0.1.Sent.Serial),(vi h0.1.Sent.Zone),(vi h0.1.Got.Report),(vi h0.1.Got.Serial),(vi h0.1.Got.Zone),(.bool (h0.2==0))] 243)::(sb h8 #[(vi 0),(vi 0),(vi 0),(vi 0),(sv (([]:XL))),(vi 0),(vi 0),(vi 0),(vi 0),(vi 0),(vi 0),(.bool false)] 243)::(sb h4 #[(.bool x0.o_.Report),(.bool x0.o_.Serial),(.bool x0.o_.Zone),(sL h5 x0.lines_ h6),(.map (some h3)),(.map (some h2))] 148)::h7::hu::Lf)) bj=>?_)
    obtain rfl:=Aa be
    exact XD (by kernel_rfl) ⟨F2,hu,bi.dr0,(Xr _),fI,bj⟩
   ·rintro f bv ⟨F3,hc,bk,bl,⟨_,rfl⟩,bm⟩
    obtain rfl:=Aa bf
    exact .inl ⟨rfl,F3,hc,bk,(hp.t bl),fI,bm⟩
  ·refine Sc ?_
   obtain rfl:=Aa b7
   exact .inl ⟨rfl,F0,he,ha,(Xr _),fI,hf⟩
 ·rintro f bw ⟨F1,hb,hv,hh,⟨_,rfl⟩,bn⟩
  refine Ab<|Sq (Rg [0,1] ?_)
  refine Ld hv.at0<|St1 #[(vi h1.1),(vi h1.2.1),(vi h1.2.2.1),(vi h1.2.2.2.1),(sv h1.2.2.2.2.1),(vi h1.2.2.2.2.2.1),(vi h1.2.2.2.2.2.2.1),(vi h1.2.2.2.2.2.2.2.1),(vi h1.2.2.2.2.2.2.2.2.1),(vi h1.2.2.2.2.2.2.2.2.2.1),(vi h1.2.2.2.2.2.2.2.2.2.2.1),(.bool h1.2.2.2.2.2.2.2.2.2.2.2.1)] hv (fun bx hw=>?_)
  refine Nt<|Rt ?_
  obtain rfl:=Aa b4
  exact ⟨rfl,(.agg #[(vi h1.1),(vi h1.2.1),(vi h1.2.2.1),(vi h1.2.2.2.1),(sv h1.2.2.2.2.1),(vi h1.2.2.2.2.2.1),(vi h1.2.2.2.2.2.2.1),(vi h1.2.2.2.2.2.2.2.1),(vi h1.2.2.2.2.2.2.2.2.1),(vi h1.2.2.2.2.2.2.2.2.2.1),(vi h1.2.2.2.2.2.2.2.2.2.2.1),(.bool h1.2.2.2.2.2.2.2.2.2.2.2.1)]),AR (l:=[.cell 4 243]) (by kernel_rfl) (vs:=[(.agg #[(vi h1.1),(vi h1.2.1),(vi h1.2.2.1),(vi h1.2.2.2.1),(sv h1.2.2.2.2.1),(vi h1.2.2.2.2.2.1),(vi h1.2.2.2.2.2.2.1),(vi h1.2.2.2.2.2.2.2.1),(vi h1.2.2.2.2.2.2.2.2.1),(vi h1.2.2.2.2.2.2.2.2.2.1),(vi h1.2.2.2.2.2.2.2.2.2.2.1),(.bool h1.2.2.2.2.2.2.2.2.2.2.2.1)])]) ⟨h8,0,rfl,Am (t:=243) (g:=true) (s:=12) (by kernel_rfl) hw.at1 rfl (by decide),trivial⟩,F1,_,_,rfl,hw.dr0.dr0,hh,⟨h5,h6,h7,hb,rfl,rfl,hx,(Xt hy hh),(hz.mono hh),bn⟩⟩
end Go.Proofs.YthljkpeimofbbaaGreatDoor
