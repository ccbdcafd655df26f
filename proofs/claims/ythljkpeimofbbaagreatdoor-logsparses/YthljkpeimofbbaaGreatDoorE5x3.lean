/- Lemmas of the claim LogsParses, printed by a program of the claimant and by hand. No statement of the seat is proved here. -/
import Derived.Test.YthljkpeimofbbaaGreatDoorE5x2
set_option linter.unusedVariables false
set_option linter.unusedSimpArgs false
set_option linter.unusedSectionVars false
set_option maxHeartbeats 4000000
set_option maxRecDepth 100000
namespace Go.Proofs.YthljkpeimofbbaaGreatDoor
def isL (b:UInt8):Bool:=decide (65<=b.toNat)&&decide (b.toNat<=90)
def isD (b:UInt8):Bool:=decide (48<=b.toNat)&&decide (b.toNat<=57)
def isE (b:UInt8):Bool:=isL b||isD b
theorem Vk {b:UInt8} (h:128<=b.toNat):isL b=false:=by unfold isL;simp;omega
theorem Vm {b:UInt8} (h:128<=b.toNat):isD b=false:=by unfold isD;simp;omega
theorem Xm {b:UInt8} (h:128<=b.toNat):isE b=false:=by unfold isE;rw [Vk h,Vm h];rfl
theorem QY {b:UInt8} (h:isE b=true):b.toNat < 128:=by unfold isE isL isD at h;simp at h;omega
theorem Yd {b:UInt8} (h:isL b=true):isD b=false:=by unfold isL at h;unfold isD;simp at h ⊢;omega
theorem RQ (N:Nat) (b:UInt8):Cc N (b.toNat:Int)=some (isL b):=by
 unfold Cc isL
 congr 2 <;> (rw [decide_eq_decide];omega)
theorem TH (N:Nat) (b:UInt8):BF N (b.toNat:Int)=some (isD b):=by
 unfold BF isD
 congr 2 <;> (rw [decide_eq_decide];omega)
theorem Ql (N:Nat) (b:UInt8):Fp N (b.toNat:Int)=some (isL b):=by
 unfold Fp isL
 congr 2 <;> (rw [decide_eq_decide];omega)
theorem LY (N:Nat) (b:UInt8):D9 N (b.toNat:Int)=some (isD b):=by
 unfold D9 isD
 congr 2 <;> (rw [decide_eq_decide];omega)
theorem L0 (N:Nat) {n:Nat} (h:128<=n):Cc N (n:Int)=some false:=by
 unfold Cc
 have:decide ((n:Int)<=90)=false:=by rw [decide_eq_false_iff_not];omega
 rw [this,Bool.and_false]
theorem NE (N:Nat) {n:Nat} (h:128<=n):BF N (n:Int)=some false:=by
 unfold BF
 have:decide ((n:Int)<=57)=false:=by rw [decide_eq_false_iff_not];omega
 rw [this,Bool.and_false]
theorem U8 (N:Nat) (b:UInt8):El N (b.toNat:Int)=some (isE b):=by
 unfold El isE
 rw [RQ,TH]
 cases isL b <;> rfl
theorem QW (N:Nat) {n:Nat} (h:128<=n):El N (n:Int)=some false:=by
 unfold El
 rw [L0 N h,NE N h]
 rfl
theorem OQ (N:Nat) (a b c:Int):Ho N a b c=some (decide (b<=a)&&decide (a<=c)):=rfl
theorem G0 (N:Nat) (a b c:Int):CR N a b c=some (decide (b<=a)&&decide (a<=c)):=rfl
structure Ht (p:Int->Option Bool) (P:UInt8->Bool):Prop where
 lo:∀ b:UInt8,b.toNat < 128->p (b.toNat:Int)=some (P b)
 hi:∀ n:Nat,128<=n->p (n:Int)=some false
 big:∀ b:UInt8,128<=b.toNat->P b=false
theorem UU (N:Nat):Ht (fun y0=>Cc N y0) isL:=⟨fun b _=>RQ N b,fun _ h=>L0 N h,fun _ h=>Vk h⟩
theorem Tv (N:Nat):Ht (fun y0=>BF N y0) isD:=⟨fun b _=>TH N b,fun _ h=>NE N h,fun _ h=>Vm h⟩
theorem XO (N:Nat):Ht (fun y0=>El N y0) isE:=⟨fun b _=>U8 N b,fun _ h=>QW N h,fun _ h=>Xm h⟩
theorem Ht.some {p:Int->Option Bool} {P:UInt8->Bool} (h:Ht p P) (n:Nat):(p (n:Int)).isSome=true:=by
 rcases Nat.lt_or_ge n 128 with h' | h'
 ·have:=h.lo (UInt8.ofNat n) (by rw [UInt8.toNat_ofNat'];omega)
  have e:(UInt8.ofNat n).toNat=n:=by rw [UInt8.toNat_ofNat'];omega
  rw [e] at this
  rw [this];rfl
 ·rw [h.hi n h'];rfl
theorem Ht.all {p:Int->Option Bool} {P:UInt8->Bool} (h:Ht p P):LT p=true:=JG.2 fun n _=>h.some n
theorem Ih {p:Int->Option Bool} {P:UInt8->Bool} (hp:Ht p P) {N:Nat} (s:YL) (most:Int) (hN:s.length < N):
  GD N s most p=some (s.all P&&(decide (1<=(s.length:Int))&&decide ((s.length:Int)<=most))):=by
 have key:=C4 (body:=GB N s most p) s.length (fun i (st:Nat)=>st=i/\(s.take i).all P=true)
  (fun o=>(s.all P=true/\o=.done s.length)\/(s.all P=false/\o=.ret false)) (by
   rintro i st hi ⟨rfl,hall⟩
   by_cases h:st < s.length
   ·have hget:s[st]? =some s[st]:=List.getElem?_eq_getElem h
    unfold GB
    simp only [h,decide_true,cT]
    have htake:s.take (st + 1)=s.take st++[s[st]]:=by rw [List.take_add_one,hget];rfl
    have hfalse:P s[st]=false->s.all P=false:=fun hP=>by
     rw [List.all_eq_false];exact ⟨s[st],List.getElem_mem h,by rw [hP];simp⟩
    rcases Nat.lt_or_ge s[st].toNat 128 with hb | hb
    ·rw [OD hget hb,hp.lo _ hb]
     simp only [oS]
     cases hP:P s[st] with
     | true=>exact .inl ⟨st + 1,rfl,⟨rfl,by rw [htake,List.all_append,hall];simp [hP]⟩,trivial⟩
     | false=>exact .inr ⟨.ret false,rfl,(fun _ e=>by cases e),.inr ⟨hfalse hP,rfl⟩⟩
    ·have hs:=SB hget hb
     rw [hp.hi _ hs.1]
     simp only [oS]
     exact .inr ⟨.ret false,rfl,(fun _ e=>by cases e),.inr ⟨hfalse (hp.big _ hb),rfl⟩⟩
   ·have:st=s.length:=by omega
    subst this
    unfold GB
    simp only [Nat.lt_irrefl,decide_false,cF]
    exact .inr ⟨_,rfl,(fun _ e=>by cases e),.inl ⟨by simpa using hall,rfl⟩⟩) s.length N 0 0 (by omega) ⟨rfl,rfl⟩ hN
 obtain ⟨o,ho,hR⟩:=key
 unfold GD
 rw [ho]
 rcases hR with ⟨h1,rfl⟩ | ⟨h1,rfl⟩
 ·simp only [oS,A9.k,OQ,h1,Bool.true_and]
 ·simp only [oS,A9.k,h1,Bool.false_and]
theorem Qg {p:Int->Option Bool} {P:UInt8->Bool} (hp:Ht p P) {b:UInt8} (h:b.toNat < 128):GF p b.toNat=P b:=by unfold GF;rw [hp.lo b h];rfl
theorem L6 {p:Int->Option Bool} {P:UInt8->Bool} (hp:Ht p P) (s:YL) (ha:∀ b,b∈s->b.toNat < 128):∀ (f i:Nat),s.length<=i + f->i<=s.length->
  (0<=Go.Lib.idxFuncFrom (GF p) true ⟨s.toArray⟩ f i ↔ (s.drop i).any P=true)
 | 0,i,h1,h2=>by
  have:i=s.length:=by omega
  subst this
  simp [Go.Lib.idxFuncFrom]
 | f + 1,i,h1,h2=>by
  unfold Go.Lib.idxFuncFrom
  have hsz:(⟨s.toArray⟩:ByteArray).size=s.length:=by simp [ByteArray.size]
  rw [hsz]
  by_cases h:i < s.length
  ·rw [if_pos h]
   have hget:s[i]? =some s[i]:=List.getElem?_eq_getElem h
   have hd:Utf8.decode ⟨s.toArray⟩ i=(s[i].toNat,1):=OD hget (ha _ (List.getElem_mem h))
   rw [hd]
   simp only
   rw [Qg hp (ha _ (List.getElem_mem h)),List.drop_eq_getElem_cons h,List.any_cons]
   cases hP:P s[i] with
   | true=>simp
   | false=>
    simp only [Bool.false_eq_true,if_false,Bool.false_or]
    exact L6 hp s ha f (i + 1) (by omega) (by omega)
  ·have:i=s.length:=by omega
   subst this
   simp
theorem Uq {p:Int->Option Bool} {P:UInt8->Bool} (hp:Ht p P) {N:Nat} (s:YL) (ha:∀ b,b∈s->b.toNat < 128):∃ r,CP N s p=some r/\decide (r>=0)=s.any P:=by
 refine ⟨_,by unfold CP;rw [if_pos hp.all],?_⟩
 have:=L6 hp s ha s.length 0 (by omega) (by omega)
 have hsz:(⟨s.toArray⟩:ByteArray).size=s.length:=by simp [ByteArray.size]
 unfold Go.Lib.idxFunc
 rw [hsz]
 rw [List.drop_zero] at this
 cases hs:s.any P with
 | true=>rw [hs] at this;exact decide_eq_true (this.2 rfl)
 | false=>
  rw [hs] at this
  exact decide_eq_false fun h=>by have:=this.1 h;cases this
def KB:YL->Nat
 | []=>0
 | b::r=>if isD b then r.length + 1 else KB r
def BK (s:YL):Nat:=KB s.reverse
theorem Se:BK []=0:=rfl
theorem Qt (l:YL) (b:UInt8):BK (l++[b])=if isD b then l.length + 1 else BK l:=by
 unfold BK
 rw [List.reverse_append]
 simp [KB]
theorem Om:∀ l:YL,KB l<=l.length
 | []=>Nat.le_refl _
 | b::r=>by
  unfold KB
  split
  ·exact Nat.le_refl _
  ·exact Nat.le_succ_of_le (Om r)
theorem Q6 (s:YL):BK s<=s.length:=by unfold BK;have:=Om s.reverse;simpa using this
theorem Qs:∀ l:YL,∀ b,b∈l.take (l.length - KB l)->isD b=false
 | [],b,h=>by simp at h
 | c::r,b,h=>by
  unfold KB at h
  split at h
  ·simp at h
  ·rename_i hc
   have hc':isD c=false:=by simpa using hc
   have:=Om r
   rw [show (c::r).length - KB r=(r.length - KB r) + 1 by simp;omega,List.take_succ_cons] at h
   rcases List.mem_cons.1 h with rfl | h
   ·exact hc'
   ·exact Qs r b h
theorem Qu (s:YL):∀ b,b∈s.drop (BK s)->isD b=false:=by
 intro b hb
 have h:=Qs s.reverse b
 have e:s.reverse.take (s.reverse.length - KB s.reverse)=(s.drop (BK s)).reverse:=by
  rw [List.reverse_drop,List.length_reverse];rfl
 rw [e] at h
 exact h (by simpa using hb)
theorem TR:∀ l:YL,0 < KB l->∃ b,l[l.length - KB l]? =some b/\isD b=true
 | [],h=>by simp [KB] at h
 | c::r,h=>by
  unfold KB at h ⊢
  by_cases hc:isD c=true
  ·rw [if_pos hc]
   exact ⟨c,by simp,hc⟩
  ·rw [if_neg hc] at h ⊢
   obtain ⟨b,h1,h2⟩:=TR r h
   have:=Om r
   refine ⟨b,?_,h2⟩
   rw [show (c::r).length - KB r=(r.length - KB r) + 1 by simp;omega,List.getElem?_cons_succ]
   exact h1
theorem WE (s:YL) (h:0 < BK s):∃ b,s[BK s - 1]? =some b/\isD b=true:=by
 obtain ⟨b,h1,h2⟩:=TR s.reverse h
 refine ⟨b,?_,h2⟩
 have hle:=Q6 s
 rw [List.length_reverse,List.getElem?_reverse (by show s.length - BK s < s.length;omega)] at h1
 rw [<-h1]
 congr 1
 show BK s - 1=s.length - 1 - (s.length - BK s)
 omega
theorem KW (N:Nat) (s:YL) (ha:∀ b,b∈s->b.toNat < 128):∀ (f i:Nat),i<=f->i<=s.length->
  Go.Lib.lastIdxFuncFrom (GF fun y0=>BF N y0) true ⟨s.toArray⟩ f i + 1=(BK (s.take i):Int)
 | 0,i,h1,h2=>by
  have:i=0:=by omega
  subst this
  simp [Go.Lib.lastIdxFuncFrom,Se]
 | f + 1,0,h1,h2=>by simp [Go.Lib.lastIdxFuncFrom,Se]
 | f + 1,i + 1,h1,h2=>by
  unfold Go.Lib.lastIdxFuncFrom
  rw [if_pos (Nat.succ_pos i)]
  have h:i < s.length:=by omega
  have htake:s.take (i + 1)=s.take i++[s[i]]:=by rw [List.take_add_one,List.getElem?_eq_getElem h];rfl
  have hb:=ha _ (List.getElem_mem h)
  have hdl:Go.Lib.decodeLastL (s.take (i + 1))=(s[i].toNat,1):=by
   unfold Go.Lib.decodeLastL
   rw [if_neg (fun e=>by have h9:=congrArg List.length e;rw [List.length_take,List.length_nil] at h9;omega)]
   have hlen:(s.take (i + 1)).length - 1=i:=by rw [List.length_take];omega
   have hg:(s.take (i + 1)).getD i 0=s[i]:=by
    rw [List.getD_eq_getElem?_getD,List.getElem?_take,if_pos (by omega),List.getElem?_eq_getElem h];rfl
   rw [hlen,hg,if_pos hb]
  simp only [List.toList_toArray] at *
  rw [hdl]
  simp only
  rw [Qg (Tv N) hb,htake,Qt]
  cases hP:isD s[i] with
  | true=>
   simp only [if_true]
   rw [List.length_take,Nat.min_eq_left (by omega)]
   simp
  | false=>
   simp only [Bool.false_eq_true,if_false]
   rw [show i + 1 - 1=i by omega]
   exact KW N s ha f i (by omega) (by omega)
theorem Dn (i:Nat) (h:i < 4611686018427387904):W64 ((i:Int) + 1)=((i + 1:Nat):Int):=by
 rw [C3 (by omega) (by omega)];omega
def pcs (c:UInt8):YL->List YL
 | []=>[[]]
 | b::s=>if b=c then []::pcs c s else match pcs c s with
  | p::r=>(b::p)::r
  | []=>[[b]]
theorem G7 (c:UInt8):∀ s,pcs c s≠[]
 | []=>by simp [pcs]
 | b::s=>by
  unfold pcs
  split
  ·simp
  ·split <;> simp
theorem EH {c:UInt8}:∀ {a:YL},c∉a->pcs c a=[a]
 | [],_=>rfl
 | b::s,h=>by
  have h1:¬ b=c:=fun e=>h (by rw [e];exact List.mem_cons_self)
  have h2:c∉s:=fun hm=>h (List.mem_cons_of_mem _ hm)
  unfold pcs
  rw [if_neg h1,EH h2]
theorem Ga {c:UInt8}:∀ {a t:YL},c∉a->pcs c (a++c::t)=a::pcs c t
 | [],t,_=>by simp [pcs]
 | b::s,t,h=>by
  have h1:¬ b=c:=fun e=>h (by rw [e];exact List.mem_cons_self)
  have h2:c∉s:=fun hm=>h (List.mem_cons_of_mem _ hm)
  rw [List.cons_append]
  conv=>lhs;unfold pcs
  rw [if_neg h1,Ga h2]
theorem Tz (c:UInt8):∀ s,(pcs c s).length=s.count c + 1
 | []=>rfl
 | b::s=>by
  have:=Tz c s
  unfold pcs
  by_cases h:b=c
  ·rw [if_pos h,List.length_cons,this,h];simp
  ·rw [if_neg h,List.count_cons_of_ne (by simpa using h)]
   cases hp:pcs c s with
   | nil=>exact absurd hp (G7 c s)
   | cons p r=>rw [hp] at this;simpa using this
theorem LW (c:UInt8):∀ s,[c].intercalate (pcs c s)=s
 | []=>rfl
 | b::s=>by
  have ih:=LW c s
  unfold pcs
  by_cases h:b=c
  ·rw [if_pos h]
   cases hp:pcs c s with
   | nil=>exact absurd hp (G7 c s)
   | cons p r=>
    rw [hp] at ih
    subst h
    simp only [List.intercalate] at ih ⊢
    simp only [List.intersperse_cons_cons,List.flatten_cons,List.nil_append,List.cons_append]
    rw [ih]
  ·rw [if_neg h]
   cases hp:pcs c s with
   | nil=>exact absurd hp (G7 c s)
   | cons p r=>
    rw [hp] at ih
    simp only
    cases r with
    | nil=>simp [List.intercalate] at ih ⊢;exact ih
    | cons q r=>
     simp only [List.intercalate,List.intersperse_cons_cons,List.flatten_cons,List.cons_append] at ih ⊢
     rw [ih]
theorem Fg {c:UInt8}:∀ {s:YL},c∈s->∃ a t,s=a++c::t/\c∉a
 | b::s,h=>by
  by_cases hb:b=c
  ·exact ⟨[],s,by rw [hb];rfl,by simp⟩
  ·rcases List.mem_cons.1 h with e | h
   ·exact absurd e.symm hb
   ·obtain ⟨a,t,h1,h2⟩:=Fg h
    exact ⟨b::a,t,by rw [h1];rfl,fun hm=>by
     rcases List.mem_cons.1 hm with e | hm
     ·exact hb e.symm
     ·exact h2 hm⟩
theorem JS {c:UInt8}:∀ {s:YL},c∉s->Go.Lib.index s [c]= -1
 | [],_=>rfl
 | b::s,h=>by
  have h1:¬ c=b:=fun e=>h (by rw [e];exact List.mem_cons_self)
  have h2:c∉s:=fun hm=>h (List.mem_cons_of_mem _ hm)
  unfold Go.Lib.index
  rw [if_neg (by simp [List.isPrefixOf];exact h1),JS h2]
  rfl
theorem JR {c:UInt8}:∀ {a t:YL},c∉a->Go.Lib.index (a++c::t) [c]=(a.length:Int)
 | [],t,_=>by
  show Go.Lib.index (c::t) [c]=0
  unfold Go.Lib.index
  rw [if_pos (by simp [List.isPrefixOf])]
 | b::s,t,h=>by
  have h1:¬ c=b:=fun e=>h (by rw [e];exact List.mem_cons_self)
  have h2:c∉s:=fun hm=>h (List.mem_cons_of_mem _ hm)
  rw [List.cons_append]
  unfold Go.Lib.index
  rw [if_neg (by simp [List.isPrefixOf];exact h1),JR h2,if_neg (by simp <;> omega)]
  simp
theorem OB {c:UInt8}:∀ (n f:Nat) (s:YL),s.length<=n->s.length < f->Go.Lib.splitK [c] 0 (Go.Lib.countFrom [c] f s) s=pcs c s
 | _,0,s,_,h=>by omega
 | n,f + 1,s,h1,h2=>by
  by_cases hc:c∈s
  ·obtain ⟨a,t,rfl,ha⟩:=Fg hc
   have hi:=JR (t:=t) ha
   unfold Go.Lib.countFrom
   rw [hi,if_neg (by simp <;> omega),Nat.add_comm 1]
   unfold Go.Lib.splitK
   rw [hi,if_neg (by simp <;> omega)]
   have hdrop:(a++c::t).drop (((a.length:Int)).toNat + [c].length)=t:=by
    simp
   have htake:(a++c::t).take (((a.length:Int)).toNat + 0)=a:=by simp
   rw [hdrop,htake,Ga ha]
   have hl:t.length < n:=by simp at h1;omega
   obtain ⟨n',rfl⟩:∃ n',n=n' + 1:=⟨n - 1,by omega⟩
   rw [OB n' f t (by omega) (by simp at h2;omega)]
  ·rw [EH hc]
   unfold Go.Lib.countFrom
   rw [JS hc,if_pos (by simp)]
   rfl
theorem Rx (c:UInt8) (s:YL):QC s [c]=pcs c s:=by
 unfold QC
 rw [Go.Lib.splitB_data]
 have:Go.Lib.countB ⟨s.toArray⟩ ⟨[c].toArray⟩=Go.Lib.countFrom [c] (s.length + 1) s:=by
  rfl
 rw [this]
 exact OB s.length (s.length + 1) s (Nat.le_refl _) (Nat.lt_succ_self _)
theorem Oj {N:Nat} {s:YL} (c:UInt8) (h:s.length < 4294967281):strings_Split N s [c]=some (pcs c s):=by
 unfold strings_Split
 rw [if_pos ⟨h,by simp⟩,Rx]
theorem Sb {c:UInt8} {s:YL} (h:c∉s):Go.Lib.cut s [c]=(s,[],false):=by
 unfold Go.Lib.cut
 rw [JS h,if_neg (by decide)]
theorem Sa {c:UInt8} {a t:YL} (h:c∉a):Go.Lib.cut (a++c::t) [c]=(a,t,true):=by
 unfold Go.Lib.cut
 rw [JR h,if_pos (by omega)]
 simp only [Int.toNat_natCast,List.length_singleton]
 rw [List.drop_append]
 simp
theorem TU (b c:UInt8) (z:Int) (h:z=(c.toNat:Int)):((b.toNat:Int)==z)=decide (b=c):=by
 subst h
 rw [Bool.eq_iff_iff]
 simp only [beq_iff_eq,decide_eq_true_eq]
 constructor
 ·intro h
  exact UInt8.toNat_inj.1 (by omega)
 ·rintro rfl
  rfl
theorem Uj {N:Nat} (s:YL) (hs:s.length < 4294967290) (hN:s.length < N):GQ N s=some (pcs 47 s):=by
 have key:=C4 (body:=EO N s) s.length (fun i st=>∃ (out:List YL) (fr:Nat),st=(out,(fr:Int),(i:Int))/\fr<=i/\out.length<=i/\pcs 47 s=out++pcs 47 (s.drop fr)/\(47:UInt8)∉(s.drop fr).take (i - fr))
  (fun o=>∃ (out:List YL) (fr:Nat),o=.done (out,(fr:Int),(s.length:Int))/\fr<=s.length/\out.length<=s.length/\pcs 47 s=out++[s.drop fr]) (by
   rintro i st hi ⟨out,fr,rfl,h1,h2,h3,h4⟩
   unfold EO
   simp only
   by_cases h:i < s.length
   ·have hget:s[i]? =some s[i]:=List.getElem?_eq_getElem h
    have e1:decide ((i:Int) < (s.length:Int))=true:=decide_eq_true (by omega)
    rw [e1,cT,D2 h,oS,TU _ 47 47 rfl,Dn i (by omega)]
    have hdi:s.drop fr=(s.drop fr).take (i - fr)++s[i]::s.drop (i + 1):=by
     have e2:s.drop fr=(s.drop fr).take (i - fr)++(s.drop fr).drop (i - fr):=(List.take_append_drop _ _).symm
     rw [List.drop_drop,show fr + (i - fr)=i by omega,List.drop_eq_getElem_cons h] at e2
     exact e2
    by_cases hc:s[i]=47
    ·rw [decide_eq_true hc,cT,Dz h1 (by omega),oS,Jb (by simp;omega),oS,oS]
     refine .inl ⟨_,rfl,⟨out++[(s.drop fr).take (i - fr)],i + 1,rfl,by omega,by simp;omega,?_,by simp⟩,h⟩
     rw [h3]
     conv=>lhs;rw [hdi,hc,Ga h4]
     simp
    ·rw [decide_eq_false hc,cF,oS]
     refine .inl ⟨_,rfl,⟨out,fr,rfl,by omega,by omega,h3,?_⟩,h⟩
     rw [show i + 1 - fr=(i - fr) + 1 by omega,List.take_add_one,List.getElem?_drop,show fr + (i - fr)=i by omega,hget]
     intro hm
     rcases List.mem_append.1 hm with hm | hm
     ·exact h4 hm
     ·simp at hm;exact hc hm.symm
   ·have:i=s.length:=by omega
    subst this
    rw [decide_eq_false (by omega),cF]
    refine .inr ⟨_,rfl,(fun _ e=>by cases e),out,fr,rfl,h1,h2,?_⟩
    rw [h3,EH]
    rw [List.take_of_length_le (by simp)] at h4
    exact h4) s.length N 0 ([],0,0) (by omega) ⟨[],0,rfl,Nat.le_refl _,Nat.le_refl _,by simp,by simp⟩ hN
 obtain ⟨o,ho,out,fr,rfl,h1,h2,h3⟩:=key
 unfold GQ
 rw [ho]
 simp only [oS,A9.k]
 rw [Dz h1 (Nat.le_refl _),oS,Jb (by simp;omega),h3,List.take_of_length_le (by simp)]
 rfl
theorem RP {N:Nat} (s:YL) (hs:s.length < 4294967290) (hN:s.length < N):Gt N s=some (pcs 32 s):=by
 have key:=C4 (body:=Fo N s) s.length (fun i st=>∃ (out:List YL) (fr:Nat),st=(out,(fr:Int),(i:Int))/\fr<=i/\out.length<=i/\pcs 32 s=out++pcs 32 (s.drop fr)/\(32:UInt8)∉(s.drop fr).take (i - fr))
  (fun o=>∃ (out:List YL) (fr:Nat),o=.done (out,(fr:Int),(s.length:Int))/\fr<=s.length/\out.length<=s.length/\pcs 32 s=out++[s.drop fr]) (by
   rintro i st hi ⟨out,fr,rfl,h1,h2,h3,h4⟩
   unfold Fo
   simp only
   by_cases h:i < s.length
   ·have hget:s[i]? =some s[i]:=List.getElem?_eq_getElem h
    have e1:decide ((i:Int) < (s.length:Int))=true:=decide_eq_true (by omega)
    rw [e1,cT,D2 h,oS,TU _ 32 32 rfl,Dn i (by omega)]
    have hdi:s.drop fr=(s.drop fr).take (i - fr)++s[i]::s.drop (i + 1):=by
     have e2:s.drop fr=(s.drop fr).take (i - fr)++(s.drop fr).drop (i - fr):=(List.take_append_drop _ _).symm
     rw [List.drop_drop,show fr + (i - fr)=i by omega,List.drop_eq_getElem_cons h] at e2
     exact e2
    by_cases hc:s[i]=32
    ·rw [decide_eq_true hc,cT,Dz h1 (by omega),oS,Jb (by simp;omega),oS,oS]
     refine .inl ⟨_,rfl,⟨out++[(s.drop fr).take (i - fr)],i + 1,rfl,by omega,by simp;omega,?_,by simp⟩,h⟩
     rw [h3]
     conv=>lhs;rw [hdi,hc,Ga h4]
     simp
    ·rw [decide_eq_false hc,cF,oS]
     refine .inl ⟨_,rfl,⟨out,fr,rfl,by omega,by omega,h3,?_⟩,h⟩
     rw [show i + 1 - fr=(i - fr) + 1 by omega,List.take_add_one,List.getElem?_drop,show fr + (i - fr)=i by omega,hget]
     intro hm
     rcases List.mem_append.1 hm with hm | hm
     ·exact h4 hm
     ·simp at hm;exact hc hm.symm
   ·have:i=s.length:=by omega
    subst this
    rw [decide_eq_false (by omega),cF]
    refine .inr ⟨_,rfl,(fun _ e=>by cases e),out,fr,rfl,h1,h2,?_⟩
    rw [h3,EH]
    rw [List.take_of_length_le (by simp)] at h4
    exact h4) s.length N 0 ([],0,0) (by omega) ⟨[],0,rfl,Nat.le_refl _,Nat.le_refl _,by simp,by simp⟩ hN
 obtain ⟨o,ho,out,fr,rfl,h1,h2,h3⟩:=key
 unfold Gt
 rw [ho]
 simp only [oS,A9.k]
 rw [Dz h1 (Nat.le_refl _),oS,Jb (by simp;omega),h3,List.take_of_length_le (by simp)]
 rfl
theorem M9 {α ρ τ:Type} {body:Int->Option (A9 ρ Int)} {l:List α} (ok:α->Bool) (bad:ρ) (hb:∀ i (h:i < l.length),body (i:Int)=some (bif ok l[i] then .next ((i + 1:Nat):Int) else .ret bad))
  (he:body (l.length:Int)=some (.done (l.length:Int))) {N:Nat} (hN:l.length < N) (fd:Int->Option τ) (fr:ρ->Option τ):((AH body N 0).bind fun o=>o.k fr fd)=bif l.all ok then fd l.length else fr bad:=by
 obtain ⟨o,ho,hR⟩:=C4 (body:=body) l.length (fun i s=>s=(i:Int)/\(l.take i).all ok=true) (fun o=>(l.all ok=true/\o=.done (l.length:Int))\/(l.all ok=false/\o=.ret bad)) (by
  rintro i s hi ⟨rfl,hk⟩
  by_cases h:i < l.length
  ·rw [hb i h]
   cases e:ok l[i] with
   | true=>exact .inl ⟨_,rfl,⟨rfl,by rw [List.take_add_one,List.getElem?_eq_getElem h,List.all_append,hk];simp [e]⟩,h⟩
   | false=>exact .inr ⟨_,rfl,(fun _ h=>by cases h),.inr ⟨by rw [List.all_eq_false];exact ⟨l[i],List.getElem_mem h,by rw [e];simp⟩,rfl⟩⟩
  ·have:i=l.length:=by omega
   subst this
   rw [he]
   exact .inr ⟨_,rfl,(fun _ h=>by cases h),.inl ⟨by simpa using hk,rfl⟩⟩) l.length N 0 0 (by omega) ⟨rfl,rfl⟩ hN
 rw [ho]
 rcases hR with ⟨h1,rfl⟩ | ⟨h1,rfl⟩ <;> rw [h1] <;> rfl
section
variable {N : Nat} {s : YL}
theorem B7 {i n:Nat} (h:i < n):decide ((i:Int) < (n:Int))=true:=decide_eq_true (by omega)
theorem BU {n:Nat}:decide ((n:Int) < (n:Int))=false:=decide_eq_false (by omega)
theorem QV (hs:s.length < 4611686018427387904) (hN:s.length < N):E7 N s=some (s.all isE):=by
 have hb:∀ i (h:i < s.length),C6 N s (i:Int)=some (bif isE s[i] then .next ((i + 1:Nat):Int) else .ret false):=fun i h=>by
  unfold C6
  rw [B7 h,cT,D2 h,oS,Ql,oS,Dn i (by omega),oS,LY]
  unfold isE
  cases isL s[i] <;> cases isD s[i] <;> rfl
 have he:C6 N s (s.length:Int)=some (.done (s.length:Int)):=by
  unfold C6
  rw [BU,cF]
 unfold E7
 rw [M9 (l:=s) isE false hb he hN]
 cases s.all isE <;> rfl
theorem TW:∀ s:YL,s.all (fun b=>!isL b)= !s.any isL
 | []=>rfl
 | b::s=>by rw [List.all_cons,List.any_cons,TW s];cases isL b <;> rfl
theorem OT (hs:s.length < 4611686018427387904) (hN:s.length < N):D8 N s=some (s.any isL):=by
 have hb:∀ i (h:i < s.length),Ci N s (i:Int)=some (bif (!isL s[i]) then .next ((i + 1:Nat):Int) else .ret true):=fun i h=>by
  unfold Ci
  rw [B7 h,cT,D2 h,oS,Ql,oS,Dn i (by omega)]
  cases isL s[i] <;> rfl
 have he:Ci N s (s.length:Int)=some (.done (s.length:Int)):=by
  unfold Ci
  rw [BU,cF]
 unfold D8
 rw [M9 (l:=s) (fun b=>!isL b) true hb he hN]
 rw [TW]
 cases s.any isL <;> rfl
theorem WQ (hs:s.length < 4611686018427387904) (hN:s.length < N):Ig N s=some (BK s:Int):=by
 obtain ⟨o,ho,rfl⟩:=C4 (body:=GR N s) s.length (fun i st=>st=((BK (s.take i):Int),(i:Int))) (fun o=>o=.done ((BK s:Int),(s.length:Int))) (by
  rintro i st hi rfl
  unfold GR
  simp only
  by_cases h:i < s.length
  ·rw [B7 h,cT,D2 h,oS,LY,oS,Dn i (by omega)]
   refine .inl ⟨_,rfl,?_,h⟩
   rw [List.take_add_one,List.getElem?_eq_getElem h]
   show _=(((BK (s.take i++[s[i]]):Nat):Int),_)
   rw [Qt,List.length_take,Nat.min_eq_left (by omega)]
   cases isD s[i] <;> rfl
  ·have:i=s.length:=by omega
   subst this
   rw [BU,cF,List.take_length]
   exact .inr ⟨_,rfl,(fun _ e=>by cases e),rfl⟩) s.length N 0 (0,0) (by omega) rfl hN
 unfold Ig
 rw [ho]
 rfl
def wiB (n lo hi:Nat):Bool:=decide (lo<=n)&&decide (n<=hi)
def CW (s:YL):Bool:=s.all isE&&wiB s.length 1 4&&s.any isL
def Bh (s:YL):Bool:=s.all isE&&wiB (BK s) 1 4&&(s.take (BK s)).any isL&&wiB (s.length - BK s) 1 4
def BN (s:YL):Bool:=(s.all isL&&wiB s.length 1 4)||(s.all isD&&wiB s.length 1 1)
theorem II (n lo hi:Nat):(decide (((lo:Nat):Int)<=(n:Int))&&decide ((n:Int)<=((hi:Nat):Int)))=wiB n lo hi:=by
 unfold wiB
 congr 1 <;> (rw [decide_eq_decide];omega)
theorem w14 (n:Nat):(decide ((1:Int)<=(n:Int))&&decide ((n:Int)<=(4:Int)))=wiB n 1 4:=II n 1 4
theorem w11 (n:Nat):(decide ((1:Int)<=(n:Int))&&decide ((n:Int)<=(1:Int)))=wiB n 1 1:=II n 1 1
theorem S1 (hs:s.length < 4611686018427387904) (hN:s.length < N):GE N s=some (CW s):=by
 unfold GE CW
 rw [Ih (XO N) s 4 hN,oS,w14]
 cases h:(s.all isE&&wiB s.length 1 4) with
 | false=>rfl
 | true=>
  rw [Bool.and_eq_true] at h
  obtain ⟨r,h1,h2⟩:=Uq (N:=N) (UU N) s (fun b hb=>QY (List.all_eq_true.1 h.1 b hb))
  rw [cT,h1,oS,h2]
  rfl
theorem TF (hs:s.length < 4611686018427387904) (hN:s.length < N):G6 N s=some (CW s):=by
 unfold G6 CW
 rw [QV hs hN,oS,OT hs hN,G0,w14]
 cases s.all isE <;> cases wiB s.length 1 4 <;> rfl
theorem RO (hs:s.length < 4611686018427387904) (hN:s.length < N):E1 N s=some (BN s):=by
 unfold E1 BN
 rw [Ih (UU N) s 4 hN,Ih (Tv N) s 1 hN,w14,w11]
 cases s.all isL&&wiB s.length 1 4 <;> rfl
theorem Uv:∀ {s:YL},BK s=0 ↔ s.any isD=false:=by
 intro s
 constructor
 ·intro h
  have:=Qu s
  rw [h,List.drop_zero] at this
  rw [List.any_eq_false]
  intro b hb
  rw [this b hb];simp
 ·intro h
  rcases Nat.eq_zero_or_pos (BK s) with h0 | h0
  ·exact h0
  ·obtain ⟨b,h1,h2⟩:=WE s h0
   rw [List.any_eq_false] at h
   exact absurd h2 (h b (List.mem_of_getElem? h1))
theorem Pz (s:YL):s.all isL=(s.all isE&& !s.any isD):=by
 induction s with
 | nil=>rfl
 | cons b s ih=>
  simp only [List.all_cons,List.any_cons,ih,isE]
  cases hL:isL b with
  | true=>rw [Yd hL];simp
  | false=>cases isD b <;> cases s.all isE <;> cases s.any isD <;> rfl
theorem Qk (hs:s.length < 4611686018427387904) (hN:s.length < N):Fm N s=some (BN s):=by
 unfold Fm BN
 rw [QV hs hN,G0,w14,WQ hs hN,Pz]
 have hz:((BK s:Int)==0)= !s.any isD:=by
  rw [Bool.eq_iff_iff]
  simp only [beq_iff_eq,Bool.not_eq_true',<-Uv]
  omega
 match s with
 | []=>rfl
 | [b]=>
  have e1:(([b]:YL).length:Int)==1:=rfl
  rw [e1,cT,show Hu [b] 0=some (b.toNat:Int) from rfl,oS,LY,oS,oS]
  simp only [oS,hz]
  simp only [List.all_cons,List.all_nil,List.any_cons,List.any_nil,isE,Bool.and_true,Bool.or_false]
  cases isL b <;> cases isD b <;> rfl
 | b::c::t=>
  have e1:(((b::c::t).length:Int)==1)=false:=by rw [beq_eq_false_iff_ne];simp;omega
  simp only [e1,cF,oS,hz]
  have e2:wiB (b::c::t).length 1 1=false:=by unfold wiB;simp
  rw [e2,Bool.and_false,Bool.or_false]
  cases (b::c::t).all isE <;> cases wiB (b::c::t).length 1 4 <;> cases (b::c::t).any isD <;> rfl
theorem Oi (hs:s.length < 4611686018427387904) (hN:s.length < N):EU N s=some (Bh s):=by
 have hk:=Q6 s
 unfold EU Bh
 rw [WQ hs hN,oS,QV hs hN,oS,G0,w14]
 have e1:G5 s 0 (BK s:Int)=some (s.take (BK s)):=by
  have:=Dz (a:=s) (lo:=0) (hi:=BK s) (Nat.zero_le _) hk
  simpa using this
 have e2:W64 ((s.length:Int) - (BK s:Int))=((s.length - BK s:Nat):Int):=by rw [C3 (by omega) (by omega)];omega
 rw [e1,e2,G0,w14]
 have e3:=OT (N:=N) (s:=s.take (BK s)) (by rw [List.length_take];omega) (by rw [List.length_take];omega)
 simp only [oS,e3]
 cases s.all isE <;> cases wiB (BK s) 1 4 <;> cases (s.take (BK s)).any isL <;> rfl
theorem Ve (p:Nat->Bool) (tr:Bool) (s:YL):∀ (f i:Nat),i<=s.length->Go.Lib.lastIdxFuncFrom p tr ⟨s.toArray⟩ f i= -1\/(0<=Go.Lib.lastIdxFuncFrom p tr ⟨s.toArray⟩ f i/\Go.Lib.lastIdxFuncFrom p tr ⟨s.toArray⟩ f i < (i:Int))
 | 0,_,_=>.inl rfl
 | f + 1,i,hi=>by
  unfold Go.Lib.lastIdxFuncFrom
  split
  ·rename_i h0
   have hw:=Go.Lib.decodeLastL_width (s.take i) (by rw [List.length_take];omega)
   simp only [List.toList_toArray] at *
   split
   ·exact .inr ⟨by omega,by omega⟩
   ·rcases Ve p tr s f (i - (Go.Lib.decodeLastL (s.take i)).2) (by omega) with h | h
    ·exact .inl h
    ·exact .inr ⟨h.1,by omega⟩
  ·exact .inl rfl
theorem Xh (hs:s.length < 4611686018427387904) (hN:s.length < N):∃ x y,MC N s=some (x,y,Bh s)/\(Bh s=true->x=s.take (BK s)/\y=s.drop (BK s)):=by
 have hr:∃ k:Nat,B8 N s (fun y0=>BF N y0)=some ((k:Int) - 1)/\k<=s.length/\((∀ b,b∈s->b.toNat < 128)->k=BK s):=by
  have hsz:(⟨s.toArray⟩:ByteArray).size=s.length:=by simp [ByteArray.size]
  have e:B8 N s (fun y0=>BF N y0)=some (Go.Lib.lastIdxFunc (GF fun y0=>BF N y0) true ⟨s.toArray⟩):=by
   unfold B8 Cz
   rw [if_pos ⟨(Tv N).all,by omega⟩]
   rfl
  rw [e]
  unfold Go.Lib.lastIdxFunc
  rw [hsz]
  have hrange:=Ve (GF fun y0=>BF N y0) true s s.length s.length (Nat.le_refl _)
  refine ⟨(Go.Lib.lastIdxFuncFrom (GF fun y0=>BF N y0) true ⟨s.toArray⟩ s.length s.length + 1).toNat,?_,?_,fun ha=>?_⟩
  ·exact congrArg some (by rcases hrange with h | ⟨h,_⟩ <;> omega)
  ·rcases hrange with h | ⟨h1,h2⟩
   ·omega
   ·omega
  ·have:=KW N s ha s.length s.length (Nat.le_refl _) (Nat.le_refl _)
   rw [List.take_length] at this
   omega
 obtain ⟨k,h1,h2,h3⟩:=hr
 have e1:W64 ((k:Int) - 1 + 1)=(k:Int):=by rw [C3 (by omega) (by omega)];omega
 have e2:G5 s 0 (k:Int)=some (s.take k):=by
  have:=Dz (a:=s) (lo:=0) (hi:=k) (Nat.zero_le _) h2
  simpa using this
 have e3:G5 s (k:Int) (s.length:Int)=some (s.drop k):=by
  rw [Dz h2 (Nat.le_refl _),List.take_of_length_le (by simp)]
 have e4:=S1 (N:=N) (s:=s.take k) (by rw [List.length_take];omega) (by rw [List.length_take];omega)
 have e5:=Ih (UU N) (s.drop k) 4 (N:=N) (by rw [List.length_drop];omega)
 refine ⟨s.take k,s.drop k,?_,?_⟩
 ·unfold MC
  rw [h1,oS,e1,e2,oS,e3,oS,oS,e4,oS,e5,w14]
  have hbase:(decide ((k:Int) > 0)&&(CW (s.take k)&&((s.drop k).all isL&&wiB (s.drop k).length 1 4)))=Bh s:=by
   by_cases ha:s.all isE=true
   ·have hk:k=BK s:=h3 fun b hb=>QY (List.all_eq_true.1 ha b hb)
    subst hk
    have hle:=Q6 s
    have e6:(s.take (BK s)).all isE=true:=List.all_eq_true.2 fun b hb=>List.all_eq_true.1 ha b (List.mem_of_mem_take hb)
    have e7:(s.drop (BK s)).all isL=true:=by
     rw [Pz]
     rw [Bool.and_eq_true]
     refine ⟨List.all_eq_true.2 fun b hb=>List.all_eq_true.1 ha b (List.mem_of_mem_drop hb),?_⟩
     rw [Bool.not_eq_true',List.any_eq_false]
     intro b hb
     rw [Qu s b hb];simp
    unfold CW Bh
    rw [ha,e6,e7,List.length_take,Nat.min_eq_left hle,List.length_drop]
    have e8:(decide ((BK s:Int) > 0)&&wiB (BK s) 1 4)=wiB (BK s) 1 4:=by
     unfold wiB
     cases hd:decide (1<=BK s) with
     | false=>simp
     | true=>rw [decide_eq_true (by have:=of_decide_eq_true hd;omega)];rfl
    rw [<-e8]
    cases decide ((BK s:Int) > 0) <;> cases wiB (BK s) 1 4 <;> cases (s.take (BK s)).any isL <;> rfl
   ·have ha':s.all isE=false:=by simpa using ha
    unfold CW Bh
    rw [ha']
    have e9:(s.take k).all isE=false\/(s.drop k).all isL=false:=by
     rw [<-List.take_append_drop k s,List.all_append] at ha'
     cases h5:(s.take k).all isE with
     | false=>exact .inl rfl
     | true=>
      right
      rw [h5,Bool.true_and] at ha'
      rw [Pz,ha']
      rfl
    rcases e9 with e9 | e9 <;> rw [e9] <;> simp
  rw [<-hbase]
  cases decide ((k:Int) > 0) <;> cases CW (s.take k) <;> rfl
 ·intro hb
  have ha:s.all isE=true:=by
   unfold Bh at hb
   simp only [Bool.and_eq_true] at hb
   exact hb.1.1.1
  rw [h3 fun b hb=>QY (List.all_eq_true.1 ha b hb)]
  exact ⟨rfl,rfl⟩
end
theorem S6 {α ρ τ:Type} {body:Int->Option (A9 ρ Int)} {l:List α} (f:α->Option ρ) (hb:∀ i (h:i < l.length),body (i:Int)=some ((f l[i]).elim (.next ((i + 1:Nat):Int)) .ret))
  (he:body (l.length:Int)=some (.done (l.length:Int))) {N:Nat} (hN:l.length < N) (fd:Int->Option τ) (fr:ρ->Option τ):((AH body N 0).bind fun o=>o.k fr fd)=(l.findSome? f).elim (fd l.length) fr:=by
 obtain ⟨o,ho,hR⟩:=C4 (body:=body) l.length (fun i s=>s=(i:Int)/\l.findSome? f=(l.drop i).findSome? f) (fun o=>(l.findSome? f=none/\o=.done (l.length:Int))\/ ∃ r,l.findSome? f=some r/\o=.ret r) (by
  rintro i s hi ⟨rfl,hk⟩
  by_cases h:i < l.length
  ·rw [hb i h]
   rw [List.drop_eq_getElem_cons h,List.findSome?_cons] at hk
   cases e:f l[i] with
   | some r=>rw [e] at hk;exact .inr ⟨_,rfl,(fun _ h=>by cases h),.inr ⟨r,hk,rfl⟩⟩
   | none=>rw [e] at hk;exact .inl ⟨_,rfl,⟨rfl,hk⟩,h⟩
  ·have:i=l.length:=by omega
   subst this
   rw [he]
   rw [List.drop_length] at hk
   exact .inr ⟨_,rfl,(fun _ h=>by cases h),.inl ⟨hk,rfl⟩⟩) l.length N 0 0 (by omega) ⟨rfl,by rw [List.drop_zero]⟩ hN
 rw [ho]
 rcases hR with ⟨h1,rfl⟩ | ⟨r,h1,rfl⟩ <;> rw [h1] <;> rfl
theorem ON (c:UInt8):∀ s p,p∈pcs c s->p.length<=s.length
 | [],p,h=>by simp [pcs] at h;subst h;simp
 | b::s,p,h=>by
  have ih:=ON c s
  unfold pcs at h
  by_cases hb:b=c
  ·rw [if_pos hb] at h
   rcases List.mem_cons.1 h with rfl | h
   ·simp
   ·exact Nat.le_succ_of_le (ih p h)
  ·rw [if_neg hb] at h
   cases hp:pcs c s with
   | nil=>exact absurd hp (G7 c s)
   | cons q r=>
    rw [hp] at h ih
    simp only at h
    rcases List.mem_cons.1 h with rfl | h
    ·exact Nat.succ_le_succ (ih q List.mem_cons_self)
    ·exact Nat.le_succ_of_le (ih p (List.mem_cons_of_mem _ h))
def zp:BC:={Area:=[],Prefix:=[],Suffix:=[],Stroke:=[]}
abbrev Tri:=YL×YL×YL
def H9 (ws:List YL):Option Tri:=match ws with
 | [w]=>if Bh w then some ([],w,[]) else none
 | [a,b]=>if CW a&&Bh b&&decide (a.length < b.length) then some (a,b,[]) else if Bh a&&BN b then some ([],a,b) else none
 | [a,b,c]=>if CW a&&Bh b&&BN c then some (a,b,c) else none
 | _=>none
def callB (s:YL):Option Tri:=if s.length<=16 then H9 (pcs 47 s) else none
def TB (t:Tri):BC:={Area:=t.1,Prefix:=t.2.1.take (BK t.2.1),Suffix:=t.2.1.drop (BK t.2.1),Stroke:=t.2.2}
def Sy (s:YL):BC×Bool:=match callB s with
 | some t=>(TB t,true)
 | none=>(zp,false)
section
variable {N : Nat}
theorem L1 {w:YL} (hs:w.length < 4611686018427387904) (hN:w.length < N):∃ x y,AK N w=some ({Area:=[],Prefix:=x,Suffix:=y,Stroke:=[]},Bh w)/\(Bh w=true->x=w.take (BK w)/\y=w.drop (BK w)):=by
 obtain ⟨x,y,h1,h2⟩:=Xh hs hN
 exact ⟨x,y,by unfold AK;rw [h1];rfl,h2⟩
theorem XB {w:YL} {z0:YL->Option (BC×Bool)} {p:BC} {ok:Bool} (h1:z0 w=some (p,ok)):Ek N [w] z0=some (p,ok):=by
 unfold Ek
 have i0:idx [w] 0=some w:=rfl
 simp only [i0,oS,h1]
theorem XA {a b:YL} {z0:YL->Option (BC×Bool)} {x y u v:YL} {A ok:Bool} (h1:z0 b=some ({Area:=u,Prefix:=x,Suffix:=y,Stroke:=v},ok)) (h3:GE N a=some A):Ej N [a,b] z0=some ({Area:=a,Prefix:=x,Suffix:=y,Stroke:=v},ok&&A&&decide (a.length < b.length)):=by
 unfold Ej
 have e:decide ((a.length:Int) < (b.length:Int))=decide (a.length < b.length):=by rw [decide_eq_decide];omega
 have i0:idx [a,b] 0=some a:=rfl
 have i1:idx [a,b] 1=some b:=rfl
 rw [i0,i1]
 simp only [oS,h1,h3]
 clear h1 h3
 rw [e]
 generalize decide (a.length < b.length)=D
 cases ok <;> cases A <;> rfl
theorem Xz {a b:YL} {z0:YL->Option (BC×Bool)} {x y u v:YL} {A ok:Bool} (h1:z0 a=some ({Area:=u,Prefix:=x,Suffix:=y,Stroke:=v},ok)) (h3:E1 N b=some A):Ei N [a,b] z0=some ({Area:=u,Prefix:=x,Suffix:=y,Stroke:=b},ok&&A):=by
 unfold Ei
 have i0:idx [a,b] 0=some a:=rfl
 have i1:idx [a,b] 1=some b:=rfl
 rw [i0,i1]
 simp only [oS,h1,h3]
 clear h1 h3
 cases ok <;> cases A <;> rfl
theorem Xy {a b c:YL} {z0:YL->Option (BC×Bool)} {x y u v:YL} {A B ok:Bool} (h1:z0 b=some ({Area:=u,Prefix:=x,Suffix:=y,Stroke:=v},ok)) (h3:GE N a=some A) (h4:E1 N c=some B):Eh N [a,b,c] z0=some ({Area:=a,Prefix:=x,Suffix:=y,Stroke:=c},ok&&A&&B):=by
 unfold Eh
 have i0:idx [a,b,c] 0=some a:=rfl
 have i1:idx [a,b,c] 1=some b:=rfl
 have i2:idx [a,b,c] 2=some c:=rfl
 rw [i0,i1,i2]
 simp only [oS,h1,h3,h4]
 clear h1 h3 h4
 cases ok <;> cases A <;> cases B <;> rfl
theorem Wv {w:YL} (hs:w.length<=16) (hN:16 < N):∃ x y,Ek N [w] (fun y0=>AK N y0)=some ({Area:=[],Prefix:=x,Suffix:=y,Stroke:=[]},Bh w)/\(Bh w=true->x=w.take (BK w)/\y=w.drop (BK w)):=by
 obtain ⟨x,y,h1,h2⟩:=L1 (w:=w) (N:=N) (by omega) (by omega)
 exact ⟨x,y,XB (z0:=fun y0=>AK N y0) h1,h2⟩
theorem Wu {a b:YL} (ha:a.length<=16) (hb:b.length<=16) (hN:16 < N):∃ x y,Ej N [a,b] (fun y0=>AK N y0)=some ({Area:=a,Prefix:=x,Suffix:=y,Stroke:=[]},Bh b&&CW a&&decide (a.length < b.length))/\(Bh b=true->x=b.take (BK b)/\y=b.drop (BK b)):=by
 obtain ⟨x,y,h1,h2⟩:=L1 (w:=b) (N:=N) (by omega) (by omega)
 exact ⟨x,y,XA (z0:=fun y0=>AK N y0) h1 (S1 (N:=N) (s:=a) (by omega) (by omega)),h2⟩
theorem Wt {a b:YL} (ha:a.length<=16) (hb:b.length<=16) (hN:16 < N):∃ x y,Ei N [a,b] (fun y0=>AK N y0)=some ({Area:=[],Prefix:=x,Suffix:=y,Stroke:=b},Bh a&&BN b)/\(Bh a=true->x=a.take (BK a)/\y=a.drop (BK a)):=by
 obtain ⟨x,y,h1,h2⟩:=L1 (w:=a) (N:=N) (by omega) (by omega)
 exact ⟨x,y,Xz (z0:=fun y0=>AK N y0) h1 (RO (N:=N) (s:=b) (by omega) (by omega)),h2⟩
theorem Ws {a b c:YL} (ha:a.length<=16) (hb:b.length<=16) (hc:c.length<=16) (hN:16 < N):∃ x y,Eh N [a,b,c] (fun y0=>AK N y0)=some ({Area:=a,Prefix:=x,Suffix:=y,Stroke:=c},Bh b&&CW a&&BN c)/\(Bh b=true->x=b.take (BK b)/\y=b.drop (BK b)):=by
 obtain ⟨x,y,h1,h2⟩:=L1 (w:=b) (N:=N) (by omega) (by omega)
 exact ⟨x,y,Xy (z0:=fun y0=>AK N y0) h1 (S1 (N:=N) (s:=a) (by omega) (by omega)) (RO (N:=N) (s:=c) (by omega) (by omega)),h2⟩
def Sr (ws:List YL) (fm:B0):Option (BC×Bool):=if fm.words_=(ws.length:Int) then match fm.split_ ws with
 | some (p,true)=>some (p,true)
 | _=>none
 else none
theorem Sx {s:YL} {ws:List YL} (hle:∀ w,w∈ws->w.length<=16) (hN:4 < N) (f2 f3 f4 f5:List YL->Option (BC×Bool))
  (H2:∀ w:YL,w.length<=16->∃ x y,f2 [w]=some ({Area:=[],Prefix:=x,Suffix:=y,Stroke:=[]},Bh w)/\(Bh w=true->x=w.take (BK w)/\y=w.drop (BK w)))
  (H3:∀ a b:YL,a.length<=16->b.length<=16->∃ x y,f3 [a,b]=some ({Area:=a,Prefix:=x,Suffix:=y,Stroke:=[]},Bh b&&CW a&&decide (a.length < b.length))/\(Bh b=true->x=b.take (BK b)/\y=b.drop (BK b)))
  (H4:∀ a b:YL,a.length<=16->b.length<=16->∃ x y,f4 [a,b]=some ({Area:=[],Prefix:=x,Suffix:=y,Stroke:=b},Bh a&&BN b)/\(Bh a=true->x=a.take (BK a)/\y=a.drop (BK a)))
  (H5:∀ a b c:YL,a.length<=16->b.length<=16->c.length<=16->∃ x y,f5 [a,b,c]=some ({Area:=a,Prefix:=x,Suffix:=y,Stroke:=c},Bh b&&CW a&&BN c)/\(Bh b=true->x=b.take (BK b)/\y=b.drop (BK b))):
  ((AH (Dy N s ws [({words_:=1,split_:=f2}:B0),{words_:=2,split_:=f3},{words_:=2,split_:=f4},{words_:=3,split_:=f5}]) N 0).bind fun o=>o.k (fun r=>some r) (fun _=>some (zp,false)))=some (match H9 ws with | some t=>(TB t,true) | none=>(zp,false)):=by
 generalize hF:([_,_,_,_]:List B0)=F
 have htot:∀ fm,fm∈F->fm.words_=(ws.length:Int)->∃ r,fm.split_ ws=some r:=by
  subst hF
  intro fm hfm hw
  simp only [List.mem_cons,List.not_mem_nil,or_false] at hfm
  rcases hfm with rfl | rfl | rfl | rfl <;> simp only at hw ⊢
  ·match ws,hw with
   | [w],_=>obtain ⟨_,_,h,_⟩:=H2 w (hle w (by simp));exact ⟨_,h⟩
  ·match ws,hw with
   | [a,b],_=>obtain ⟨_,_,h,_⟩:=H3 a b (hle a (by simp)) (hle b (by simp));exact ⟨_,h⟩
  ·match ws,hw with
   | [a,b],_=>obtain ⟨_,_,h,_⟩:=H4 a b (hle a (by simp)) (hle b (by simp));exact ⟨_,h⟩
  ·match ws,hw with
   | [a,b,c],_=>obtain ⟨_,_,h,_⟩:=H5 a b c (hle a (by simp)) (hle b (by simp)) (hle c (by simp));exact ⟨_,h⟩
 have hlen:F.length=4:=by subst hF;rfl
 have hb:∀ i (h:i < F.length),Dy N s ws F (i:Int)=some ((Sr ws F[i]).elim (.next ((i + 1:Nat):Int)) .ret):=by
  intro i h
  unfold Dy
  have hi:idx F (i:Int)=some F[i]:=by unfold idx;rw [if_pos (by omega)];simp [h]
  rw [B7 h,cT,hi,oS,Dn i (by omega)]
  have htt:=htot _ (List.getElem_mem h)
  generalize F[i]=fm at htt
  unfold Sr
  by_cases hw:fm.words_=(ws.length:Int)
  ·obtain ⟨⟨p,ok⟩,hr⟩:=htt hw
   rw [if_pos hw,show (fm.words_ !=(ws.length:Int))=false by simp [hw],cF,hr]
   cases ok <;> rfl
  ·rw [if_neg hw,show (fm.words_ !=(ws.length:Int))=true by simp [hw],cT]
   rfl
 have he:Dy N s ws F (F.length:Int)=some (.done (F.length:Int)):=by
  unfold Dy
  rw [BU,cF]
 rw [S6 (l:=F) (Sr ws) hb he (by omega)]
 subst hF
 match ws,hle with
 | [],_=>rfl
 | [w],hle=>
  obtain ⟨x,y,h1,h2⟩:=H2 w (hle w (by simp))
  unfold H9
  have e:(([w]:List YL).length:Int)=1:=rfl
  simp only [List.findSome?_cons,List.findSome?_nil,Sr,e,h1]
  cases hB:Bh w with
  | false=>rfl
  | true=>obtain ⟨rfl,rfl⟩:=h2 hB;rfl
 | [a,b],hle=>
  have ha:=hle a (by simp)
  have hb:=hle b (by simp)
  obtain ⟨x,y,h1,h2⟩:=H3 a b ha hb
  obtain ⟨x',y',h3,h4⟩:=H4 a b ha hb
  unfold H9
  have e:(([a,b]:List YL).length:Int)=2:=rfl
  simp only [List.findSome?_cons,List.findSome?_nil,Sr,e,h1,h3]
  clear h1 h3 H2 H3 H4 H5 htot hlen hb he
  generalize decide (a.length < b.length)=D
  generalize CW a=A
  generalize BN b=S
  cases hB:Bh b with
  | false=>
   cases hA:Bh a with
   | false=>cases A <;> cases D <;> rfl
   | true=>
    obtain ⟨rfl,rfl⟩:=h4 hA
    cases A <;> cases D <;> cases S <;> rfl
  | true=>
   obtain ⟨rfl,rfl⟩:=h2 hB
   cases hA:Bh a with
   | false=>cases A <;> cases D <;> rfl
   | true=>
    obtain ⟨rfl,rfl⟩:=h4 hA
    cases A <;> cases D <;> cases S <;> rfl
 | [a,b,c],hle=>
  have ha:=hle a (by simp)
  have hb:=hle b (by simp)
  have hc:=hle c (by simp)
  obtain ⟨x,y,h1,h2⟩:=H5 a b c ha hb hc
  unfold H9
  have e:(([a,b,c]:List YL).length:Int)=3:=rfl
  simp only [List.findSome?_cons,List.findSome?_nil,Sr,e,h1]
  clear h1 H2 H3 H4 H5 htot hlen hb he
  generalize CW a=A
  generalize BN c=S
  cases hB:Bh b with
  | false=>cases A <;> cases S <;> rfl
  | true=>
   obtain ⟨rfl,rfl⟩:=h2 hB
   cases A <;> cases S <;> rfl
 | a::b::c::d::t,_=>
  unfold H9
  have e:∀ k:Int,k<=3->¬ k=((a::b::c::d::t).length:Int):=by intro k hk;simp only [List.length_cons];omega
  simp only [List.findSome?_cons,List.findSome?_nil,Sr,if_neg (e 1 (by decide)),if_neg (e 2 (by decide)),if_neg (e 3 (by decide))]
  rfl
theorem Wp (s:YL) (hN:4294967300 < N):Kz N s=some (Sy s):=by
 unfold Kz Sy callB
 by_cases hl:s.length<=16
 ·rw [decide_eq_false (by omega),cF,if_pos hl,Oj 47 (by omega),oS]
  have hle:=ON 47 s
  generalize pcs 47 s=ws at hle
  unfold Nv
  rw [oS]
  exact Sx (fun w h=>Nat.le_trans (hle w h) hl) (by omega) _ _ _ _ (fun w h=>Wv h (by omega)) (fun a b h h'=>Wu h h' (by omega)) (fun a b h h'=>Wt h h' (by omega)) (fun a b c h h' h''=>Ws h h' h'' (by omega))
 ·rw [decide_eq_true (by omega),cT,if_neg hl]
  rfl
def W5 (s:YL):YL×YL×YL×Bool:=match callB s with
 | some t=>(t.1,t.2.1,t.2.2,true)
 | none=>([],[],[],false)
theorem U6 (s:YL) (hN:4294967300 < N):HB N s=some (W5 s):=by
 unfold HB W5 callB
 by_cases hl:s.length<=16
 ·rw [decide_eq_false (by omega),cF,if_pos hl,Uj s (by omega) (by omega),oS]
  have hle:=ON 47 s
  generalize pcs 47 s=ws at hle
  match ws,hle with
  | [],_=>rfl
  | [w],hle=>
   have hw:=hle w (by simp)
   have h1:=Oi (N:=N) (s:=w) (by omega) (by omega)
   simp only [show ((([w]:List YL).length:Int)==1)=true from rfl,show ((([w]:List YL).length:Int)==2)=false from rfl,show ((([w]:List YL).length:Int)==3)=false from rfl,cT,cF,show idx [w] 0=some w from rfl,oS,h1,H9]
   cases Bh w <;> rfl
  | [a,b],hle=>
   have ha:=hle a (by simp)
   have hb:=hle b (by simp)
   have h1:=Oi (N:=N) (s:=a) (by omega) (by omega)
   have h2:=Oi (N:=N) (s:=b) (by omega) (by omega)
   have h3:=TF (N:=N) (s:=a) (by omega) (by omega)
   have h4:=Qk (N:=N) (s:=b) (by omega) (by omega)
   have e:decide ((a.length:Int) < (b.length:Int))=decide (a.length < b.length):=by rw [decide_eq_decide];omega
   simp only [show ((([a,b]:List YL).length:Int)==1)=false from rfl,show ((([a,b]:List YL).length:Int)==2)=true from rfl,show ((([a,b]:List YL).length:Int)==3)=false from rfl,cT,cF,show idx [a,b] 0=some a from rfl,show idx [a,b] 1=some b from rfl,oS,h1,h2,h3,h4,e,H9]
   cases CW a <;> cases Bh b <;> cases decide (a.length < b.length) <;> cases Bh a <;> cases BN b <;> rfl
  | [a,b,c],hle=>
   have ha:=hle a (by simp)
   have hb:=hle b (by simp)
   have hc:=hle c (by simp)
   have h2:=Oi (N:=N) (s:=b) (by omega) (by omega)
   have h3:=TF (N:=N) (s:=a) (by omega) (by omega)
   have h4:=Qk (N:=N) (s:=c) (by omega) (by omega)
   simp only [show ((([a,b,c]:List YL).length:Int)==1)=false from rfl,show ((([a,b,c]:List YL).length:Int)==2)=false from rfl,show ((([a,b,c]:List YL).length:Int)==3)=true from rfl,cT,cF,show idx [a,b,c] 0=some a from rfl,show idx [a,b,c] 1=some b from rfl,show idx [a,b,c] 2=some c from rfl,oS,h2,h3,h4,H9]
   cases CW a <;> cases Bh b <;> cases BN c <;> rfl
  | a::b::c::d::t,_=>
   have e:∀ k:Int,k<=3->(((a::b::c::d::t).length:Int)==k)=false:=by intro k hk;rw [beq_eq_false_iff_ne];simp;omega
   simp only [e 1 (by decide),e 2 (by decide),e 3 (by decide),cF,oS,H9]
 ·rw [decide_eq_true (by omega),cT,if_neg hl]
end
section
open Go.Lib (decDigits)
def Ju (a:Nat) (l:YL):Nat:=l.foldl (fun a b=>10 * a + (b.toNat - 48)) a
def En (l:YL):Nat:=Ju 0 l
theorem Ii (a:Nat) (b:UInt8) (l:YL):Ju a (b::l)=Ju (10 * a + (b.toNat - 48)) l:=by unfold Ju;rw [List.foldl_cons]
theorem Uf (a:Nat) (l:YL) (b:UInt8):Ju a (l++[b])=10 * Ju a l + (b.toNat - 48):=by unfold Ju;rw [List.foldl_append];rfl
theorem ML (l:YL) (b:UInt8):En (l++[b])=10 * En l + (b.toNat - 48):=Uf 0 l b
theorem Wz {b:UInt8} (h:isD b=true):48<=b.toNat/\b.toNat<=57:=by
 unfold isD at h
 simpa only [Bool.and_eq_true,decide_eq_true_eq] using h
theorem Wl (l:YL):∀ (a k:Nat),l.all isD=true->a < 10 ^ k->Ju a l < 10 ^ (k + l.length):=by
 induction l with
 | nil=>intro a k _ h;exact h
 | cons b l ih=>
  intro a k hd h
  rw [Ii]
  simp only [List.all_cons,Bool.and_eq_true] at hd
  have hb:=Wz hd.1
  have hp:10 ^ (k + 1)=10 ^ k * 10:=Nat.pow_succ ..
  have:=ih (10 * a + (b.toNat - 48)) (k + 1) hd.2 (by omega)
  rw [List.length_cons,show k + (l.length + 1)=k + 1 + l.length by omega]
  exact this
theorem QS {l:YL} (h:l.all isD=true):En l < 10 ^ l.length:=by
 have:=Wl l 0 0 h (by decide)
 simpa [En] using this
theorem dig {b:UInt8} (h:isD b=true):Go.Lib.digitVal b=some (b.toNat - 48):=by
 unfold isD at h
 simp only [Bool.and_eq_true,decide_eq_true_eq] at h
 unfold Go.Lib.digitVal
 rw [if_pos h]
theorem Ma:∀ (l:YL) (a:Nat),l.all isD=true->Go.Lib.decFrom a l=some (Ju a l)
 | [],a,_=>rfl
 | b::l,a,h=>by
  simp only [List.all_cons,Bool.and_eq_true] at h
  unfold Go.Lib.decFrom
  rw [dig h.1,Ii,Nat.mul_comm 10 a]
  exact Ma l _ h.2
theorem Py {l:YL} (h:l.all isD=true) (hn:1<=l.length):Go.Lib.atoi l=some (En l:Int):=by
 match l,h,hn with
 | b::r,h,_=>
  have hb:=h
  simp only [List.all_cons,Bool.and_eq_true] at hb
  have h1:(b==45)=false:=by rw [beq_eq_false_iff_ne];rintro rfl;exact absurd hb.1 (by decide)
  have h2:(b==43)=false:=by rw [beq_eq_false_iff_ne];rintro rfl;exact absurd hb.1 (by decide)
  unfold Go.Lib.atoi
  simp only [h1,h2,Bool.false_eq_true,if_false]
  unfold Go.Lib.decNat
  simp only [List.isEmpty_cons,Bool.false_eq_true,if_false]
  rw [Ma _ _ h]
  rfl
def EW (s:YL):Bool:=s.all isD&&wiB s.length 1 9
def CC (s:YL):Int:=if EW s=true then (En s:Int) else -1
theorem QP {k:Nat} (h:k<=9):10 ^ k<=1000000000:=Nat.le_trans (Nat.pow_le_pow_right (by decide) h) (by decide)
theorem HD {s:YL} (h:EW s=true):En s < 1000000000/\1<=s.length/\s.length<=9/\s.all isD=true:=by
 unfold EW wiB at h
 simp only [Bool.and_eq_true,decide_eq_true_eq] at h
 exact ⟨Nat.lt_of_lt_of_le (QS h.1) (QP h.2.2),h.2.1,h.2.2,h.1⟩
section
variable {N : Nat} {s : YL}
theorem OS (hN:s.length < N):Cy N s=some (CC s):=by
 unfold Cy CC
 rw [Ih (Tv N) s 9 hN,oS,show (decide ((1:Int)<=(s.length:Int))&&decide ((s.length:Int)<=(9:Int)))=wiB s.length 1 9 from II _ 1 9]
 have e:(s.all isD&&wiB s.length 1 9)=EW s:=rfl
 rw [e]
 cases h:EW s with
 | false=>rfl
 | true=>
  have hl:=HD h
  rw [Bool.not_true,cF,if_pos rfl]
  unfold Cr
  rw [if_pos (by omega),Go.Lib.atoiAll_short s (by omega),Py hl.2.2.2 hl.2.1]
  rfl
theorem WK {b:UInt8} (h:isD b=true):W64 (IntKind.u8.wrap ((b.toNat:Int) - 48))=((b.toNat - 48:Nat):Int):=by
 unfold isD at h
 simp only [Bool.and_eq_true,decide_eq_true_eq] at h
 have e:IntKind.u8.wrap ((b.toNat:Int) - 48)=((b.toNat - 48:Nat):Int):=by
  unfold IntKind.wrap
  simp [IntKind.bits,IntKind.signed]
  omega
 rw [e,C3 (by omega) (by omega)]
theorem MM (hN:s.length < N):Bp N s=some (CC s):=by
 unfold Bp CC
 by_cases hw:1<=s.length/\s.length<=9
 ·rw [decide_eq_false (by omega),decide_eq_false (by omega),Bool.or_false,cF]
  obtain ⟨o,ho,hR⟩:=C4 (body:=DD N s) s.length (fun i st=>st=((En (s.take i):Int),(i:Int))/\(s.take i).all isD=true)
   (fun o=>(s.all isD=true/\ ∃ j,o=.done ((En s:Int),j))\/(s.all isD=false/\o=.ret (-1))) (by
    rintro i st hi ⟨rfl,hall⟩
    by_cases h:i < s.length
    ·have htake:s.take (i + 1)=s.take i++[s[i]]:=by rw [List.take_add_one,List.getElem?_eq_getElem h];rfl
     unfold DD
     simp only [B7 h,cT,D2 h,oS,LY]
     cases hd:isD s[i] with
     | false=>
      refine .inr ⟨.ret (-1),rfl,(fun _ e=>by cases e),.inr ⟨?_,rfl⟩⟩
      rw [List.all_eq_false];exact ⟨s[i],List.getElem_mem h,by rw [hd];simp⟩
     | true=>
      have hlt:En (s.take i) < 1000000000:=Nat.lt_of_lt_of_le (QS hall) (QP (by rw [List.length_take];omega))
      refine .inl ⟨_,by simp only [Bool.not_true,cF,WK hd];rfl,⟨?_,?_⟩,h⟩
      ·have:=s[i].toNat_lt
       rw [htake,ML,Dn i (by omega),C3 (n:=10 * (En (s.take i):Int)) (by omega) (by omega)]
       rw [C3 (by omega) (by omega)]
       congr 1
      ·rw [htake,List.all_append,hall];simp [hd]
    ·have:i=s.length:=by omega
     subst this
     unfold DD
     simp only [BU,cF]
     rw [List.take_length] at hall ⊢
     exact .inr ⟨_,rfl,(fun _ e=>by cases e),.inl ⟨hall,_,rfl⟩⟩) s.length N 0 (0,0) (by omega) ⟨rfl,rfl⟩ hN
  rw [ho]
  have e:EW s=s.all isD:=by unfold EW wiB;rw [decide_eq_true hw.1,decide_eq_true hw.2];simp
  rw [e]
  rcases hR with ⟨h1,j,rfl⟩ | ⟨h1,rfl⟩
  ·rw [h1];rfl
  ·rw [h1];rfl
 ·have hg:(decide ((s.length:Int) < 1)||decide ((s.length:Int) > 9))=true:=by
   simp only [Bool.or_eq_true,decide_eq_true_eq];omega
  rw [hg,cT]
  have:EW s=false:=by
   cases hh:EW s with
   | false=>rfl
   | true=>have:=HD hh;omega
  rw [this];rfl
end
def Jh (d:Nat):UInt8:=UInt8.ofNat (48 + d)
theorem JX {d:Nat} (h:d < 10):(Jh d).toNat=48 + d:=by unfold Jh;rw [UInt8.toNat_ofNat'];omega
theorem TQ {d:Nat} (h:d < 10):isD (Jh d)=true:=by unfold isD;rw [JX h];simp;omega
theorem He {u:Nat} (h:u < 10):decDigits u=[Jh u]:=by rw [decDigits,dif_pos h];rfl
theorem O7 {u:Nat} (h:¬ u < 10):decDigits u=decDigits (u / 10)++[Jh (u % 10)]:=by
 conv=>lhs;rw [decDigits,dif_neg h]
 rfl
theorem Ln (u:Nat):1<=(decDigits u).length:=by
 by_cases h:u < 10
 ·rw [He h];simp
 ·rw [O7 h];simp
theorem IZ (u:Nat):(decDigits u).all isD=true:=by
 induction u using Nat.strongRecOn with
 | _ u ih=>
  by_cases h:u < 10
  ·rw [He h];simp [TQ h]
  ·rw [O7 h,List.all_append,ih (u / 10) (by omega)]
   simp [TQ (Nat.mod_lt u (by decide:0 < 10))]
theorem Lp (u:Nat):En (decDigits u)=u:=by
 induction u using Nat.strongRecOn with
 | _ u ih=>
  by_cases h:u < 10
  ·rw [He h]
   show 10 * 0 + ((Jh u).toNat - 48)=u
   rw [JX h];omega
  ·rw [O7 h,ML,ih (u / 10) (by omega),JX (Nat.mod_lt u (by decide:0 < 10))];omega
theorem HV:∀ (k u:Nat),u < 10 ^ (k + 1)->(decDigits u).length<=k + 1
 | 0,u,h=>by rw [He (by simpa using h)];simp
 | k + 1,u,h=>by
  by_cases hu:u < 10
  ·rw [He hu];simp
  ·rw [O7 hu,List.length_append]
   have:=HV k (u / 10) (by rw [Nat.pow_succ] at h;omega)
   simp;omega
def dP (k u:Nat):YL:=List.replicate (k - (decDigits u).length) 48++decDigits u
theorem XE (u:Nat):dP 1 u=decDigits u:=by unfold dP;rw [show 1 - (decDigits u).length=0 by have:=Ln u;omega];rfl
theorem JW (k u:Nat):(dP k u).all isD=true:=by
 unfold dP
 rw [List.all_append,IZ,Bool.and_true,List.all_eq_true]
 intro b hb
 rw [List.eq_of_mem_replicate hb];decide
theorem S0 (j:Nat) (l:YL):Ju 0 (List.replicate j 48++l)=Ju 0 l:=by
 induction j with
 | zero=>rfl
 | succ j ih=>rw [List.replicate_succ,List.cons_append,Ii];exact ih
theorem Tc (k u:Nat):En (dP k u)=u:=by
 unfold dP En
 rw [S0]
 exact Lp u
theorem O8 (k u:Nat):k<=(dP k u).length/\1<=(dP k u).length:=by
 unfold dP
 have:=Ln u
 rw [List.length_append,List.length_replicate]
 omega
theorem JV {k j u:Nat} (h:u < 10 ^ (j + 1)):(dP k u).length<=max k (j + 1):=by
 unfold dP
 have:=HV j u h
 rw [List.length_append,List.length_replicate]
 omega
theorem Ts:∀ n,Go.Lib.repeatL [48] n=List.replicate n 48
 | 0=>rfl
 | n + 1=>by unfold Go.Lib.repeatL;rw [Ts n];rfl
section
variable {N : Nat}
theorem OU (u:Nat) (h:u<=1000000000):strconv_Itoa N (u:Int)=some (decDigits u):=by
 unfold strconv_Itoa
 rw [if_pos (by omega),Go.Lib.itoa_nonneg]
theorem OR (u k:Nat) (h:u<=1000000000) (hk:k<=100):Cb N (u:Int) (k:Int)=some (dP k u):=by
 unfold Cb
 rw [OU u h,oS]
 have hl:(decDigits u).length<=10:=HV 9 u (by omega)
 rw [C3 (by omega) (by omega)]
 have e:max (0:Int) ((k:Int) - ((decDigits u).length:Int))=((k - (decDigits u).length:Nat):Int):=by omega
 rw [e]
 unfold strings_Repeat
 rw [if_pos (by simp;omega),oS,Int.toNat_natCast,Ts]
 rw [AW (by simp;omega)]
 rfl
def NR (k u:Nat):YL:=if h:u=0 then List.replicate k 48 else NR (k - 1) (u / 10)++[Jh (u % 10)]
termination_by u
decreasing_by omega
theorem V6 (k u:Nat) (h:1<=k\/1<=u):NR k u=dP k u:=by
 induction u using Nat.strongRecOn generalizing k with
 | _ u ih=>
  by_cases h0:u=0
  ·subst h0
   rw [NR,dif_pos rfl]
   unfold dP
   rw [He (by decide)]
   have e:k=(k - 1) + 1:=by omega
   conv=>lhs;rw [e,List.replicate_succ']
   rfl
  ·rw [NR,dif_neg h0]
   by_cases h1:u < 10
   ·rw [show u / 10=0 by omega,show u % 10=u by omega,NR,dif_pos rfl]
    unfold dP
    rw [He h1];rfl
   ·rw [ih (u / 10) (by omega) (k - 1) (by omega)]
    unfold dP
    rw [O7 h1,List.length_append,<-List.append_assoc]
    congr 3
    simp;omega
theorem R8 (d:Nat) (h:d < 10):G5 ([48,49,50,51,52,53,54,55,56,57]:YL) (d:Int) (((d + 1:Nat)):Int)=some [Jh d]:=by
 rw [Dz (by omega) (by simp;omega)]
 have:∀ d:Fin 10,(([48,49,50,51,52,53,54,55,56,57]:YL).drop d.val).take (d.val + 1 - d.val)=[Jh d.val]:=by decide
 rw [this ⟨d,h⟩]
theorem T8 {k u:Nat} (h:1<=k\/1<=u):NR k u=NR (k - 1) (u / 10)++[Jh (u % 10)]:=by
 by_cases h0:u=0
 ·subst h0
  have e:k=(k - 1) + 1:=by omega
  rw [NR,dif_pos rfl,NR,dif_pos rfl]
  conv=>lhs;rw [e,List.replicate_succ']
  rfl
 ·rw [NR,dif_neg h0]
theorem OV (x:Int) (k:Nat) (hk:k<=100):∀ (m u:Nat) (acc:YL),u<=1000000000->acc.length + (k - acc.length) + u < 100000000000->u + (k - acc.length) < m->
  AH (Ca N x (k:Int)) m ((u:Int),acc)=some (.done (0,NR (k - acc.length) u++acc)):=by
 intro m
 induction m with
 | zero=>intro u acc _ _ h;omega
 | succ m ih=>
  intro u acc hu hb hm
  unfold AH
  by_cases h0:u=0/\k<=acc.length
  ·obtain ⟨rfl,h0⟩:=h0
   have e:Ca N x (k:Int) (((0:Nat):Int),acc)=some (.done (0,acc)):=by
    unfold Ca
    rw [show (decide ((((0:Nat):Int),acc).1 > 0)||decide (((((0:Nat):Int),acc).2.length:Int) < (k:Int)))=false by rw [decide_eq_false (by simp),decide_eq_false (by simp;omega)];rfl,cF]
    rfl
   rw [e,NR,dif_pos rfl,show k - acc.length=0 by omega];rfl
  ·have e:Ca N x (k:Int) ((u:Int),acc)=some (.next (((u / 10:Nat):Int),Jh (u % 10)::acc)):=by
    unfold Ca
    have hc:(decide (((u:Int),acc).1 > 0)||decide ((((u:Int),acc).2.length:Int) < (k:Int)))=true:=by
     simp only [Bool.or_eq_true,decide_eq_true_eq];omega
    rw [hc,cT]
    simp only
    have e1:Int.tmod (u:Int) 10=((u % 10:Nat):Int):=by rw [Int.tmod_eq_emod_of_nonneg (by omega)];omega
    have e2:Int.tdiv (u:Int) 10=((u / 10:Nat):Int):=by rw [Int.tdiv_eq_ediv_of_nonneg (by omega)];omega
    rw [e1,e2,Dn (u % 10) (by omega),R8 _ (Nat.mod_lt u (by decide)),oS,AW (by simp;omega),oS,C3 (by omega) (by omega)]
    rfl
   rw [e]
   show AH _ m _=_
   rw [ih (u / 10) (Jh (u % 10)::acc) (by omega) (by simp only [List.length_cons];omega) (by simp only [List.length_cons];omega)]
   rw [T8 (k:=k - acc.length) (u:=u) (by omega),List.length_cons,List.append_assoc,show k - (acc.length + 1)=k - acc.length - 1 by omega]
   rfl
theorem Ks (u k:Nat) (h:u<=1000000000) (hk:k<=100) (h1:1<=k) (hN:4294967300 < N):Ba N (u:Int) (k:Int)=some (dP k u):=by
 unfold Ba
 rw [OV (u:Int) k hk N u [] h (by simp;omega) (by simp;omega)]
 rw [List.length_nil,Nat.sub_zero,List.append_nil,V6 k u (.inl h1)]
 rfl
end
end
section
open Go.Lib (decDigits)
def E5 (u:Nat):YL:=decDigits (u / 1440 + 1)++32::(dP 2 (u / 60 % 24)++dP 2 (u % 60))
def CE (x:Int):YL×Int:=if 0<=x/\x<=20000 then (E5 x.toNat,0) else ([],1)
theorem Rr (u k:Nat) (h:u < 4611686018427387904):W64 (Int.tdiv (u:Int) (k:Int))=((u / k:Nat):Int):=by
 have:Int.tdiv (u:Int) (k:Int)=((u / k:Nat):Int):=by rw [Int.tdiv_eq_ediv_of_nonneg (by omega)];rfl
 have h2:u / k<=u:=Nat.div_le_self _ _
 rw [this]
 generalize u / k=v at h2
 rw [C3 (by omega) (by omega)]
theorem Rq (u k:Nat):Int.tmod (u:Int) (k:Int)=((u % k:Nat):Int):=by
 rw [Int.tmod_eq_emod_of_nonneg (by omega)];rfl
theorem Mb {u:Nat} (h:u < 100000):(decDigits u).length<=5:=HV 4 u (by omega)
theorem Ge {u:Nat} (h:u < 100):(dP 2 u).length=2:=by
 have h1:=O8 2 u
 have h2:=JV (k:=2) (j:=1) (u:=u) (by omega)
 omega
section
variable {N : Nat}
theorem Nx (x:Int):C2 N x=some (CE x):=by
 unfold C2 CE
 rw [OQ,oS]
 by_cases h:0<=x/\x<=20000
 ·rw [if_pos h,decide_eq_true h.1,decide_eq_true h.2]
  obtain ⟨u,rfl⟩:∃ u:Nat,x=u:=⟨x.toNat,by omega⟩
  have hu:u<=20000:=by omega
  simp only [Bool.and_self,Bool.not_true,cF]
  have e1:=Rr u 1440 (by omega)
  have e2:=Rr u 60 (by omega)
  simp only [Int.cast_ofNat_Int] at e1 e2
  have e3:=Rq (u / 60) 24
  have e4:=Rq u 60
  simp only [Int.cast_ofNat_Int] at e3 e4
  rw [e1,e2,e3,e4,Dn (u / 1440) (by omega),OU _ (by omega),oS]
  have h0:=Mb (u:=u / 1440 + 1) (by omega)
  have h1:=Ge (u:=u / 60 % 24) (by omega)
  have h2:=Ge (u:=u % 60) (by omega)
  have p1:=OR (N:=N) (u / 60 % 24) 2 (by omega) (by omega)
  have p2:=OR (N:=N) (u % 60) 2 (by omega) (by omega)
  simp only [Int.cast_ofNat_Int] at p1 p2
  rw [AW (by simp;omega),oS,p1,oS,AW (by simp;omega),oS,p2,oS,AW (by simp;omega),oS]
  unfold E5
  simp
 ·rw [if_neg h]
  have:(decide (0<=x)&&decide (x<=20000))=false:=by
   rw [Bool.and_eq_false_iff,decide_eq_false_iff_not,decide_eq_false_iff_not];omega
  rw [this];rfl
theorem LQ (x:Int) (hN:4294967300 < N):Ck N x=some (CE x):=by
 unfold Ck CE
 rw [G0,oS]
 by_cases h:0<=x/\x<=20000
 ·rw [if_pos h,decide_eq_true h.1,decide_eq_true h.2]
  obtain ⟨u,rfl⟩:∃ u:Nat,x=u:=⟨x.toNat,by omega⟩
  have hu:u<=20000:=by omega
  simp only [Bool.and_self,Bool.not_true,cF]
  have e1:=Rr u 1440 (by omega)
  have e0:=Rq u 1440
  simp only [Int.cast_ofNat_Int] at e1 e0
  have e2:=Rr (u % 1440) 60 (by omega)
  have e3:=Rq (u % 1440) 60
  simp only [Int.cast_ofNat_Int] at e2 e3
  rw [e1,e0,e2,e3,Dn (u / 1440) (by omega)]
  have d1:=Ks (N:=N) (u / 1440 + 1) 1 (by omega) (by omega) (by omega) hN
  have d2:=Ks (N:=N) (u % 1440 / 60) 2 (by omega) (by omega) (by omega) hN
  have d3:=Ks (N:=N) (u % 1440 % 60) 2 (by omega) (by omega) (by omega) hN
  simp only [Int.cast_ofNat_Int] at d1 d2 d3
  have q2:u % 1440 / 60=u / 60 % 24:=by omega
  have q3:u % 1440 % 60=u % 60:=by omega
  rw [q2] at d2 ⊢
  rw [q3] at d3 ⊢
  have h0:=Mb (u:=u / 1440 + 1) (by omega)
  have h1:=Ge (u:=u / 60 % 24) (by omega)
  have h2:=Ge (u:=u % 60) (by omega)
  have d1':Ba N ((u / 1440 + 1:Nat):Int) 1=some (decDigits (u / 1440 + 1)):=by rw [<-XE];exact d1
  rw [d1',oS,AW (by simp;omega),oS,d2,oS,AW (by simp;omega),oS,d3,oS,AW (by simp;omega),oS]
  unfold E5
  simp
 ·rw [if_neg h]
  have:(decide (0<=x)&&decide (x<=20000))=false:=by
   rw [Bool.and_eq_false_iff,decide_eq_false_iff_not,decide_eq_false_iff_not];omega
  rw [this];rfl
def JC (p q:Nat):Nat:=(p - 1) * 1440 + q / 100 * 60 + q % 100
theorem Tl {p q:Nat} (h1:1<=p) (hp:p < 1000000000) (hq:q < 1000000000):W64 ((W64 ((W64 ((W64 ((p:Int) - 1)) * 1440)) + (W64 ((W64 (Int.tdiv (q:Int) 100)) * 60)))) + (Int.tmod (q:Int) 100))=(JC p q:Int):=by
 have e1:=Rr q 100 (by omega)
 have e2:=Rq q 100
 simp only [Int.cast_ofNat_Int] at e1 e2
 rw [e1,e2,C3 (n:=(p:Int) - 1) (by omega) (by omega),C3 (n:=((p:Int) - 1) * 1440) (by omega) (by omega),C3 (n:=((q / 100:Nat):Int) * 60) (by omega) (by omega)]
 rw [C3 (n:=((p:Int) - 1) * 1440 + ((q / 100:Nat):Int) * 60) (by omega) (by omega),C3 (by omega) (by omega)]
 unfold JC
 omega
def HT (s a b:YL):Int×Int:=if EW a&&EW b&&decide (1<=En a)&&decide (CE (JC (En a) (En b))=(s,0)) then ((JC (En a) (En b):Int),0) else (0,13)
def Ew (s:YL):Int×Int:=match pcs 32 s with
 | [a,b]=>HT s a b
 | _=>(0,13)
theorem Ug {s:YL} (h:(32:UInt8)∈s):EW s=false:=by
 cases hh:EW s with
 | false=>rfl
 | true=>
  have:=List.all_eq_true.1 (HD hh).2.2.2 _ h
  revert this;decide
theorem U3:EW []=false:=rfl
theorem QR (s t:YL) (e:Int):((e !=0)||(t !=s))= !decide ((t,e)=(s,0)):=by
 by_cases h1:e=0
 ·by_cases h2:t=s
  ·subst h1;subst h2;simp
  ·rw [decide_eq_false (fun h=>h2 (by injection h))];simp [h2]
 ·rw [decide_eq_false (fun h=>h1 (by injection h))];simp [h1]
theorem Qi (s a b:YL) (ha:a.length < N) (hb:b.length < N):
  ((Cy N a).bind fun r9=>((Cy N b).bind fun h0=>(bif ((decide (r9 < 1))||((decide (r9 > 20000))||(decide (h0 < 0)))) then some ((0:Int),(13:Int)) else ((C2 N (W64 ((W64 ((W64 ((W64 (r9 - 1)) * 1440)) + (W64 ((W64 (Int.tdiv h0 100)) * 60)))) + (Int.tmod h0 100)))).bind fun h4=>(bif ((h4.2 !=0)||(h4.1 !=s)) then some (0,13) else some ((W64 ((W64 ((W64 ((W64 (r9 - 1)) * 1440)) + (W64 ((W64 (Int.tdiv h0 100)) * 60)))) + (Int.tmod h0 100))),0))))))=some (HT s a b):=by
 rw [OS ha,OS hb,oS,oS]
 unfold CC HT
 cases hA:EW a with
 | false=>
  simp only [Bool.false_eq_true,if_false,Bool.false_and]
  rfl
 | true=>
  cases hB:EW b with
  | false=>
   simp only [Bool.false_eq_true,if_false,if_true,Bool.and_false,Bool.false_and]
   rw [show decide ((-1:Int) < 0)=true from rfl,Bool.or_true,Bool.or_true];rfl
  | true=>
   simp only [if_true,Bool.and_self,Bool.true_and]
   have hp:=HD hA
   have hq:=HD hB
   generalize En a=p at hp ⊢
   generalize En b=q at hq ⊢
   by_cases h1:1<=p
   ·rw [decide_eq_false (show ¬ (p:Int) < 1 by omega),decide_eq_true h1,decide_eq_false (show ¬ (q:Int) < 0 by omega),Bool.false_or,Bool.or_false,Bool.true_and,Tl h1 hp.1 hq.1]
    by_cases h2:p<=20000
    ·rw [decide_eq_false (show ¬ (p:Int) > 20000 by omega),cF,Nx,oS,QR]
     have:((CE (JC p q:Int)).1,(CE (JC p q:Int)).2)=CE (JC p q:Int):=rfl
     rw [this]
     by_cases h3:CE (JC p q:Int)=(s,0)
     ·rw [decide_eq_true h3,if_pos rfl];rfl
     ·rw [decide_eq_false h3];rfl
    ·rw [decide_eq_true (show (p:Int) > 20000 by omega),cT]
     have h3:¬ CE (JC p q:Int)=(s,0):=by
      unfold CE JC
      rw [if_neg (by omega)]
      intro h;injection h with h1 h2;exact absurd h2 (by decide)
     rw [decide_eq_false h3];rfl
   ·rw [decide_eq_true (show (p:Int) < 1 by omega),decide_eq_false h1];rfl
theorem Ud (s a b:YL) (ha:a.length < N) (hb:b.length < N) (hN:4294967300 < N):
  ((Bp N a).bind fun h2=>((Bp N b).bind fun h0=>(bif ((decide (h2 < 1))||(decide (h0 < 0))) then some ((0:Int),(13:Int)) else ((Ck N (W64 ((W64 ((W64 ((W64 (h2 - 1)) * 1440)) + (W64 ((W64 (Int.tdiv h0 100)) * 60)))) + (Int.tmod h0 100)))).bind fun h4=>(bif ((h4.2 !=0)||(h4.1 !=s)) then some (0,13) else some ((W64 ((W64 ((W64 ((W64 (h2 - 1)) * 1440)) + (W64 ((W64 (Int.tdiv h0 100)) * 60)))) + (Int.tmod h0 100))),0))))))=some (HT s a b):=by
 rw [MM ha,MM hb,oS,oS]
 unfold CC HT
 cases hA:EW a with
 | false=>
  simp only [Bool.false_eq_true,if_false,Bool.false_and]
  rfl
 | true=>
  cases hB:EW b with
  | false=>
   simp only [Bool.false_eq_true,if_false,if_true,Bool.and_false,Bool.false_and]
   rw [show decide ((-1:Int) < 0)=true from rfl,Bool.or_true];rfl
  | true=>
   simp only [if_true,Bool.and_self,Bool.true_and]
   have hp:=HD hA
   have hq:=HD hB
   generalize En a=p at hp ⊢
   generalize En b=q at hq ⊢
   by_cases h1:1<=p
   ·rw [decide_eq_false (show ¬ (p:Int) < 1 by omega),decide_eq_true h1,decide_eq_false (show ¬ (q:Int) < 0 by omega),Bool.or_false,Bool.true_and,cF,Tl h1 hp.1 hq.1]
    rw [LQ _ hN,oS,QR]
    have:((CE (JC p q:Int)).1,(CE (JC p q:Int)).2)=CE (JC p q:Int):=rfl
    rw [this]
    by_cases h3:CE (JC p q:Int)=(s,0)
    ·rw [decide_eq_true h3,if_pos rfl];rfl
    ·rw [decide_eq_false h3];rfl
   ·rw [decide_eq_true (show (p:Int) < 1 by omega),decide_eq_false h1];rfl
theorem T1 {u:Nat} (h:u<=20000):(E5 u).length<=10:=by
 have h0:=Mb (u:=u / 1440 + 1) (by omega)
 have h1:=Ge (u:=u / 60 % 24) (by omega)
 have h2:=Ge (u:=u % 60) (by omega)
 unfold E5
 simp;omega
theorem SV {x:Int} {s:YL} (h:CE x=(s,0)):s.length<=10/\0<=x/\x<=20000:=by
 unfold CE at h
 by_cases hx:0<=x/\x<=20000
 ·rw [if_pos hx] at h
  injection h with h _
  rw [<-h]
  exact ⟨T1 (by omega),hx⟩
 ·rw [if_neg hx] at h
  injection h with _ h
  exact absurd h (by decide)
theorem OO {s a b:YL} (h:EW b=false):HT s a b=(0,13):=by unfold HT;rw [h];simp
theorem Ry (s:YL) (hs:s.length < 4294967281) (hN:4294967300 < N):Hq N s=some (Ew s):=by
 unfold Hq
 have hc:strings_Cut N s [32]=some (Go.Lib.cut s [32]):=by unfold strings_Cut;rw [if_pos hs]
 rw [hc,oS]
 unfold Ew
 by_cases h:(32:UInt8)∈s
 ·obtain ⟨a,t,rfl,ha⟩:=Fg h
  simp only [List.length_append,List.length_cons] at hs
  rw [Sa ha,Ga ha]
  simp only
  rw [Qi _ a t (by omega) (by omega)]
  by_cases ht:(32:UInt8)∈t
  ·obtain ⟨a',t',rfl,ha'⟩:=Fg ht
   rw [Ga ha',OO (Ug ht)]
   cases hp:pcs 32 t' with
   | nil=>exact absurd hp (G7 32 t')
   | cons x l=>rfl
  ·rw [EH ht]
 ·rw [Sb h,EH h]
  simp only
  rw [Qi _ s [] (by omega) (by simp;omega),OO U3]
theorem QF (s:YL) (hs:s.length < 4294967281) (hN:4294967300 < N):EP N s=some (Ew s):=by
 unfold EP
 rw [RP s (by omega) (by omega),oS]
 unfold Ew
 have hlen:∀ p,p∈pcs 32 s->p.length<=s.length:=fun p h=>by
  have:∀ (c:UInt8) (s p:YL),p∈pcs c s->p.length<=s.length:=by
   intro c s
   induction s with
   | nil=>intro p h;simp [pcs] at h;subst h;simp
   | cons b s ih=>
    intro p h
    unfold pcs at h
    by_cases hb:b=c
    ·rw [if_pos hb] at h
     rcases List.mem_cons.1 h with rfl | h
     ·simp
     ·exact Nat.le_succ_of_le (ih p h)
    ·rw [if_neg hb] at h
     cases hp:pcs c s with
     | nil=>exact absurd hp (G7 c s)
     | cons q r=>
      rw [hp] at h ih
      simp only at h
      rcases List.mem_cons.1 h with rfl | h
      ·exact Nat.succ_le_succ (ih q List.mem_cons_self)
      ·exact Nat.le_succ_of_le (ih p (List.mem_cons_of_mem _ h))
  exact this 32 s p h
 generalize pcs 32 s=ws at hlen
 match ws,hlen with
 | [],_=>simp only [List.length_nil];rw [show (((0:Nat):Int)!=2)=true from rfl,Bool.or_true];rfl
 | [a],_=>simp only [List.length_singleton];rw [show (((1:Nat):Int)!=2)=true from rfl,Bool.or_true];rfl
 | a::b::c::l,_=>
  have:((((a::b::c::l).length:Nat):Int)!=2)=true:=by
   rw [bne_iff_ne];simp only [List.length_cons];omega
  rw [this,Bool.or_true];rfl
 | [a,b],hlen=>
  have hA:=hlen a (by simp)
  have hB:=hlen b (by simp)
  have:((([a,b].length:Nat):Int)!=2)=false:=rfl
  rw [this,Bool.or_false]
  by_cases h0:s.length<=20
  ·rw [decide_eq_false (by omega),cF]
   have i0:idx [a,b] 0=some a:=rfl
   have i1:idx [a,b] 1=some b:=rfl
   rw [i0,i1]
   simp only [oS]
   exact Ud s a b (by omega) (by omega) hN
  ·rw [decide_eq_true (by omega),cT]
   have:¬ CE (JC (En a) (En b))=(s,0):=fun h=>by have:=SV h;omega
   show some ((0:Int),(13:Int))=some (HT s a b)
   unfold HT
   rw [decide_eq_false this,Bool.and_false];rfl
end
theorem U2 (a:Nat) (l:YL):Ju a l=a * 10 ^ l.length + Ju 0 l:=by
 induction l generalizing a with
 | nil=>simp [Ju]
 | cons b l ih=>
  rw [Ii,Ii,ih (10 * a + (b.toNat - 48)),ih (10 * 0 + (b.toNat - 48)),List.length_cons,Nat.pow_succ,Nat.add_mul,Nat.mul_comm (10 ^ l.length) 10,<-Nat.mul_assoc,Nat.mul_comm a 10,Nat.mul_zero,Nat.zero_add,Nat.add_assoc]
theorem U1 (l m:YL):En (l++m)=En l * 10 ^ m.length + En m:=by
 unfold En
 rw [show Ju 0 (l++m)=Ju (Ju 0 l) m by unfold Ju;rw [List.foldl_append],U2]
theorem no32 {l:YL} (h:l.all isD=true):(32:UInt8)∉l:=fun hm=>by
 have:=List.all_eq_true.1 h _ hm
 revert this;decide
theorem IP {u:Nat} (h:u<=20000):Ew (E5 u)=((u:Int),0):=by
 have h2:=Mb (u:=u / 1440 + 1) (by omega)
 have h1:=Ge (u:=u / 60 % 24) (by omega)
 have h0:=Ge (u:=u % 60) (by omega)
 have hall:(dP 2 (u / 60 % 24)++dP 2 (u % 60)).all isD=true:=by rw [List.all_append,JW,JW];rfl
 have hp:pcs 32 (E5 u)=[decDigits (u / 1440 + 1),dP 2 (u / 60 % 24)++dP 2 (u % 60)]:=by
  unfold E5
  rw [Ga (no32 (IZ _)),EH (no32 hall)]
 unfold Ew
 rw [hp]
 simp only
 unfold HT
 have n1:EW (decDigits (u / 1440 + 1))=true:=by
  unfold EW wiB;have:=Ln (u / 1440 + 1);rw [IZ];simp;omega
 have n2:EW (dP 2 (u / 60 % 24)++dP 2 (u % 60))=true:=by
  unfold EW wiB;rw [hall];simp [h1,h0]
 have v2:En (dP 2 (u / 60 % 24)++dP 2 (u % 60))=u / 60 % 24 * 100 + u % 60:=by
  rw [U1,Tc,Tc,h0]
 have e:JC (u / 1440 + 1) (u / 60 % 24 * 100 + u % 60)=u:=by unfold JC;omega
 have hpr:CE (u:Int)=(E5 u,0):=by unfold CE;rw [if_pos (by omega)];rfl
 rw [n1,n2,Lp,v2,e,hpr,decide_eq_true (show 1<=u / 1440 + 1 by omega),decide_eq_true rfl]
 rfl
end
theorem RY {ρ:Type} {body:Int->Option (A9 ρ Int)} {n:Nat} (ok:Nat->Bool) (bad:Nat->ρ)
  (hb:∀ i,i < n->body (i:Int)=some (bif ok i then .next ((i + 1:Nat):Int) else .ret (bad i))) (he:body (n:Int)=some (.done (n:Int))) {N:Nat} (hN:n < N):
  ((∀ i,i < n->ok i=true)/\AH body N 0=some (.done (n:Int)))\/(∃ i,i < n/\ok i=false/\(∀ k,k < i->ok k=true)/\AH body N 0=some (.ret (bad i))):=by
 obtain ⟨o,ho,hR⟩:=C4 (body:=body) n (fun i s=>s=(i:Int)/\ ∀ k,k < i->ok k=true) (fun o=>((∀ i,i < n->ok i=true)/\o=.done (n:Int))\/(∃ i,i < n/\ok i=false/\(∀ k,k < i->ok k=true)/\o=.ret (bad i))) (by
  rintro i s hi ⟨rfl,hk⟩
  by_cases h:i < n
  ·rw [hb i h]
   cases e:ok i with
   | true=>
    refine .inl ⟨_,rfl,⟨rfl,fun k hk'=>?_⟩,h⟩
    by_cases hki:k=i
    ·subst hki;exact e
    ·exact hk k (by omega)
   | false=>exact .inr ⟨_,rfl,(fun _ h=>by cases h),.inr ⟨i,h,e,hk,rfl⟩⟩
  ·have:i=n:=by omega
   subst this
   rw [he]
   exact .inr ⟨_,rfl,(fun _ h=>by cases h),.inl ⟨hk,rfl⟩⟩) n N 0 0 (by omega) ⟨rfl,fun k hk=>by omega⟩ hN
 rcases hR with ⟨h1,rfl⟩ | ⟨i,h1,h2,h3,rfl⟩
 ·exact .inl ⟨h1,ho⟩
 ·exact .inr ⟨i,h1,h2,h3,ho⟩
theorem UF (i:Nat) (h:i < 4611686018427387904) (h0:0 < i):W64 ((i:Int) - 1)=((i - 1:Nat):Int):=by
 rw [C3 (by omega) (by omega)];omega
section
open Go.Lib (decDigits)
theorem TE (s:YL):(s !=[])= !decide (s=[]):=by
 cases s <;> rfl
def jn (l:List YL):YL:=Go.Lib.join l [32]
theorem QX:jn []=[]:=rfl
theorem CZ (x:YL):jn [x]=x:=Go.Lib.join_one x [32]
theorem TN {l:List YL} (h:l≠[]) (w:YL):jn (l++[w])=jn l++32::w:=by
 match l,h with
 | x::r,_=>
  unfold jn
  rw [List.cons_append,Go.Lib.join_cons,Go.Lib.join_cons]
  unfold Go.Lib.joinTail
  simp
theorem SX:∀ (r:List YL) (x:YL),(32:UInt8)∉x->(∀ y,y∈r->(32:UInt8)∉y)->pcs 32 (jn (x::r))=x::r
 | [],x,hx,_=>by rw [CZ,EH hx]
 | y::r,x,hx,hr=>by
  have ih:=SX r y (hr y (by simp)) (fun z hz=>hr z (by simp [hz]))
  have:jn (x::y::r)=x++32::jn (y::r):=by
   unfold jn
   rw [Go.Lib.join_cons,Go.Lib.join_cons]
   unfold Go.Lib.joinTail
   simp
  rw [this,Ga hx,ih]
section
variable {N : Nat}
theorem XQ (a b:YL) (hN:4294967300 < N):Gj N [a,b]=some (if a=[] then b else a):=by
 obtain ⟨M,rfl⟩:∃ M,N=M + 3:=⟨N - 3,by omega⟩
 unfold Gj
 by_cases ha:a=[]
 ·rw [if_pos ha]
  by_cases hb:b=[]
  ·subst ha;subst hb;rfl
  ·have e1:Db (M + 3) [a,b] 0=some (.next 1):=by subst ha;rfl
   have e2:Db (M + 3) [a,b] 1=some (.ret b):=by
    show (bif (b !=([]:YL)) then some (.ret b) else some (.next (W64 (1 + 1))))=some (A9.ret b)
    rw [TE,decide_eq_false hb];rfl
   rw [AH,e1]
   simp only
   rw [AH,e2]
   rfl
 ·rw [if_neg ha]
  have e1:Db (M + 3) [a,b] 0=some (.ret a):=by
   show (bif (a !=([]:YL)) then some (.ret a) else some (.next (W64 (0 + 1))))=some (A9.ret a)
   rw [TE,decide_eq_false ha];rfl
  rw [AH,e1]
  rfl
theorem Wo {l:List YL} (h:l.length<=1000) (hl:∀ w,w∈l->w.length<=1000) (hN:4294967300 < N):HA N l=some (jn l):=by
 unfold HA
 have hb:∀ i,i<=l.length->(jn (l.take i)).length<=i * 1001:=by
  intro i
  induction i with
  | zero=>intro _;simp [QX]
  | succ i ih=>
   intro hi
   have:=ih (by omega)
   have hw:=hl l[i] (List.getElem_mem (by omega))
   have e:l.take (i + 1)=l.take i++[l[i]]:=by rw [List.take_add_one,List.getElem?_eq_getElem (by omega)];rfl
   rw [e]
   by_cases h0:l.take i=[]
   ·rw [h0,List.nil_append,CZ];omega
   ·rw [TN h0,List.length_append,List.length_cons];omega
 obtain ⟨o,ho,rfl⟩:=C4 (body:=D7 N l) l.length (fun i st=>st=(jn (l.take i),(i:Int))) (fun o=>o=.done (jn l,(l.length:Int))) (by
  rintro i st hi rfl
  by_cases h1:i < l.length
  ·refine .inl ⟨_,?_,rfl,h1⟩
   have hbi:=hb i hi
   have hw:=hl l[i] (List.getElem_mem h1)
   have e:l.take (i + 1)=l.take i++[l[i]]:=by rw [List.take_add_one,List.getElem?_eq_getElem h1];rfl
   unfold D7
   simp only [B7 h1,cT,BV h1,oS]
   rw [Dn i (by omega),e]
   by_cases h0:i=0
   ·subst h0
    rw [decide_eq_false (by decide),cF,oS]
    simp only [List.take_zero,List.nil_append,QX,CZ]
    rw [AW (by simp;omega),List.nil_append];rfl
   ·rw [decide_eq_true (by omega),cT,TN (by rw [Ne,<-List.length_eq_zero_iff,List.length_take];omega)]
    rw [AW (by simp;omega),oS,oS,AW (by simp;omega)]
    simp
  ·have:i=l.length:=by omega
   subst this
   refine .inr ⟨_,?_,(fun _ h=>by cases h),rfl⟩
   unfold D7
   simp only [BU,cF,List.take_length]) l.length N 0 ([],0) (by omega) rfl (by omega)
 rw [ho];rfl
theorem NU {l:List AR} {p:AR->Option Bool} (F:AR->Bool) (hp:∀ x,x∈l->p x=some (F x)) (hl:l.length < 4000000000) (hN:4294967300 < N):A5 N l p=some (l.any F):=by
 unfold A5 BR
 rcases RY (body:=AQ N l p) (n:=l.length) (fun i=>!((l[i]?.map F).getD false)) (fun i=>(i:Int)) (by
   intro i hi
   unfold AQ
   rw [B7 hi,cT,BV hi,oS,hp _ (List.getElem_mem hi),oS,Dn i (by omega),List.getElem?_eq_getElem hi]
   simp only [Option.map_some,Option.getD_some]
   cases F l[i] <;> rfl) (by
   unfold AQ
   rw [BU,cF]) (N:=N) (by omega) with ⟨g1,g2⟩ | ⟨i,hi,g1,_,g2⟩
 ·rw [g2]
  have:l.any F=false:=by
   rw [List.any_eq_false]
   intro x hx
   obtain ⟨i,hi,rfl⟩:=List.getElem_of_mem hx
   have:=g1 i hi
   rw [List.getElem?_eq_getElem hi] at this
   simpa using this
  rw [this];rfl
 ·rw [g2]
  have:l.any F=true:=by
   rw [List.any_eq_true]
   rw [List.getElem?_eq_getElem hi] at g1
   exact ⟨l[i],List.getElem_mem hi,by simpa using g1⟩
  rw [this]
  show some (decide ((i:Int)>=0))=some true
  rw [decide_eq_true (by omega)]
def N2 (h:Bool) (n m:Int):Bool:=bif h then (decide (1<=n)&&decide (n<=m)) else n==0
def Co (L:Ac) (E:Ae):Bool:=N2 L.Report E.Report 599&&(N2 L.Serial E.Serial 99999&&N2 L.Zone E.Zone 99)
theorem Xf (P:AR):Cn N P=some (!N2 P.has_ P.n_ P.most_):=by
 unfold Cn N2
 rw [OQ,oS]
 obtain ⟨h,n,m,d⟩:=P
 simp only
 cases h with
 | true=>cases (decide (1<=n)&&decide (n<=m)) <;> rfl
 | false=>
  by_cases hn:n=0
  ·subst hn
   rw [show (decide ((1:Int)<=0)&&decide (0<=m))=false by rw [decide_eq_false (by omega)];rfl]
   rfl
  ·have e1:(n !=0)=true:=by simpa using hn
   have e2:(n==0)=false:=by simpa using hn
   rw [e1,e2]
   cases (decide (1<=n)&&decide (n<=m)) <;> rfl
theorem OE (L:Ac) (E:Ae) (hN:4294967300 < N):Cj N L E=some (Co L E):=by
 unfold Cj
 unfold Df
 rw [oS,NU (fun P=>!N2 P.has_ P.n_ P.most_) (fun x _=>Xf x) (by simp) hN,oS]
 unfold Co
 simp
theorem ME (L:Ac) (E:Ae):B3 N L E=some (Co L E):=by
 unfold B3 Co
 have h:∀ (b:Bool) (n m:Int),GY N b n m=some (N2 b n m):=by
  intro b n m
  unfold GY N2
  rw [G0]
  cases b <;> rfl
 rw [h,h,h]
 cases N2 L.Report E.Report 599 <;> cases N2 L.Serial E.Serial 99999 <;> cases N2 L.Zone E.Zone 99 <;> rfl
def fs (L:Ac) (E:Ae):List YL:=(if L.Report=true then [dP 1 E.Report.toNat] else [])++((if L.Serial=true then [dP 3 E.Serial.toNat] else [])++(if L.Zone=true then [dP 2 E.Zone.toNat] else []))
def E4 (L:Ac) (E:Ae):YL:=if fs L E=[] then [45] else jn (fs L E)
def EV (L:Ac) (E:Ae):YL×Int:=if Co L E=true then (E4 L E,0) else ([],1)
structure OkE (L:Ac) (E:Ae):Prop where
 r:if L.Report=true then 1<=E.Report/\E.Report<=599 else E.Report=0
 s:if L.Serial=true then 1<=E.Serial/\E.Serial<=99999 else E.Serial=0
 z:if L.Zone=true then 1<=E.Zone/\E.Zone<=99 else E.Zone=0
theorem okE {L:Ac} {E:Ae} (h:Co L E=true):OkE L E:=by
 unfold Co N2 at h
 simp only [Bool.and_eq_true] at h
 obtain ⟨h1,h2,h3⟩:=h
 constructor
 ·cases hL:L.Report <;> rw [hL] at h1 <;> simpa using h1
 ·cases hL:L.Serial <;> rw [hL] at h2 <;> simpa using h2
 ·cases hL:L.Zone <;> rw [hL] at h3 <;> simpa using h3
theorem OkE.le {L:Ac} {E:Ae} (h:OkE L E):(0<=E.Report/\E.Report<=599)/\(0<=E.Serial/\E.Serial<=99999)/\0<=E.Zone/\E.Zone<=99:=by
 obtain ⟨h1,h2,h3⟩:=h
 refine ⟨?_,?_,?_⟩
 ·split at h1 <;> omega
 ·split at h2 <;> omega
 ·split at h3 <;> omega
theorem L7 {L:Ac} {E:Ae} (h:OkE L E):∀ w,w∈fs L E->w.length<=5/\w.all isD=true/\1<=w.length:=by
 obtain ⟨h1,h2,h3⟩:=h.le
 intro w hw
 unfold fs at hw
 simp only [List.mem_append] at hw
 have l1:=JV (k:=1) (j:=2) (u:=E.Report.toNat) (by omega)
 have l2:=JV (k:=3) (j:=4) (u:=E.Serial.toNat) (by omega)
 have l3:=JV (k:=2) (j:=1) (u:=E.Zone.toNat) (by omega)
 rcases hw with hw | hw | hw
 ·split at hw
  ·simp at hw;subst hw;exact ⟨by omega,JW _ _,(O8 _ _).2⟩
  ·cases hw
 ·split at hw
  ·simp at hw;subst hw;exact ⟨by omega,JW _ _,(O8 _ _).2⟩
  ·cases hw
 ·split at hw
  ·simp at hw;subst hw;exact ⟨by omega,JW _ _,(O8 _ _).2⟩
  ·cases hw
theorem O3 (L:Ac) (E:Ae):(fs L E).length<=3:=by
 unfold fs
 split <;> split <;> split <;> simp
theorem Vh:∀ l:List YL,(∀ w,w∈l->w.length<=5)->(jn l).length<=l.length * 6
 | [],_=>by simp [QX]
 | [x],h=>by rw [CZ];have:=h x (by simp);simp;omega
 | x::y::r,h=>by
  have ih:=Vh (y::r) (fun w hw=>h w (List.mem_cons_of_mem _ hw))
  have hx:=h x (by simp)
  have:jn (x::y::r)=x++32::jn (y::r):=by
   unfold jn
   rw [Go.Lib.join_cons,Go.Lib.join_cons]
   unfold Go.Lib.joinTail
   simp
  rw [this,List.length_append,List.length_cons,List.length_cons (a:=x)]
  omega
theorem WV {L:Ac} {E:Ae} (h:OkE L E):(jn (fs L E)).length<=18:=by
 have:=Vh (fs L E) (fun w hw=>(L7 h w hw).1)
 have:=O3 L E
 omega
theorem XU {l:List YL} (h:∀ w,w∈l->1<=w.length):jn l=[] ↔ l=[]:=by
 constructor
 ·intro hj
  match l,h,hj with
  | [],_,_=>rfl
  | x::r,h,hj=>
   exfalso
   unfold jn at hj
   rw [Go.Lib.join_cons] at hj
   have:=h x (by simp)
   rw [List.append_eq_nil_iff] at hj
   rw [hj.1] at this
   exact absurd this (by decide)
 ·rintro rfl;rfl
theorem Xa {n:Int} {k:Nat} (h0:0<=n) (h1:n<=1000000000) (hk:k<=100):Cb N n (k:Int)=some (dP k n.toNat):=by
 obtain ⟨u,rfl⟩:∃ u:Nat,n=u:=⟨n.toNat,by omega⟩
 exact OR u k (by omega) hk
theorem XD {n:Int} {k:Nat} (h0:0<=n) (h1:n<=1000000000) (hk:k<=100) (h2:1<=k) (hN:4294967300 < N):Ba N n (k:Int)=some (dP k n.toNat):=by
 obtain ⟨u,rfl⟩:∃ u:Nat,n=u:=⟨n.toNat,by omega⟩
 exact Ks u k (by omega) hk h2 hN
def Hd (L:Ac) (E:Ae) (i:Nat):List YL:=if i=0 then (if L.Report=true then [dP 1 E.Report.toNat] else []) else if i=1 then (if L.Serial=true then [dP 3 E.Serial.toNat] else []) else (if L.Zone=true then [dP 2 E.Zone.toNat] else [])
theorem Vr (L:Ac) (E:Ae):cat 3 (Hd L E)=fs L E:=by
 rw [Gz,Gz,Gz]
 unfold fs
 rw [<-List.append_assoc]
 rfl
theorem O4 (L:Ac) (E:Ae) (i:Nat):(Hd L E i).length<=1:=by
 unfold Hd
 split
 ·split <;> simp
 ·split <;> split <;> simp
theorem OG (L:Ac) (E:Ae) (hN:4294967300 < N):Br N L E=some (EV L E):=by
 unfold Br EV
 rw [OE L E hN,oS]
 cases hv:Co L E with
 | false=>rfl
 | true=>
  have ok:=okE hv
  obtain ⟨h1,h2,h3⟩:=ok.le
  rw [Bool.not_true,cF,if_pos rfl]
  unfold Df
  rw [oS]
  generalize hP:([_,_,_]:List AR)=P
  have hstep:∀ (i:Nat) (s:List YL),i < 3->s.length + 1<=0 + 3 * 1->Cf N L E true P (s,(i:Int))=some (.next (s++Hd L E i,((i + 1:Nat):Int))):=by
   intro i s hi hs
   have p1:Cb N E.Report 1=some (dP 1 E.Report.toNat):=Xa (k:=1) h1.1 (by omega) (by omega)
   have p2:Cb N E.Serial 3=some (dP 3 E.Serial.toNat):=Xa (k:=3) h2.1 (by omega) (by omega)
   have p3:Cb N E.Zone 2=some (dP 2 E.Zone.toNat):=Xa (k:=2) h3.1 (by omega) (by omega)
   have ha:∀ w:YL,CD s [w]=some (s++[w]):=fun w=>Jb (by simp;omega)
   unfold Cf
   subst hP
   simp only
   rw [Dn i (by omega)]
   match i,hi with
   | 0,_=>
    show ((bif L.Report then ((Cb N E.Report 1).bind fun h0=>((CD s [h0]).bind fun h4=>some h4)) else some s).bind fun h5=>some (A9.next (h5,_)))=_
    rw [p1,oS,ha]
    unfold Hd
    cases L.Report <;> simp
   | 1,_=>
    show ((bif L.Serial then ((Cb N E.Serial 3).bind fun h0=>((CD s [h0]).bind fun h4=>some h4)) else some s).bind fun h5=>some (A9.next (h5,_)))=_
    rw [p2,oS,ha]
    unfold Hd
    cases L.Serial <;> simp
   | 2,_=>
    show ((bif L.Zone then ((Cb N E.Zone 2).bind fun h0=>((CD s [h0]).bind fun h4=>some h4)) else some s).bind fun h5=>some (A9.next (h5,_)))=_
    rw [p3,oS,ha]
    unfold Hd
    cases L.Zone <;> simp
  have hend:∀ s:List YL,Cf N L E true P (s,((3:Nat):Int))=some (.done (s,((3:Nat):Int))):=by
   intro s
   subst hP
   rfl
  rw [Un (n:=3) 1 (Hd L E) (fun i _=>O4 L E i) (s0:=[]) hstep hend (by omega),Vr]
  simp only [List.nil_append,oS,A9.k]
  have hj:=WV ok
  have hl:=O3 L E
  have e1:strings_Join N (fs L E) [32]=some (jn (fs L E)):=by
   unfold strings_Join
   exact if_pos ⟨by omega,by unfold jn at hj;omega⟩
  rw [e1,oS,XQ _ _ hN,oS]
  unfold E4
  have:=XU (fun w hw=>(L7 ok w hw).2.2)
  by_cases hf:fs L E=[]
  ·rw [if_pos hf,if_pos (this.2 hf)]
  ·rw [if_neg hf,if_neg (fun h=>hf (this.1 h))]
theorem MF (L:Ac) (E:Ae) (hN:4294967300 < N):A7 N L E=some (EV L E):=by
 unfold A7 EV
 rw [ME L E,oS]
 cases hv:Co L E with
 | false=>rfl
 | true=>
  have ok:=okE hv
  obtain ⟨h1,h2,h3⟩:=ok.le
  rw [Bool.not_true,cF,if_pos rfl]
  have p1:Ba N E.Report 1=some (dP 1 E.Report.toNat):=XD (k:=1) h1.1 (by omega) (by omega) (by omega) hN
  have p2:Ba N E.Serial 3=some (dP 3 E.Serial.toNat):=XD (k:=3) h2.1 (by omega) (by omega) (by omega) hN
  have p3:Ba N E.Zone 2=some (dP 2 E.Zone.toNat):=XD (k:=2) h3.1 (by omega) (by omega) (by omega) hN
  rw [p1,p2,p3]
  simp only [oS]
  have e1:(bif L.Report then ((CD ([]:List YL) [dP 1 E.Report.toNat]).bind fun h0=>some h0) else some ([]:List YL))=some (Hd L E 0):=by
   unfold Hd;cases L.Report <;> rfl
  have l0:=O4 L E 0
  have l1:=O4 L E 1
  have e2:(bif L.Serial then ((CD (Hd L E 0) [dP 3 E.Serial.toNat]).bind fun h4=>some h4) else some (Hd L E 0))=some (Hd L E 0++Hd L E 1):=by
   rw [Jb (by simp;omega)]
   have:Hd L E 1=if L.Serial=true then [dP 3 E.Serial.toNat] else []:=rfl
   rw [this]
   cases L.Serial <;> simp
  have e3:(bif L.Zone then ((CD (Hd L E 0++Hd L E 1) [dP 2 E.Zone.toNat]).bind fun h5=>some h5) else some (Hd L E 0++Hd L E 1))=some (fs L E):=by
   rw [Jb (by simp;omega)]
   have h2:Hd L E 2=if L.Zone=true then [dP 2 E.Zone.toNat] else []:=rfl
   have:fs L E=Hd L E 0++Hd L E 1++Hd L E 2:=by rw [<-Vr,Gz,Gz,Gz];rfl
   rw [this,h2]
   cases L.Zone <;> simp
  rw [e1,oS,e2,oS,e3,oS]
  have hl:=O3 L E
  rw [Wo (by omega) (fun w hw=>by have:=(L7 ok w hw).1;omega) hN]
  unfold E4
  by_cases hf:fs L E=[]
  ·rw [if_pos hf,hf];rfl
  ·rw [if_neg hf]
   have:(((fs L E).length:Int)==0)=false:=by
    rw [beq_eq_false_iff_ne]
    have:=List.length_pos_iff.2 hf
    omega
   rw [this];rfl
def GJ (h:Bool) (ws:List YL):List YL×Int:=match h,ws with
 | true,w::r=>(r,CC w)
 | _,_=>(ws,0)
def GG (L:Ac) (ws:List YL):Ae:={Report:=(GJ L.Report ws).2,Serial:=(GJ L.Serial (GJ L.Report ws).1).2,Zone:=(GJ L.Zone (GJ L.Serial (GJ L.Report ws).1).1).2}
def AX (L:Ac) (s:YL):Ae×Int:=if EV L (GG L (pcs 32 s))=(s,0) then (GG L (pcs 32 s),0) else ({Report:=0,Serial:=0,Zone:=0},1)
theorem P7 (h:Bool) (ws:List YL):∀ w,w∈(GJ h ws).1->w∈ws:=by
 intro w hw
 match h,ws,hw with
 | true,x::r,hw=>exact List.mem_cons_of_mem _ hw
 | true,[],hw=>exact hw
 | false,_,hw=>exact hw
theorem Oy (h:Bool) (ws:List YL) (hl:∀ w,w∈ws->w.length < N):(bif (h&&decide ((ws.length:Int) > 0)) then ((idx ws 0).bind fun h0=>((Cy N h0).bind fun h1=>((sub ws 1 (ws.length:Int)).bind fun h2=>some (h2,h1)))) else some (ws,(0:Int)))=some (GJ h ws):=by
 match h,ws,hl with
 | false,_,_=>rfl
 | true,[],_=>rfl
 | true,w::r,hl=>
  have e0:idx (w::r) 0=some w:=rfl
  have e1:sub (w::r) 1 ((w::r).length:Int)=some r:=by
   unfold sub
   rw [if_pos ⟨by omega,by simp only [List.length_cons];omega,by omega⟩]
   simp
  rw [decide_eq_true (by simp only [List.length_cons];omega),e0,e1,oS,OS (hl w (by simp))]
  rfl
theorem Ox (h:Bool) (ws:List YL) (k:Nat) (hk:k < 4000000000) (hl:∀ w,w∈ws->w.length < N):∃ k',(bif (h&&decide ((k:Int) < (ws.length:Int))) then ((idx ws (k:Int)).bind fun h0=>((Bp N h0).bind fun h2=>some ((W64 ((k:Int) + 1)),h2))) else some ((k:Int),(0:Int)))=some (((k':Nat):Int),(GJ h (ws.drop k)).2)/\(GJ h (ws.drop k)).1=ws.drop k'/\k'<=k + 1:=by
 by_cases hh:h=true/\k < ws.length
 ·obtain ⟨rfl,hh⟩:=hh
  refine ⟨k + 1,?_,?_,Nat.le_refl _⟩
  ·rw [B7 hh,BV hh,oS,MM (hl _ (List.getElem_mem hh)),Dn k (by omega),List.drop_eq_getElem_cons hh]
   rfl
  ·rw [List.drop_eq_getElem_cons hh];rfl
 ·refine ⟨k,?_,?_,by omega⟩
  ·cases h with
   | false=>rfl
   | true=>
    have hk:ws.length<=k:=by
     rcases Nat.lt_or_ge k ws.length with h1 | h1
     ·exact absurd ⟨rfl,h1⟩ hh
     ·exact h1
    rw [decide_eq_false (by omega),List.drop_of_length_le hk]
    rfl
  ·cases h with
   | false=>rfl
   | true=>
    have hk:ws.length<=k:=by
     rcases Nat.lt_or_ge k ws.length with h1 | h1
     ·exact absurd ⟨rfl,h1⟩ hh
     ·exact h1
    rw [List.drop_of_length_le hk]
    rfl
theorem UL (L:Ac) (s:YL) (hs:s.length < 4294967281) (hN:4294967300 < N):E3 N L s=some (AX L s):=by
 unfold E3 AX
 rw [Oj 32 hs,oS]
 have hle:=ON 32 s
 generalize pcs 32 s=ws at hle
 have hn:∀ w,w∈ws->w.length < N:=fun w hw=>by have:=hle w hw;omega
 have c0:∀ (E:Ae) (b:Bool),((Df N L E).bind fun h0=>((idx h0 0).bind fun h1=>(bif h1.has_ then some b else some false)))=some (L.Report&&b):=by
  intro E b
  show (bif L.Report then some b else some false)=_
  cases L.Report <;> rfl
 have c1:∀ (E:Ae) (b:Bool),((Df N L E).bind fun h0=>((idx h0 1).bind fun h1=>(bif h1.has_ then some b else some false)))=some (L.Serial&&b):=by
  intro E b
  show (bif L.Serial then some b else some false)=_
  cases L.Serial <;> rfl
 have c2:∀ (E:Ae) (b:Bool),((Df N L E).bind fun h0=>((idx h0 2).bind fun h1=>(bif h1.has_ then some b else some false)))=some (L.Zone&&b):=by
  intro E b
  show (bif L.Zone then some b else some false)=_
  cases L.Zone <;> rfl
 rw [c0,oS,Oy L.Report ws hn,oS,c1,oS]
 have h2:∀ w,w∈(GJ L.Report ws).1->w.length < N:=fun w hw=>hn w (P7 _ _ w hw)
 rw [Oy L.Serial _ h2,oS,c2,oS]
 have h3:∀ w,w∈(GJ L.Serial (GJ L.Report ws).1).1->w.length < N:=fun w hw=>h2 w (P7 _ _ w hw)
 rw [Oy L.Zone _ h3,oS]
 show ((Br N L (GG L ws)).bind _)=_
 rw [OG L _ hN,oS,QR]
 show (bif (!decide (EV L (GG L ws)=(s,0))) then _ else some (GG L ws,(0:Int)))=_
 by_cases h:EV L (GG L ws)=(s,0)
 ·rw [decide_eq_true h,if_pos h];rfl
 ·rw [decide_eq_false h,if_neg h];rfl
theorem SU {L:Ac} {E:Ae} {s:YL} (h:EV L E=(s,0)):s.length<=18/\Co L E=true:=by
 unfold EV at h
 by_cases hv:Co L E=true
 ·rw [if_pos hv] at h
  injection h with h _
  refine ⟨?_,hv⟩
  rw [<-h]
  unfold E4
  split
  ·simp
  ·exact WV (okE hv)
 ·rw [if_neg hv] at h
  injection h with _ h
  exact absurd h (by decide)
theorem P9 (L:Ac) (s:YL) (hs:s.length < 4294967281) (hN:4294967300 < N):Cl N L s=some (AX L s):=by
 unfold Cl AX
 by_cases h4:s.length<=100
 ·rw [decide_eq_false (by omega),cF,RP s (by omega) (by omega),oS]
  have hle:=ON 32 s
  generalize pcs 32 s=ws at hle
  have hn:∀ w,w∈ws->w.length < N:=fun w hw=>by have:=hle w hw;omega
  obtain ⟨k1,a1,b1,d1⟩:=Ox L.Report ws 0 (by omega) hn
  have a1':(bif (L.Report&&(decide (0 < (ws.length:Int)))) then ((idx ws 0).bind fun h0=>((Bp N h0).bind fun h1=>some ((W64 (0 + 1)),h1))) else some (0,0))=some (((k1:Nat):Int),(GJ L.Report (ws.drop 0)).2):=a1
  rw [a1',oS]
  simp only
  obtain ⟨k2,a2,b2,d2⟩:=Ox L.Serial ws k1 (by omega) hn
  rw [a2,oS]
  simp only
  obtain ⟨k3,a3,b3,d3⟩:=Ox L.Zone ws k2 (by omega) hn
  have a3':(bif (L.Zone&&(decide ((k2:Int) < (ws.length:Int)))) then ((idx ws (k2:Int)).bind fun h2=>((Bp N h2).bind fun h3=>some h3)) else some 0)=some (GJ L.Zone (ws.drop k2)).2:=by
   have:=congrArg (fun o=>o.bind fun (x:Int×Int)=>some x.2) a3
   simp only [oS] at this
   rw [<-this]
   cases hc:(L.Zone&&(decide ((k2:Int) < (ws.length:Int)))) with
   | false=>rfl
   | true=>
    rw [cT,cT]
    cases idx ws (k2:Int) with
    | none=>rfl
    | some x=>cases h:Bp N x <;> simp [h]
  rw [a3',oS]
  rw [List.drop_zero] at b1 ⊢
  rw [<-b1] at b2 ⊢
  rw [<-b2]
  show ((A7 N L (GG L ws)).bind _)=_
  rw [MF L _ hN,oS,QR]
  show (bif (!decide (EV L (GG L ws)=(s,0))) then _ else some (GG L ws,(0:Int)))=_
  by_cases h:EV L (GG L ws)=(s,0)
  ·rw [decide_eq_true h,if_pos h];rfl
  ·rw [decide_eq_false h,if_neg h];rfl
 ·rw [decide_eq_true (by omega),cT]
  rw [if_neg (fun h=>by have:=SU h;omega)]
end
theorem QT {k u:Nat} (hk:k<=9) (hu:u < 100000):CC (dP k u)=(u:Int):=by
 have h1:=JV (k:=k) (j:=4) (u:=u) (by omega)
 have h2:=O8 k u
 have:EW (dP k u)=true:=by
  unfold EW wiB
  rw [JW]
  simp
  omega
 unfold CC
 rw [if_pos this,Tc]
theorem E8 {L:Ac} {E:Ae} (h:Co L E=true):AX L (E4 L E)=(E,0):=by
 have ok:=okE h
 obtain ⟨h1,h2,h3⟩:=ok.le
 have hw:GG L (pcs 32 (E4 L E))=E:=by
  have n1:=QT (k:=1) (u:=E.Report.toNat) (by omega) (by omega)
  have n2:=QT (k:=3) (u:=E.Serial.toNat) (by omega) (by omega)
  have n3:=QT (k:=2) (u:=E.Zone.toNat) (by omega) (by omega)
  have hp:fs L E≠[]->pcs 32 (E4 L E)=fs L E:=by
   intro hf
   unfold E4
   rw [if_neg hf]
   have hno:=fun w hw=>no32 (L7 ok w hw).2.1
   revert hf hno
   generalize fs L E=l
   intro hf hno
   match l,hf,hno with
   | x::r,_,hno=>exact SX r x (hno x (by simp)) (fun y hy=>hno y (by simp [hy]))
  obtain ⟨R,S,Z⟩:=L
  obtain ⟨a,b,c⟩:=E
  obtain ⟨o1,o2,o3⟩:=ok
  simp only at o1 o2 o3 h1 h2 h3 n1 n2 n3
  rw [Int.toNat_of_nonneg h1.1] at n1
  rw [Int.toNat_of_nonneg h2.1] at n2
  rw [Int.toNat_of_nonneg h3.1] at n3
  unfold GG
  cases R <;> cases S <;> cases Z <;> simp only [Bool.false_eq_true,if_false,if_true] at o1 o2 o3
  ·subst o1;subst o2;subst o3;rfl
  all_goals
   rw [hp (by unfold fs;simp)]
   unfold fs
   simp [GJ,n1,n2,n3, *]
 unfold AX
 rw [hw]
 have:EV L E=(E4 L E,0):=by unfold EV;rw [if_pos h]
 rw [if_pos this]
end
theorem Uz {s:YL} (h:CW s=true):1<=s.length/\s.length<=4:=by
 unfold CW wiB at h
 simp only [Bool.and_eq_true,decide_eq_true_eq] at h
 omega
theorem Rw {s:YL} (h:BN s=true):1<=s.length/\s.length<=4:=by
 unfold BN wiB at h
 simp only [Bool.and_eq_true,Bool.or_eq_true,decide_eq_true_eq] at h
 omega
theorem WH {s:YL} (h:CW s=true):s.all isE=true:=by
 unfold CW at h;simp only [Bool.and_eq_true] at h;exact h.1.1
theorem TV {s:YL} (h:Bh s=true):s.all isE=true:=by
 unfold Bh at h;simp only [Bool.and_eq_true] at h;exact h.1.1.1
theorem T2 {s:YL} (h:BN s=true):s.all isE=true:=by
 unfold BN at h
 simp only [Bool.and_eq_true,Bool.or_eq_true] at h
 rw [List.all_eq_true]
 intro b hb
 unfold isE
 rcases h with h | h
 ·rw [List.all_eq_true.1 h.1 b hb];rfl
 ·rw [List.all_eq_true.1 h.1 b hb];simp
def NJ (t:Tri):YL:=(if t.1=[] then t.2.1 else t.1++47::t.2.1)++(if t.2.2=[] then [] else 47::t.2.2)
def okT (t:Tri):Bool:=(decide (t.1=[])||CW t.1)&&Bh t.2.1&&(decide (t.2.2=[])||BN t.2.2)&&(decide (t.1=[])|| !decide (t.2.2=[])||decide (t.1.length < t.2.1.length))&&decide ((NJ t).length<=16)
theorem Sl {s:YL} (h:CW s=true):s≠[]:=by
 rintro rfl;have:=Uz h;simp at this
theorem La {s:YL} (h:BN s=true):s≠[]:=by
 rintro rfl;have:=Rw h;simp at this
theorem W0 (w:YL):H9 [w]=if Bh w then some ([],w,[]) else none:=rfl
theorem WZ (a b:YL):H9 [a,b]=if (CW a&&Bh b&&decide (a.length < b.length))=true then some (a,b,[]) else if (Bh a&&BN b)=true then some ([],a,b) else none:=rfl
theorem WY (a b c:YL):H9 [a,b,c]=if (CW a&&Bh b&&BN c)=true then some (a,b,c) else none:=rfl
theorem Te {s:YL} {t:Tri} (h:callB s=some t):okT t=true/\s=NJ t:=by
 unfold callB at h
 by_cases hl:s.length<=16
 ·rw [if_pos hl] at h
  have hj:=LW 47 s
  suffices hh:s=NJ t/\((decide (t.1=[])||CW t.1)&&Bh t.2.1&&(decide (t.2.2=[])||BN t.2.2)&&(decide (t.1=[])|| !decide (t.2.2=[])||decide (t.1.length < t.2.1.length)))=true by
   refine ⟨?_,hh.1⟩
   unfold okT
   rw [hh.2,<-hh.1,decide_eq_true hl];rfl
  revert h hj
  generalize pcs 47 s=ws
  intro h hj
  match ws,h,hj with
  | [w],h,hj=>
   rw [W0] at h
   cases hb:Bh w with
   | false=>rw [hb] at h;simp at h
   | true=>
    rw [hb] at h
    simp at h
    subst h
    have:w=s:=by simpa [List.intercalate] using hj
    exact ⟨by simp [NJ,this],by simp [hb]⟩
  | [a,b],h,hj=>
   have hj':a++47::b=s:=by simpa [List.intercalate] using hj
   rw [WZ] at h
   by_cases h1:(CW a&&Bh b&&decide (a.length < b.length))=true
   ·rw [if_pos h1] at h
    simp at h
    subst h
    simp only [Bool.and_eq_true,decide_eq_true_eq] at h1
    exact ⟨by simp [NJ,hj',Sl h1.1.1],by simp [h1]⟩
   ·rw [if_neg h1] at h
    by_cases h2:(Bh a&&BN b)=true
    ·rw [if_pos h2] at h
     simp at h
     subst h
     simp only [Bool.and_eq_true] at h2
     exact ⟨by simp [NJ,hj',La h2.2],by simp [h2]⟩
    ·rw [if_neg h2] at h;cases h
  | [a,b,c],h,hj=>
   have hj':a++47::(b++47::c)=s:=by simpa [List.intercalate] using hj
   rw [WY] at h
   by_cases h1:(CW a&&Bh b&&BN c)=true
   ·rw [if_pos h1] at h
    simp at h
    subst h
    simp only [Bool.and_eq_true] at h1
    refine ⟨?_,?_⟩
    ·rw [<-hj'];simp [NJ,Sl h1.1.1,La h1.2]
    ·simp [h1,La h1.2]
   ·rw [if_neg h1] at h;cases h
  | [],h,_=>cases h
  | _::_::_::_::_,h,_=>cases h
 ·rw [if_neg hl] at h;cases h
def FN (s:YL):Bool:=(callB s).isSome
section
variable {N : Nat}
theorem VU (s:YL) (hN:4294967300 < N):Hp N s=some (FN s):=by
 unfold Hp FN
 rw [Wp s hN,oS]
 unfold Sy
 cases callB s <;> rfl
theorem UK (s:YL) (hN:4294967300 < N):DE N s=some (FN s):=by
 unfold DE FN
 rw [U6 s hN,oS]
 unfold W5
 cases callB s <;> rfl
end
def Gm (_N:Nat) (s:YL):Option Bool:=some (FN s)
theorem FU:Af Tryz.prog 79:=Mk
theorem GI (N:Nat) (w0:World) (F0:Mem) (hF:YN w0 F0) (hG:BI F0) (x0:YL) (r:Bool) (h:Gm N x0=some r):
  Calls Tryz.prog 79 ([(.string ⟨(x0).toArray⟩)]:List Value).toArray w0 (AC w0 F0 fun F' v=>v=(.bool r)):=by
 exact Nr 9223372036854775808 w0 F0 hF hG x0 r ((VU x0 (by decide)).trans h)
def Gn (_N:Nat) (s:YL):Option (Int×Int):=if s.length < 4294967281 then some (Ew s) else none
theorem Nk:Af Tryz.prog 96:=Ml
theorem Oa (N:Nat) (w0:World) (F0:Mem) (hF:YN w0 F0) (hG:BI F0) (x0:YL) (r:(Int×Int)) (h:Gn N x0=some r):
  Calls Tryz.prog 96 ([(.string ⟨(x0).toArray⟩)]:List Value).toArray w0 (AC w0 F0 fun F' v=>v=(.tuple #[(.int .i64 r.1),(.int .i64 r.2)])):=by
 unfold Gn at h
 split at h
 ·rename_i hs
  exact Ns 9223372036854775808 w0 F0 hF hG x0 r ((Ry x0 hs (by decide)).trans h)
 ·cases h
def CX (_N:Nat) (L:Ac) (s:YL):Option (Ae×Int):=if s.length < 4294967281 then some (AX L s) else none
theorem BT:Af Tryz.prog 97:=Jx
theorem B4 (N:Nat) (w0:World) (F0:Mem) (hF:YN w0 F0) (hG:BI F0) (x0:Ac) (x1:YL) (r:(Ae×Int)) (h:CX N x0 x1=some r):
  Calls Tryz.prog 97 ([(.agg #[(.bool x0.Report),(.bool x0.Serial),(.bool x0.Zone)]),(.string ⟨(x1).toArray⟩)]:List Value).toArray w0 (AC w0 F0 fun F' v=>v=(.tuple #[(.agg #[(.int .i64 r.1.Report),(.int .i64 r.1.Serial),(.int .i64 r.1.Zone)]),(.int .i64 r.2)])):=by
 unfold CX at h
 split at h
 ·rename_i hs
  exact Kh 9223372036854775808 w0 F0 hF hG x0 x1 r ((UL x0 x1 hs (by decide)).trans h)
 ·cases h
section
open Go.Lib (decDigits)
theorem DY {r:List YL} (h:r≠[]) (x:YL):jn (x::r)=x++32::jn r:=by
 match r,h with
 | y::r,_=>
  unfold jn
  rw [Go.Lib.join_cons,Go.Lib.join_cons]
  unfold Go.Lib.joinTail
  simp
theorem S5:∀ {a b:List YL},a≠[]->b≠[]->jn (a++b)=jn a++32::jn b
 | [],_,h,_=>absurd rfl h
 | [x],b,_,hb=>by rw [List.singleton_append,DY hb,CZ]
 | x::y::a,b,_,hb=>by
  rw [List.cons_append,DY (by simp),DY (by simp),S5 (by simp) hb];simp
theorem TO:∀ {L:List (List YL)},(∀ l,l∈L->l≠[])->jn (L.map jn)=jn L.flatten
 | [],_=>rfl
 | [l],_=>by simp [CZ]
 | l::m::L,h=>by
  have ih:=TO (L:=m::L) (fun x hx=>h x (List.mem_cons_of_mem _ hx))
  have hm:(m::L).flatten≠[]:=by
   have:=h m (by simp)
   simp [this]
  rw [List.map_cons,DY (by simp),ih,List.flatten_cons (l:=l),S5 (h l (by simp)) hm]
theorem TA {l:List YL} (hn:l≠[]) (h:∀ w,w∈l->(32:UInt8)∉w):pcs 32 (jn l)=l:=by
 cases l with
 | nil=>exact absurd rfl hn
 | cons x r=>exact SX r x (h x (by simp)) fun y hy=>h y (by simp [hy])
theorem Vf (s:YL):jn (pcs 32 s)=s:=by
 have:∀ (l:List YL),l≠[]->jn l=[32].intercalate l:=by
  intro l
  induction l with
  | nil=>intro h;exact absurd rfl h
  | cons x r ih=>
   intro _
   cases r with
   | nil=>rw [CZ];simp [List.intercalate]
   | cons y r=>
    rw [DY (by simp),ih (by simp)]
    simp [List.intercalate,List.intersperse]
 rw [this _ (G7 32 s),LW]
def PR (b:UInt8):Bool:=isL b||isD b||b==47
def Hb (s:YL):Bool:=wiB s.length 1 16&&s.all PR
def Ch (o:Ac) (x:Line):Bool:=decide (1<=x.Num/\x.Num<=65535)&&(decide (1<=x.Khz/\x.Khz<=10000000)&&(decide (1<=x.Mode/\x.Mode<=3)&&(decide (0<=x.Minute/\x.Minute<=20000)&&(Hb x.Call&&(Co o x.Sent&&Co o x.Got)))))
structure OkL (o:Ac) (x:Line):Prop where
 n:1<=x.Num/\x.Num<=65535
 k:1<=x.Khz/\x.Khz<=10000000
 m:1<=x.Mode/\x.Mode<=3
 t:0<=x.Minute/\x.Minute<=20000
 c:Hb x.Call=true
 s:Co o x.Sent=true
 g:Co o x.Got=true
theorem Cu {o:Ac} {x:Line}:Ch o x=true ↔ OkL o x:=by
 unfold Ch
 simp only [Bool.and_eq_true,decide_eq_true_eq]
 exact ⟨fun ⟨a,b,c,d,e,f,g⟩=>⟨a,b,c,d,e,f,g⟩,fun h=>⟨h.n,h.k,h.m,h.t,h.c,h.s,h.g⟩⟩
def DF (m:Int):YL:=if m=1 then [77] else if m=2 then [86] else [68]
def fsw (o:Ac) (E:Ae):List YL:=if fs o E=[] then [[45]] else fs o E
def tW (u:Nat):List YL:=[decDigits (u / 1440 + 1),dP 2 (u / 60 % 24)++dP 2 (u % 60)]
def QSO:YL:=[81,83,79]
def Jg (x:Line):List YL:=[QSO,decDigits x.Num.toNat,decDigits x.Khz.toNat,DF x.Mode]++tW x.Minute.toNat++[x.Call,[62]]
def FM (o:Ac) (x:Line):List YL:=Jg x++(fsw o x.Sent++[60]::fsw o x.Got)
def BB (o:Ac) (x:Line):YL:=jn (FM o x)
theorem Ru (u:Nat):E5 u=jn (tW u):=by unfold E5 tW;rw [DY (by simp),CZ]
theorem G3 (o:Ac) (E:Ae):E4 o E=jn (fsw o E):=by
 unfold E4 fsw
 split
 ·rw [CZ]
 ·rfl
theorem Xv (o:Ac) (E:Ae):fsw o E≠[]:=by
 unfold fsw
 split
 ·simp
 ·assumption
theorem Qn (o:Ac) (x:Line):jn [QSO,decDigits x.Num.toNat,decDigits x.Khz.toNat,DF x.Mode,E5 x.Minute.toNat,x.Call,[62],E4 o x.Sent,[60],E4 o x.Got]=BB o x:=by
 have h:=TO (L:=[[QSO],[decDigits x.Num.toNat],[decDigits x.Khz.toNat],[DF x.Mode],tW x.Minute.toNat,[x.Call],[[62]],fsw o x.Sent,[[60]],fsw o x.Got]) (by
  intro l hl
  simp only [List.mem_cons,List.not_mem_nil,or_false] at hl
  rcases hl with rfl | rfl | rfl | rfl | rfl | rfl | rfl | rfl | rfl | rfl
  all_goals first | exact Xv _ _ | simp [tW])
 simp only [List.map_cons,List.map_nil,CZ,<-Ru,<-G3] at h
 rw [h]
 unfold BB FM Jg
 simp
theorem Hc {o:Ac} {E:Ae} (h:Co o E=true):∀ w,w∈fsw o E->(32:UInt8)∉w/\w≠[60]/\w≠[62]/\w.length<=5:=by
 intro w hw
 unfold fsw at hw
 split at hw
 ·simp at hw;subst hw;decide
 ·obtain ⟨h1,h2,h3⟩:=L7 (okE h) w hw
  refine ⟨no32 h2,?_,?_,h1⟩
  ·rintro rfl;revert h2;decide
  ·rintro rfl;revert h2;decide
theorem OZ {s:YL} (h:Hb s=true):(32:UInt8)∉s/\s≠[60]/\s≠[62]/\1<=s.length/\s.length<=16:=by
 unfold Hb wiB at h
 simp only [Bool.and_eq_true,decide_eq_true_eq] at h
 obtain ⟨⟨h1,h2⟩,h3⟩:=h
 rw [List.all_eq_true] at h3
 refine ⟨fun hm=>?_,?_,?_,h1,h2⟩
 ·have:=h3 _ hm;revert this;decide
 ·rintro rfl;have:=h3 60 (by simp);revert this;decide
 ·rintro rfl;have:=h3 62 (by simp);revert this;decide
theorem Uk (m:Int):(32:UInt8)∉DF m/\DF m≠[60]:=by
 unfold DF;split
 ·decide
 ·split <;> decide
theorem Q5 (u:Nat):(32:UInt8)∉decDigits u/\decDigits u≠[60]:=by
 refine ⟨no32 (IZ u),fun h=>?_⟩
 have:=IZ u
 rw [h] at this;revert this;decide
theorem Na {o:Ac} {x:Line} (h:OkL o x):∀ w,w∈Jg x->(32:UInt8)∉w/\w≠[60]:=by
 intro w hw
 have hc:=OZ h.c
 have hall:(dP 2 (x.Minute.toNat / 60 % 24)++dP 2 (x.Minute.toNat % 60)).all isD=true:=by rw [List.all_append,JW,JW];rfl
 unfold Jg tW at hw
 simp only [List.mem_append,List.mem_cons,List.not_mem_nil,or_false] at hw
 rcases hw with ((rfl | rfl | rfl | rfl) | (rfl | rfl)) | (rfl | rfl)
 ·decide
 ·exact Q5 _
 ·exact Q5 _
 ·exact Uk _
 ·exact Q5 _
 ·refine ⟨no32 hall,fun e=>?_⟩
  rw [e] at hall;revert hall;decide
 ·exact ⟨hc.1,hc.2.1⟩
 ·decide
theorem FT {o:Ac} {x:Line} (h:OkL o x):pcs 32 (BB o x)=FM o x:=by
 refine TA (by unfold FM Jg;simp) fun w hw=>?_
 unfold FM at hw
 simp only [List.mem_append,List.mem_cons] at hw
 rcases hw with hw | hw | rfl | hw
 ·exact (Na h w hw).1
 ·exact (Hc h.s w hw).1
 ·decide
 ·exact (Hc h.g w hw).1
theorem Is (x:Line):(Jg x).length=8:=rfl
theorem WT:∀ (l:List YL) (k:Nat),(∀ w,w∈l->w.length<=k)->(jn l).length<=l.length * (k + 1)
 | [],k,_=>by simp [QX]
 | [x],k,h=>by have:=h x (by simp);rw [CZ];simp;omega
 | x::y::r,k,h=>by
  have:=h x (by simp)
  have:=WT (y::r) k fun w hw=>h w (List.mem_cons_of_mem _ hw)
  rw [DY (by simp),List.length_append,List.length_cons,List.length_cons,Nat.succ_mul]
  omega
theorem RT {o:Ac} {x:Line} (h:OkL o x):(BB o x).length<=300:=by
 have hc:=OZ h.c
 obtain ⟨n1,n2⟩:=h.n
 obtain ⟨k1,k2⟩:=h.k
 have hw:∀ w,w∈FM o x->w.length<=16:=by
  intro w hw
  have d1:=HV 4 x.Num.toNat (by omega)
  have d2:=HV 7 x.Khz.toNat (by omega)
  have d3:=Mb (u:=x.Minute.toNat / 1440 + 1) (by have:=h.t;omega)
  have d4:=Ge (u:=x.Minute.toNat / 60 % 24) (by omega)
  have d5:=Ge (u:=x.Minute.toNat % 60) (by omega)
  unfold FM Jg tW at hw
  simp only [List.mem_append,List.mem_cons,List.not_mem_nil,or_false] at hw
  rcases hw with (((rfl | rfl | rfl | rfl) | (rfl | rfl)) | (rfl | rfl)) | hw | rfl | hw
  ·decide
  ·omega
  ·omega
  ·unfold DF;split
   ·decide
   ·split <;> decide
  ·omega
  ·rw [List.length_append];omega
  ·omega
  ·decide
  ·have:=(Hc h.s w hw).2.2.2;omega
  ·decide
  ·have:=(Hc h.g w hw).2.2.2;omega
 have hl:(FM o x).length<=16:=by
  have h1:=O3 o x.Sent
  have h2:=O3 o x.Got
  have f:∀ E,(fs o E).length<=3->(fsw o E).length<=3:=fun E hE=>by
   unfold fsw;split
   ·simp
   ·exact hE
  have:=f _ h1
  have:=f _ h2
  unfold FM
  rw [List.length_append,Is,List.length_append,List.length_cons];omega
 have:=WT _ 16 hw
 have:(FM o x).length * 17<=16 * 17:=Nat.mul_le_mul_right _ hl
 unfold BB;omega
noncomputable def IQ (o:Ac) (s:YL):Option Line:=@dite _ (∃ x,Ch o x=true/\BB o x=s) (Classical.propDecidable _) (fun h=>some (Classical.choose h)) (fun _=>none)
theorem Kw {a b:Int} (ha:0<=a) (hb:0<=b) (h:decDigits a.toNat=decDigits b.toNat):a=b:=by
 have:=Lp a.toNat
 rw [h,Lp] at this;omega
theorem Vd {a b:Int} (ha:1<=a/\a<=3) (hb:1<=b/\b<=3) (h:DF a=DF b):a=b:=by
 have h1:a=1\/a=2\/a=3:=by omega
 have h2:b=1\/b=2\/b=3:=by omega
 rcases h1 with rfl | rfl | rfl <;> rcases h2 with rfl | rfl | rfl <;> first | rfl | exact absurd h (by decide)
theorem TP {o:Ac} {E G:Ae} (hE:Co o E=true) (hG:Co o G=true) (h:fsw o E=fsw o G):E=G:=by
 have e:E4 o E=E4 o G:=by rw [G3,G3,h]
 have h1:=E8 hE
 rw [e,E8 hG] at h1
 exact (congrArg Prod.fst h1).symm
theorem OA {a b c d:List YL} (ha:∀ w,w∈a->w≠[60]) (hc:∀ w,w∈c->w≠[60]) (h:a++[60]::b=c++[60]::d):a=c/\b=d:=by
 induction a generalizing c with
 | nil=>
  cases c with
  | nil=>simp at h;exact ⟨rfl,h⟩
  | cons y c=>simp at h;exact absurd h.1.symm (hc y (by simp))
 | cons x a ih=>
  cases c with
  | nil=>simp at h;exact absurd h.1 (ha x (by simp))
  | cons y c=>
   simp only [List.cons_append,List.cons.injEq] at h
   obtain ⟨h1,h2⟩:=ih (fun w hw=>ha w (by simp [hw])) (fun w hw=>hc w (by simp [hw])) h.2
   exact ⟨by rw [h.1,h1],h2⟩
theorem Vc {o:Ac} {x y:Line} (hx:OkL o x) (hy:OkL o y) (h:BB o x=BB o y):x=y:=by
 have hw:FM o x=FM o y:=by rw [<-FT hx,<-FT hy,h]
 unfold FM at hw
 obtain ⟨h1,h2⟩:=List.append_inj hw rfl
 obtain ⟨h3,h4⟩:=OA (fun w hw=>(Hc hx.s w hw).2.1) (fun w hw=>(Hc hy.s w hw).2.1) h2
 unfold Jg tW at h1
 simp only [List.cons_append,List.nil_append,List.cons.injEq,and_true,true_and] at h1
 obtain ⟨e1,e2,e3,e4,e5,e6⟩:=h1
 have t:x.Minute=y.Minute:=by
  have h1:E5 x.Minute.toNat=E5 y.Minute.toNat:=by unfold E5;rw [e4,e5]
  have h2:=IP (u:=x.Minute.toNat) (by have:=hx.t;omega)
  rw [h1,IP (u:=y.Minute.toNat) (by have:=hy.t;omega)] at h2
  have:=congrArg Prod.fst h2
  simp only at this
  have:=hx.t;have:=hy.t
  omega
 have a1:=Kw (by have:=hx.n;omega) (by have:=hy.n;omega) e1
 have a2:=Kw (by have:=hx.k;omega) (by have:=hy.k;omega) e2
 have a3:=Vd hx.m hy.m e3
 have a4:=TP hx.s hy.s h3
 have a5:=TP hx.g hy.g h4
 cases x;cases y
 simp only at a1 a2 a3 a4 a5 t e6
 subst a1 a2 a3 a4 a5 t e6
 rfl
theorem Gu {o:Ac} {s:YL} {x:Line}:IQ o s=some x ↔ Ch o x=true/\BB o x=s:=by
 unfold IQ
 constructor
 ·intro h
  split at h
  ·rename_i hx
   cases h
   exact Classical.choose_spec hx
  ·cases h
 ·rintro ⟨h1,h2⟩
  have hex:∃ x,Ch o x=true/\BB o x=s:=⟨x,h1,h2⟩
  rw [dif_pos hex]
  have h3:=Classical.choose_spec hex
  rw [Vc (Cu.1 h3.1) (Cu.1 h1) (h3.2.trans h2.symm)]
theorem RJ {o:Ac} {s:YL}:IQ o s=none ↔ ∀ x,Ch o x=true->BB o x≠s:=by
 constructor
 ·intro h x hx e
  rw [Gu.2 ⟨hx,e⟩] at h;cases h
 ·intro h
  cases hp:IQ o s with
  | none=>rfl
  | some x=>exact absurd (Gu.1 hp).2 (h x (Gu.1 hp).1)
end

section
open Go.Lib (decDigits)
def UE:YL:=[67,65,76,76]
def W4:YL:=[67,65,84,69,71,79,82,89]
def W2:YL:=[80,79,87,69,82]
def W3:YL:=[67,76,65,73,77,69,68]
def PC:YL:=[74,85,77,80,83]
def Qz:YL:=[69,78,68]
def Up:List Int->Bool
 | []=>true
 | [_]=>true
 | a::b::r=>decide (a < b)&&Up (b::r)
def KA (l:List Int):Bool:=l.all (fun n=>decide (1<=n/\n<=20000))&&(Up l&&decide (l.length<=16))
def hdW (l:Log) (k:Nat):List YL:=match k with
 | 0=>[UE,l.Call]
 | 1=>[W4,decDigits l.Category.toNat]
 | 2=>[W2,decDigits l.Power.toNat]
 | 3=>[W3,decDigits l.Claimed.toNat]
 | _=>PC::l.Jumps.map fun n=>decDigits n.toNat
def hdT (l:Log) (k:Nat):YL:=jn (hdW l k)
def hdV (l:Log) (k:Nat):Bool:=match k with
 | 0=>FN l.Call
 | 1=>decide (1<=l.Category/\l.Category<=9)
 | 2=>decide (1<=l.Power/\l.Power<=9999)
 | 3=>decide (0<=l.Claimed/\l.Claimed<=1000000)
 | _=>KA l.Jumps
def hdS (k:Nat) (v l:Log):Log:=match k with
 | 0=>{l with Call:=v.Call}
 | 1=>{l with Category:=v.Category}
 | 2=>{l with Power:=v.Power}
 | 3=>{l with Claimed:=v.Claimed}
 | _=>{l with Jumps:=v.Jumps}
theorem Uw {s:YL} (h:FN s=true):∀ b,b∈s->isL b=true\/isD b=true\/b=47:=by
 unfold FN at h
 cases hc:callB s with
 | none=>rw [hc] at h;cases h
 | some t=>
  obtain ⟨h1,h2⟩:=Te hc
  have e:∀ {l:YL},l.all isE=true->∀ b,b∈l->isL b=true\/isD b=true\/b=47:=fun hl b hb=>by
   have:=List.all_eq_true.1 hl b hb
   unfold isE at this
   rw [Bool.or_eq_true] at this
   rcases this with h | h
   ·exact .inl h
   ·exact .inr (.inl h)
  unfold okT at h1
  simp only [Bool.and_eq_true,Bool.or_eq_true,decide_eq_true_eq] at h1
  obtain ⟨⟨⟨⟨a1,a2⟩,a3⟩,_⟩,_⟩:=h1
  intro b hb
  rw [h2] at hb
  unfold NJ at hb
  rcases List.mem_append.1 hb with hb | hb
  ·by_cases ht:t.1=[]
   ·rw [if_pos ht] at hb;exact e (TV a2) b hb
   ·rw [if_neg ht] at hb
    rcases List.mem_append.1 hb with hb | hb
    ·rcases a1 with a1 | a1
     ·exact absurd a1 ht
     ·exact e (WH a1) b hb
    ·rcases List.mem_cons.1 hb with rfl | hb
     ·exact .inr (.inr rfl)
     ·exact e (TV a2) b hb
  ·by_cases ht:t.2.2=[]
   ·rw [if_pos ht] at hb;cases hb
   ·rw [if_neg ht] at hb
    rcases List.mem_cons.1 hb with rfl | hb
    ·exact .inr (.inr rfl)
    ·rcases a3 with a3 | a3
     ·exact absurd a3 ht
     ·exact e (T2 a3) b hb
def plB (b:UInt8):Bool:=decide (33<=b.toNat)&&decide (b.toNat<=95)
theorem W9 {b:UInt8} (h:plB b=true):b≠32/\b≠10/\b≠9/\b≠13/\ ¬ (97<=b.toNat/\b.toNat<=122):=by
 unfold plB at h
 simp only [Bool.and_eq_true,decide_eq_true_eq] at h
 refine ⟨?_,?_,?_,?_,by omega⟩ <;> · rintro rfl;revert h;decide
theorem Xl {b:UInt8} (h:isL b=true):plB b=true:=by unfold isL at h;unfold plB;simp at h ⊢;omega
theorem Vl {b:UInt8} (h:isD b=true):plB b=true:=by unfold isD at h;unfold plB;simp at h ⊢;omega
theorem X2 (u:Nat):(decDigits u).all plB=true:=by
 rw [List.all_eq_true]
 exact fun b hb=>Vl (List.all_eq_true.1 (IZ u) b hb)
def Wd (w:YL):Prop:=w≠[]/\w.all plB=true
theorem Tj (u:Nat):Wd (decDigits u):=⟨by have:=Ln u;intro e;rw [e] at this;simp at this,X2 u⟩
theorem Wd.no32 {w:YL} (h:Wd w):(32:UInt8)∉w:=fun hm=>(W9 (List.all_eq_true.1 h.2 _ hm)).1 rfl
theorem R5 {l:Log} {k:Nat} (h:hdV l k=true):hdW l k≠[]/\ ∀ w,w∈hdW l k->Wd w:=by
 match k,h with
 | 0,h=>
  refine ⟨by simp [hdW],fun w hw=>?_⟩
  simp only [hdW,List.mem_cons,List.not_mem_nil,or_false] at hw
  rcases hw with rfl | rfl
  ·exact ⟨by decide,by decide⟩
  ·refine ⟨?_,?_⟩
   ·rintro e
    have h:FN l.Call=true:=h
    rw [e] at h;revert h;decide
   ·rw [List.all_eq_true]
    intro b hb
    rcases Uw h b hb with h | h | rfl
    ·exact Xl h
    ·exact Vl h
    ·decide
 | 1,h=>
  refine ⟨by simp [hdW],fun w hw=>?_⟩
  simp only [hdW,List.mem_cons,List.not_mem_nil,or_false] at hw
  rcases hw with rfl | rfl
  ·exact ⟨by decide,by decide⟩
  ·exact Tj _
 | 2,h=>
  refine ⟨by simp [hdW],fun w hw=>?_⟩
  simp only [hdW,List.mem_cons,List.not_mem_nil,or_false] at hw
  rcases hw with rfl | rfl
  ·exact ⟨by decide,by decide⟩
  ·exact Tj _
 | 3,h=>
  refine ⟨by simp [hdW],fun w hw=>?_⟩
  simp only [hdW,List.mem_cons,List.not_mem_nil,or_false] at hw
  rcases hw with rfl | rfl
  ·exact ⟨by decide,by decide⟩
  ·exact Tj _
 | k + 4,h=>
  refine ⟨by simp [hdW],fun w hw=>?_⟩
  simp only [hdW,List.mem_cons,List.mem_map] at hw
  rcases hw with rfl | ⟨n,_,rfl⟩
  ·exact ⟨by decide,by decide⟩
  ·exact Tj _
theorem JT {l:Log} {k:Nat} (h:hdV l k=true):pcs 32 (hdT l k)=hdW l k:=TA (R5 h).1 fun w hw=>((R5 h).2 w hw).no32
theorem Ku {l:List Int} (h:KA l=true):∀ n,n∈l->1<=n/\n<=20000:=by
 unfold KA at h
 simp only [Bool.and_eq_true,List.all_eq_true,decide_eq_true_eq] at h
 exact h.1
theorem ND:∀ {a b:List Int},(∀ n,n∈a->0<=n)->(∀ n,n∈b->0<=n)->(a.map fun n=>decDigits n.toNat)=(b.map fun n=>decDigits n.toNat)->a=b
 | [],[],_,_,_=>rfl
 | [],_::_,_,_,h=>by simp at h
 | _::_,[],_,_,h=>by simp at h
 | x::a,y::b,ha,hb,h=>by
  simp only [List.map_cons,List.cons.injEq] at h
  rw [Kw (ha x (by simp)) (hb y (by simp)) h.1,ND (fun n hn=>ha n (by simp [hn])) (fun n hn=>hb n (by simp [hn])) h.2]
theorem Xo {u v:Log} {k:Nat} (hu:hdV u k=true) (hv:hdV v k=true) (h:hdT u k=hdT v k):∀ l,hdS k u l=hdS k v l:=by
 have e:hdW u k=hdW v k:=by rw [<-JT hu,<-JT hv,h]
 intro l
 match k,hu,hv,e with
 | 0,hu,hv,e=>
  simp only [hdW,List.cons.injEq,and_true,true_and] at e
  simp only [hdS,e]
 | 1,hu,hv,e=>
  simp only [hdW,List.cons.injEq,and_true,true_and] at e
  simp only [hdV,decide_eq_true_eq] at hu hv
  simp only [hdS,Kw (by omega) (by omega) e]
 | 2,hu,hv,e=>
  simp only [hdW,List.cons.injEq,and_true,true_and] at e
  simp only [hdV,decide_eq_true_eq] at hu hv
  simp only [hdS,Kw (by omega) (by omega) e]
 | 3,hu,hv,e=>
  simp only [hdW,List.cons.injEq,and_true,true_and] at e
  simp only [hdV,decide_eq_true_eq] at hu hv
  simp only [hdS,Kw (by omega) (by omega) e]
 | k + 4,hu,hv,e=>
  simp only [hdW,List.cons.injEq,true_and] at e
  have:=ND (fun n hn=>by have:=Ku (show KA u.Jumps=true from hu) n hn;omega) (fun n hn=>by have:=Ku (show KA v.Jumps=true from hv) n hn;omega) e
  simp only [hdS,this]
end
section
open Go.Lib (decDigits)
def lnE (s:YL):List (YL×Bool):=match (pcs 10 s).getLast?,(pcs 10 s).dropLast with
 | some [],l=>l.map fun x=>(x,true)
 | some x,l=>l.map (fun x=>(x,true))++[(x,false)]
 | none,l=>l.map fun x=>(x,true)
theorem Vb (s:YL):(lnE s).flatMap (fun p=>if p.2=true then p.1++[10] else p.1)=s:=by
 have h:=LW 10 s
 have hn:=G7 10 s
 have key:∀ (l:List YL),l≠[]->[(10:UInt8)].intercalate l=l.dropLast.flatMap (fun y=>y++[10])++(l.getLast?.getD []):=by
  intro l
  induction l with
  | nil=>intro h;exact absurd rfl h
  | cons x r ih=>
   intro _
   cases r with
   | nil=>simp [List.intercalate]
   | cons y r=>
    have:=ih (by simp)
    simp only [List.intercalate,List.intersperse,List.flatten_cons] at this ⊢
    rw [this]
    simp
 rw [key _ hn] at h
 unfold lnE
 cases hl:(pcs 10 s).getLast? with
 | none=>exact absurd (List.getLast?_eq_none_iff.1 hl) hn
 | some x=>
  rw [hl] at h
  have e:∀ l:List YL,(l.map fun x=>(x,true)).flatMap (fun p=>if p.2=true then p.1++[10] else p.1)=l.flatMap fun y=>y++[10]:=by
   intro l
   induction l with
   | nil=>rfl
   | cons a l ih=>rw [List.map_cons,List.flatMap_cons,List.flatMap_cons,ih];rfl
  cases x with
  | nil=>
   simp only
   rw [e]
   simpa using h
  | cons b x=>
   simp only
   rw [List.flatMap_append,e]
   simpa using h
def SZ (o:Ac) (l:List Line) (i:Nat):Bool:=match l[i]? with
 | some x=>Ch o x&&(decide (i=0)||match l[i - 1]? with
  | some y=>decide (y.Num < x.Num)&&decide (y.Minute<=x.Minute)
  | none=>true)
 | none=>true
def WU (l:Log):Bool:=hdV l 0&&(hdV l 1&&(hdV l 2&&(hdV l 3&&hdV l 4)))
def XS (o:Ac) (l:Log):List YL:=[hdT l 0,hdT l 1,hdT l 2,hdT l 3,hdT l 4]++l.Lines.map (BB o)++[Qz]
def XR (o:Ac) (l:Log):YL:=(XS o l).flatMap fun y=>y++[10]
end
def A2 (N:Nat) (x0 x1 x2:Int):Option Bool:=
 some ((decide (x1<=x0))&&(decide (x0<=x2)))
theorem AL:Af Tryz.prog 73:=fun _ _=>by kernel_rfl
theorem AU (N:Nat) (w0:World) (F0:Mem) (hF:YN w0 F0) (x0 x1 x2:Int) (r:Bool) (h:A2 N x0 x1 x2=some r):
  Calls Tryz.prog 73 ([(vi x0),(vi x1),(vi x2)]:List Value).toArray w0 (AC w0 F0 fun F' v=>v=(.bool r)):=by
 have h1:=Yt hF
 refine Go 15 Tryz.func73<|Sq (Rg [0] ?_)
 refine Vs 1<|Nss (Rg (rG 9) ?_)
 refine Yx (fun f w=>∃ (F1:Mem),HS w0 F0 w F1 []/\Yr F0 F1/\FI f [] [(6,(.bool ((decide (x1<=x0))&&(decide (x0<=x2)))))]) ?_ ?_
 ·refine Vs 4 ?_
  refine Yw (decide (x1<=x0)) (fun h0=>?_) (fun h0=>?_)
  ·refine Vgs h0 3 ?_
   refine Pk1 h0<|Vs 1 ?_
   exact Yn ⟨rfl,F0,h1,(Ys _),(fJ ⟨(congrArg Value.bool (IG h0 rfl)),trivial⟩)⟩
  ·refine Ss h0 3 ?_
   refine Pk0 h0<|Vs 1 ?_
   exact Yn ⟨rfl,F0,h1,(Ys _),(fJ ⟨(congrArg Value.bool (IH h0 rfl)),trivial⟩)⟩
 ·rintro f h3 ⟨F1,h2,h4,⟨_,rfl⟩⟩
  refine Ab<|Rt ?_
  obtain rfl:=Aa h
  exact Re [(.bool ((decide (x1<=x0))&&(decide (x0<=x2))))] h2 rfl
def EI (N:Nat) (x0:YL) (h5:Bool):(Bool×Int)->Option (A9 Bool (Bool×Int)):=fun h0=>
 (bif (decide (h0.2 < (x0.length:Int))) then ((Hu x0 h0.2).bind fun h1=>((bif h0.1 then ((A2 N (W64 h1) 65 90).bind fun h2=>(bif h2 then some true else ((A2 N (W64 h1) 48 57).bind fun h3=>(bif h3 then some true else some (h1==47))))) else some false).bind fun h4=>some (.next (h4,(W64 (h0.2 + 1)))))) else some (.done (h0.1,h0.2)))
def IV (N:Nat) (x0:YL):Option Bool:=
 ((A2 N (x0.length:Int) 1 16).bind fun h0=>((AH (EI N x0 h0) N (h0,0)).bind fun o=>o.k (fun r=>some r) (fun h1=>some h1.1)))
theorem PN:Af Tryz.prog 74:=fun _ _=>by kernel_rfl
theorem Rh (N:Nat) (w0:World) (F0:Mem) (hF:YN w0 F0) (x0:YL) (r:Bool) (h:IV N x0=some r):
  Calls Tryz.prog 74 ([(sv x0)]:List Value).toArray w0 (AC w0 F0 fun F' v=>v=(.bool r)):=by
 have h9:=Yt hF
 refine Go 34 Tryz.func74<|Sq (Rg [0] ?_)
 refine Vs 1<|Nss (Rg (rG 4) ?_)
 refine Vs 2 ?_
 obtain ⟨ha,hh,hk⟩:=bS h
 refine Cl' AL h9 (AU N w0 F0 h9.pers ((x0.length:Int)) 1 16 _ hh) ?_
 rintro _ F1 bg hl bh rfl
 refine Vs 1<|Nss<|Sq (Rg [0,1,2] ?_)
 refine Vs 3<|Nt ?_
 obtain ⟨hb,hm,hn⟩:=bS hk
 refine Yy (fun f w=>∃ (h4:(Bool×Int)) (F3:Mem),hb=.done h4/\HS w0 F0 w F3 []/\Yr F1 F3/\FI f [] [(3,(.bool h4.1))]) ?_ ?_
 ·refine Bk ?_
  refine Yq (by kernel_rfl) (fun m f w=>∃ (h1:(Bool×Int)) (F2:Mem),AH (EI N x0 ha) m h1=some hb/\HS w0 F0 w F2 []/\Yr F1 F2/\FI f [] [(0,(sv x0)),(3,(.bool h1.1)),(10,(vi (x0.length:Int))),(11,(vi h1.2))]) N ⟨(ha,0),F1,hm,hl,(Ys _),fI⟩ ?_
  rintro bi f ho ⟨h1,F2,hp,h5,hc,⟨_,rfl⟩⟩
  obtain ⟨hq,bj,rfl,hr,hd⟩:=AD hp
  refine Sq (Rg [0] ?_)
  refine Vs 1<|Nss<|Cd hr (fun hs ht=>?_) (fun hs hu=>?_)
  ·refine Sc ?_
   refine Ab<|Sq<|Bk<|Sq (Rg [0,1] ?_)
   refine Vs 2<|Nss (Rg (rG 4) ?_)
   refine Vs 2 ?_
   obtain ⟨h6,hv,hw⟩:=bS ht
   refine V 16 5 (Ce (t:=9) (x:=(.tmp 14)) (y:=(.tmp 15)) (a:=x0) (k:=.i64) (i:=h1.2) (v:=h6) rfl rfl (by kernel_rfl) hv)<|Vs 1<|Nt<|Rg (rG 16) ?_
   obtain ⟨he,hx,hy⟩:=bS hw
   refine Yx (fun f w=>∃ (F4:Mem),HS w0 F0 w F4 []/\Yr F2 F4/\FI f [] [(0,(sv x0)),(3,(.bool he)),(10,(vi (x0.length:Int))),(11,(vi h1.2))]) ?_ ?_
   ·refine Vs 2 ?_
    refine Sp hx (fun h0 hz=>?_) (fun h0 b0=>?_)
    ·refine Vgs h0 2 ?_
     obtain ⟨bk,b1,b2⟩:=bS hz
     refine Cg h0 AL h5 (AU N ho F2 h5.pers ((W64 h6)) 65 90 _ b1) ?_
     rintro _ F5 b3 h7 h8 rfl
     refine Vgs h0 1<|Sp b2 (fun h2 b4=>?_) (fun h2 b5=>?_)
     ·refine Ss h2 3 ?_
      refine Pg1 h0 h2<|Vgs h0 1<|Ss (rfl:true=true) 2<|Pg1 h0 (rfl:true=true)<|Pk1 h0<|Vs 1 ?_
      obtain rfl:=Aa b4
      exact Yn ⟨rfl,F5,h7,h8,fI⟩
     ·refine Vgs h2 2 ?_
      obtain ⟨bl,b6,b7⟩:=bS b5
      refine Cg h2 AL h7 (AU N b3 F5 h7.pers ((W64 h6)) 48 57 _ b6) ?_
      rintro _ F6 bm hf hg rfl
      refine Pg0 h0 h2<|Vgs h0 1<|Sp b7 (fun h3 b8=>?_) (fun h3 b9=>?_)
      ·refine Ss h3 2 ?_
       refine Pg1 h0 h3<|Pk1 h0<|Vs 1 ?_
       obtain rfl:=Aa b8
       exact Yn ⟨rfl,F6,hf,(h8.t hg),fI⟩
      ·refine Vgs h3 2 ?_
       refine Pg0 h0 h3<|Pk1 h0<|Vs 1 ?_
       obtain rfl:=Aa b9
       exact Yn ⟨rfl,F6,hf,(h8.t hg),fI⟩
    ·refine Ss h0 4 ?_
     refine Su' 3<|Ss h0 2<|Su' 2<|Ss h0 1<|Pk0 h0<|Vs 1 ?_
     obtain rfl:=Aa b0
     exact Yn ⟨rfl,F2,h5,(Ys _),fI⟩
   ·rintro f bn ⟨F4,ba,bb,⟨_,rfl⟩⟩
    refine Ao<|Ab<|Rg [0,1]<|Vs 2<|Yn ?_
    have bc:=AA hy hd
    exact ⟨hq,Nat.lt_succ_self _,(he,(W64 (h1.2 + 1))),F4,bc,ba,(hc.t bb),fI⟩
  ·refine Ex ?_
   refine Al<|Al<|Av rfl ?_
   have bd:=AB hu hd
   exact .inl ⟨rfl,(h1.1,h1.2),F2,bd,h5,hc,fI⟩
 ·rintro f bo ⟨h4,F3,rfl,be,bp,⟨_,rfl⟩⟩
  have bf:=A4 hn
  refine Ab<|Sq (Rg [0,1] ?_)
  refine Vs 2<|Nt<|Rt ?_
  obtain rfl:=Aa bf
  exact Re [(.bool h4.1)] be rfl
def C7 (N:Nat) (x0:Ac) (x1:Line):Option Bool:=
 (((A2 N x1.Num 1 65535).bind fun h0=>(bif h0 then ((A2 N x1.Khz 1 10000000).bind fun h1=>(bif h1 then ((A2 N x1.Mode 1 3).bind fun h2=>(bif h2 then ((A2 N x1.Minute 0 20000).bind fun h3=>(bif h3 then ((IV N x1.Call).bind fun h4=>(bif h4 then ((Cj N ({Report:=x0.Report,Serial:=x0.Serial,Zone:=x0.Zone}:Ac) ({Report:=x1.Sent.Report,Serial:=x1.Sent.Serial,Zone:=x1.Sent.Zone}:Ae)).bind fun h5=>(bif h5 then ((Cj N ({Report:=x0.Report,Serial:=x0.Serial,Zone:=x0.Zone}:Ac) ({Report:=x1.Got.Report,Serial:=x1.Got.Serial,Zone:=x1.Got.Zone}:Ae)).bind fun h6=>some h6) else some false)) else some false)) else some false)) else some false)) else some false)) else some false)).bind fun h7=>some h7)
theorem HJ:Af Tryz.prog 21:=fun _ _=>by kernel_rfl
theorem ID (N:Nat) (w0:World) (F0:Mem) (hF:YN w0 F0) (x0:Ac) (x1:Line) (r:Bool) (h:C7 N x0 x1=some r):
  Calls Tryz.prog 21 ([(.agg (Ag x0)),(.agg (BX x1))]:List Value).toArray w0 (AC w0 F0 fun F' v=>v=(.bool r)):=by
 have hm:=Yt hF
 refine Go 40 Tryz.func21<|Sq (Rg [0,1,2] ?_)
 refine Bx' 23 (Ag x0) hm (fun bq br hn=>?_)
 refine Bx' 34 (BX x1) hn (fun bs ho hg=>?_)
 refine Vs 1<|Nss (Rg (rG 36) ?_)
 obtain ⟨hk,hp,hq⟩:=bS h
 refine Yx (fun f w=>∃ (F1:Mem),HS w0 F0 w F1 []/\Yr F0 F1/\FI f [] [(4,(.bool hk))]) ?_ ?_
 ·refine Vs 1 ?_
  refine Ld hg.at0 ?_
  obtain ⟨bt,hr,hs⟩:=bS hp
  refine Cl' AL hg (AU N ho F0 hg.pers x1.Num 1 65535 _ hr) ?_
  rintro _ F2 ht hb h2 rfl
  refine Vs 1<|Sp hs (fun h3 hu=>?_) (fun h3 hv=>?_)
  ·refine Vgs h3 1 ?_
   refine Lg h3 hb.at0 ?_
   obtain ⟨bu,hw,hx⟩:=bS hu
   refine Cg h3 AL hb (AU N ht F2 hb.pers x1.Khz 1 10000000 _ hw) ?_
   rintro _ F3 hy hc h7 rfl
   refine Pk1 h3<|Vs 1<|Sp hx (fun h4 hz=>?_) (fun h4 b0=>?_)
   ·refine Vgs h4 1 ?_
    refine Lg h4 hc.at0 ?_
    obtain ⟨bv,b1,b2⟩:=bS hz
    refine Cg h4 AL hc (AU N hy F3 hc.pers x1.Mode 1 3 _ b1) ?_
    rintro _ F4 b3 hd h8 rfl
    refine Pk1 h4<|Vs 1<|Sp b2 (fun h5 b4=>?_) (fun h5 b5=>?_)
    ·refine Vgs h5 1 ?_
     refine Lg h5 hd.at0 ?_
     obtain ⟨bw,b6,b7⟩:=bS b4
     refine Cg h5 AL hd (AU N b3 F4 hd.pers x1.Minute 0 20000 _ b6) ?_
     rintro _ F5 b8 he hf rfl
     refine Pk1 h5<|Vs 1<|Sp b7 (fun h6 b9=>?_) (fun h6 ba=>?_)
     ·refine Vgs h6 1 ?_
      refine Lg h6 he.at0 ?_
      obtain ⟨bx,bb,bc⟩:=bS b9
      refine Cg h6 PN he (Rh N b8 F5 he.pers x1.Call _ bb) ?_
      rintro _ F6 bd h9 hh rfl
      refine Pk1 h6<|Vs 1<|Sp bc (fun h0 be=>?_) (fun h0 bf=>?_)
      ·refine Lg h0 h9.at1 ?_
       refine Vgs h0 1<|Lg h0 h9.at0 ?_
       obtain ⟨bz,bg,bh⟩:=bS be
       refine Cg h0 Ed h9 (EB N bd F6 h9.pers (({Report:=x0.Report,Serial:=x0.Serial,Zone:=x0.Zone}:Ac)) (({Report:=x1.Sent.Report,Serial:=x1.Sent.Serial,Zone:=x1.Sent.Zone}:Ae)) _ bg) ?_
       rintro _ F7 bi ha hl rfl
       refine Pk1 h0<|Vs 1<|Sp bh (fun h1 bj=>?_) (fun h1 bk=>?_)
       ·refine Lg h1 ha.at1 ?_
        refine Vgs h1 1<|Lg h1 ha.at0 ?_
        obtain ⟨c0,bl,bm⟩:=bS bj
        refine Cg h1 Ed ha (EB N bi F7 ha.pers (({Report:=x0.Report,Serial:=x0.Serial,Zone:=x0.Zone}:Ac)) (({Report:=x1.Got.Report,Serial:=x1.Got.Serial,Zone:=x1.Got.Zone}:Ae)) _ bl) ?_
        rintro _ F8 c1 bn bo rfl
        refine Pk1 h1<|Vs 1 ?_
        obtain rfl:=Aa bm
        exact Yn ⟨rfl,F8,bn.dr0.dr0,((((((h2.t h7).trans h8).trans hf).trans hh).trans hl).trans bo),fI⟩
       ·refine Ss h1 4 ?_
        refine Pk0 h1<|Vs 1 ?_
        obtain rfl:=Aa bk
        exact Yn ⟨rfl,F7,ha.dr0.dr0,(((((h2.t h7).trans h8).trans hf).trans hh).trans hl),fI⟩
      ·refine Ss h0 4 ?_
       refine Pk0 h0<|Vs 1<|Ss (rfl:false=false) 4<|Pk0 (rfl:false=false)<|Vs 1 ?_
       obtain rfl:=Aa bf
       exact Yn ⟨rfl,F6,h9.dr0.dr0,((((h2.t h7).trans h8).trans hf).trans hh),fI⟩
     ·refine Ss h6 3 ?_
      refine Pk0 h6<|Vs 1<|Ss (rfl:false=false) 4<|Pk0 (rfl:false=false)<|Vs 1<|Ss (rfl:false=false) 4<|Pk0 (rfl:false=false)<|Vs 1 ?_
      obtain rfl:=Aa ba
      exact Yn ⟨rfl,F5,he.dr0.dr0,(((h2.t h7).trans h8).trans hf),fI⟩
    ·refine Ss h5 3 ?_
     refine Pk0 h5<|Vs 1<|Ss (rfl:false=false) 3<|Pk0 (rfl:false=false)<|Vs 1<|Ss (rfl:false=false) 4<|Pk0 (rfl:false=false)<|Vs 1<|Ss (rfl:false=false) 4<|Pk0 (rfl:false=false)<|Vs 1 ?_
     obtain rfl:=Aa b5
     exact Yn ⟨rfl,F4,hd.dr0.dr0,((h2.t h7).trans h8),fI⟩
   ·refine Ss h4 3 ?_
    refine Pk0 h4<|Vs 1<|Ss (rfl:false=false) 3<|Pk0 (rfl:false=false)<|Vs 1<|Ss (rfl:false=false) 3<|Pk0 (rfl:false=false)<|Vs 1<|Ss (rfl:false=false) 4<|Pk0 (rfl:false=false)<|Vs 1<|Ss (rfl:false=false) 4<|Pk0 (rfl:false=false)<|Vs 1 ?_
    obtain rfl:=Aa b0
    exact Yn ⟨rfl,F3,hc.dr0.dr0,(h2.t h7),fI⟩
  ·refine Ss h3 3 ?_
   refine Pk0 h3<|Vs 1<|Ss (rfl:false=false) 3<|Pk0 (rfl:false=false)<|Vs 1<|Ss (rfl:false=false) 3<|Pk0 (rfl:false=false)<|Vs 1<|Ss (rfl:false=false) 3<|Pk0 (rfl:false=false)<|Vs 1<|Ss (rfl:false=false) 4<|Pk0 (rfl:false=false)<|Vs 1<|Ss (rfl:false=false) 4<|Pk0 (rfl:false=false)<|Vs 1 ?_
   obtain rfl:=Aa hv
   exact Yn ⟨rfl,F2,hb.dr0.dr0,h2,fI⟩
 ·rintro f c3 ⟨F1,bp,c4,⟨_,rfl⟩⟩
  refine Ab<|Rt ?_
  obtain rfl:=Aa hq
  exact Re [(.bool hk)] bp rfl
def Bn (N:Nat) (x0 x1 x2:Int):Option Bool:=
 some ((decide (x0>=x1))&&(decide (x0<=x2)))
theorem Bf:Af Tryz.prog 76:=fun _ _=>by kernel_rfl
theorem Bx (N:Nat) (w0:World) (F0:Mem) (hF:YN w0 F0) (x0 x1 x2:Int) (r:Bool) (h:Bn N x0 x1 x2=some r):
  Calls Tryz.prog 76 ([(vi x0),(vi x1),(vi x2)]:List Value).toArray w0 (AC w0 F0 fun F' v=>v=(.bool r)):=by
 have h1:=Yt hF
 refine Go 15 Tryz.func76<|Sq (Rg [0] ?_)
 refine Vs 1<|Nss (Rg (rG 9) ?_)
 refine Yx (fun f w=>∃ (F1:Mem),HS w0 F0 w F1 []/\Yr F0 F1/\FI f [] [(6,(.bool ((decide (x0>=x1))&&(decide (x0<=x2)))))]) ?_ ?_
 ·refine Vs 4 ?_
  refine Yw (decide (x0>=x1)) (fun h0=>?_) (fun h0=>?_)
  ·refine Vgs h0 3 ?_
   refine Pk1 h0<|Vs 1 ?_
   exact Yn ⟨rfl,F0,h1,(Ys _),(fJ ⟨(congrArg Value.bool (IG h0 rfl)),trivial⟩)⟩
  ·refine Ss h0 3 ?_
   refine Pk0 h0<|Vs 1 ?_
   exact Yn ⟨rfl,F0,h1,(Ys _),(fJ ⟨(congrArg Value.bool (IH h0 rfl)),trivial⟩)⟩
 ·rintro f h3 ⟨F1,h2,h4,⟨_,rfl⟩⟩
  refine Ab<|Rt ?_
  obtain rfl:=Aa h
  exact Re [(.bool ((decide (x0>=x1))&&(decide (x0<=x2))))] h2 rfl
def EM (N:Nat) (x0:Int):Option Bool:=
 some (bif (decide (x0>=65)) then ((decide (x0<=90))||(bif (decide (x0>=48)) then ((decide (x0<=57))||(x0==47)) else (x0==47))) else (bif (decide (x0>=48)) then ((decide (x0<=57))||(x0==47)) else (x0==47)))
theorem Lr:Af Tryz.prog 141:=fun _ _=>by kernel_rfl
theorem Mo (N:Nat) (w0:World) (F0:Mem) (hF:YN w0 F0) (x0:Int) (r:Bool) (h:EM N x0=some r):
  Calls Tryz.prog 141 ([(.int .u8 x0)]:List Value).toArray w0 (AC w0 F0 fun F' v=>v=(.bool r)):=by
 have h4:=Yt hF
 refine Go 21 Tryz.func141<|Sq (Rg [0] ?_)
 refine Vs 1<|Nss (Rg (rG 19) ?_)
 refine Yx (fun f w=>∃ (F1:Mem),HS w0 F0 w F1 []/\Yr F0 F1/\FI f [] [(2,(.bool (bif (decide (x0>=65)) then ((decide (x0<=90))||(bif (decide (x0>=48)) then ((decide (x0<=57))||(x0==47)) else (x0==47))) else (bif (decide (x0>=48)) then ((decide (x0<=57))||(x0==47)) else (x0==47)))))]) ?_ ?_
 ·refine Vs 3 ?_
  refine Yw (decide (x0>=65)) (fun h1=>?_) (fun h1=>?_)
  ·refine Vgs h1 2 ?_
   refine Pk1 h1<|Vs 1<|Yw (decide (x0<=90)) (fun h0=>?_) (fun h0=>?_)
   ·refine Ss h0 3 ?_
    refine Su' 2<|Ss h0 1<|Pk1 h0<|Vs 1<|Ss (rfl:true=true) 2<|Pk1 (rfl:true=true)<|Vs 1 ?_
    exact Yn ⟨rfl,F0,h4,(Ys _),(fJ ⟨(congrArg Value.bool (IF h1 (Fc h0 rfl))),trivial⟩)⟩
   ·refine Vgs h0 3 ?_
    refine Yw (decide (x0>=48)) (fun h2=>?_) (fun h2=>?_)
    ·refine Vgs h2 2 ?_
     refine Pg1 h0 h2<|Pk0 h0<|Vs 1<|Yw (decide (x0<=57)) (fun h5=>?_) (fun h5=>?_)
     ·refine Ss h5 2 ?_
      refine Pk1 h5<|Vs 1 ?_
      exact Yn ⟨rfl,F0,h4,(Ys _),(fJ ⟨(congrArg Value.bool (IF h1 (Cm h0 (IF h2 (Fc h5 rfl))))),trivial⟩)⟩
     ·refine Vgs h5 2 ?_
      refine Pk0 h5<|Vs 1 ?_
      exact Yn ⟨rfl,F0,h4,(Ys _),(fJ ⟨(congrArg Value.bool (IF h1 (Cm h0 (IF h2 (Cm h5 rfl))))),trivial⟩)⟩
    ·refine Ss h2 2 ?_
     refine Pg0 h0 h2<|Pk0 h0<|Vs 1<|Vg 18 5 14 false 17 rfl (mv 0 (.int .u8 x0))<|Vg 19 4 14 false 17 rfl (IK (t:=5) (t':=5) (x:=(.tmp 18)) (y:=(.const (.int .u8 47))) (k:=.u8) (a:=x0) (b:=47) rfl rfl)<|Pk0 (rfl:false=false)<|Vs 1 ?_
     exact Yn ⟨rfl,F0,h4,(Ys _),(fJ ⟨(congrArg Value.bool (IF h1 (Cm h0 (K8 h2 rfl)))),trivial⟩)⟩
  ·refine Ss h1 2 ?_
   refine Pk0 h1<|Vs 1<|Vg 10 5 6 false 9 rfl (mv 0 (.int .u8 x0))<|Vg 11 4 6 false 9 rfl (Og (t:=5) (t':=5) (x:=(.tmp 10)) (y:=(.const (.int .u8 48))) (k:=.u8) (a:=x0) (b:=48) rfl rfl)<|Vg 12 4 6 false 9 rfl (mv 11 (.bool (decide (x0>=48))))<|Yw (decide (x0>=48)) (fun h3=>?_) (fun h3=>?_)
   ·refine Vgs h3 2 ?_
    refine Vg 15 4 6 false 9 rfl (p1 12 (.tmp 14) (.const (.bool false)) (.bool (decide (x0<=57))) h3)<|Pk0 (rfl:false=false)<|Vs 1<|Yw (decide (x0<=57)) (fun h6=>?_) (fun h6=>?_)
    ·refine Ss h6 2 ?_
     refine Pk1 h6<|Vs 1 ?_
     exact Yn ⟨rfl,F0,h4,(Ys _),(fJ ⟨(congrArg Value.bool (K8 h1 (IF h3 (Fc h6 rfl)))),trivial⟩)⟩
    ·refine Vgs h6 2 ?_
     refine Pk0 h6<|Vs 1 ?_
     exact Yn ⟨rfl,F0,h4,(Ys _),(fJ ⟨(congrArg Value.bool (K8 h1 (IF h3 (Cm h6 rfl)))),trivial⟩)⟩
   ·refine Ss h3 2 ?_
    refine Vg 15 4 6 false 9 rfl (p0 12 (.tmp 14) (.const (.bool false)) (.bool false) h3)<|Pk0 (rfl:false=false)<|Vs 1<|Vg 18 5 14 false 17 rfl (mv 0 (.int .u8 x0))<|Vg 19 4 14 false 17 rfl (IK (t:=5) (t':=5) (x:=(.tmp 18)) (y:=(.const (.int .u8 47))) (k:=.u8) (a:=x0) (b:=47) rfl rfl)<|Pk0 (rfl:false=false)<|Vs 1 ?_
    exact Yn ⟨rfl,F0,h4,(Ys _),(fJ ⟨(congrArg Value.bool (K8 h1 (K8 h3 rfl))),trivial⟩)⟩
 ·rintro f h8 ⟨F1,h7,h9,⟨_,rfl⟩⟩
  refine Ab<|Rt ?_
  obtain rfl:=Aa h
  exact Re [(.bool (bif (decide (x0>=65)) then ((decide (x0<=90))||(bif (decide (x0>=48)) then ((decide (x0<=57))||(x0==47)) else (x0==47))) else (bif (decide (x0>=48)) then ((decide (x0<=57))||(x0==47)) else (x0==47))))] h7 rfl
def Fk (N:Nat) (x0:YL):Int->Option (A9 Bool Int):=fun h0=>
 (bif (decide (h0 < (x0.length:Int))) then ((Hu x0 h0).bind fun h1=>((EM N h1).bind fun h2=>(bif (!h2) then some (.ret false) else some (.next (W64 (h0 + 1)))))) else some (.done h0))
def Hy (N:Nat) (x0:YL):Option Bool:=
 (bif ((decide ((x0.length:Int) < 1))||(decide ((x0.length:Int) > 16))) then some false else ((AH (Fk N x0) N 0).bind fun o=>o.k (fun r=>some r) (fun h0=>some true)))
theorem Pa:Af Tryz.prog 77:=fun _ _=>by kernel_rfl
theorem PT (N:Nat) (w0:World) (F0:Mem) (hF:YN w0 F0) (x0:YL) (r:Bool) (h:Hy N x0=some r):
  Calls Tryz.prog 77 ([(sv x0)]:List Value).toArray w0 (AC w0 F0 fun F' v=>v=(.bool r)):=by
 have h4:=Yt hF
 refine Go 23 Tryz.func77<|Sq (Rg [0] ?_)
 refine Vs 1<|Nss<|Sq (Rg (rG 8) ?_)
 refine Yx (fun f w=>∃ (F1:Mem),HS w0 F0 w F1 []/\Yr F0 F1/\FI f [] [(0,(sv x0)),(11,(.bool ((decide ((x0.length:Int) < 1))||(decide ((x0.length:Int) > 16)))))]) ?_ ?_
 ·refine Vs 4 ?_
  refine Yw (decide ((x0.length:Int) < 1)) (fun h0=>?_) (fun h0=>?_)
  ·refine Ss h0 3 ?_
   refine Pk1 h0 ?_
   exact Yn ⟨rfl,F0,h4,(Ys _),(fJ ⟨rfl,(congrArg Value.bool (Fc h0 rfl)),trivial⟩)⟩
  ·refine Vgs h0 3 ?_
   refine Pk0 h0 ?_
   exact Yn ⟨rfl,F0,h4,(Ys _),(fJ ⟨rfl,(congrArg Value.bool (Cm h0 rfl)),trivial⟩)⟩
 ·rintro f b1 ⟨F1,h5,b2,⟨_,rfl⟩⟩
  refine Ab<|Cd h (fun hc hd=>?_) (fun hc he=>?_)
  ·refine Sq (Rg [0] ?_)
   refine Vs 1<|Nt<|Rt<|Ad ?_
   obtain rfl:=Aa hd
   exact Re [(.bool false)] h5 rfl
  ·refine Sc ?_
   refine Ab<|Sq<|Sq (Rg [0] ?_)
   refine Vs 1<|Nt ?_
   obtain ⟨h6,hf,h7⟩:=bS he
   refine Yy (fun f w=>∃ (h8:Int) (F3:Mem),h6=.done h8/\HS w0 F0 w F3 []/\Yr F1 F3/\FI f [] []) ?_ ?_
   ·refine Bk ?_
    refine Yq (by kernel_rfl) (fun m f w=>∃ (h1:Int) (F2:Mem),AH (Fk N x0) m h1=some h6/\HS w0 F0 w F2 []/\Yr F1 F2/\FI f [] [(0,(sv x0)),(3,(vi h1))]) N ⟨0,F1,hf,h5,(Ys _),fI⟩ ?_
    rintro b3 f hg ⟨h1,F2,hh,h2,h9,⟨_,rfl⟩⟩
    obtain ⟨hk,b4,rfl,hl,h3⟩:=AD hh
    refine Sq<|Sq (Rg (rG 4) ?_)
    refine Vs 4<|Nt<|Cd hl (fun hm hn=>?_) (fun hm ho=>?_)
    ·refine Sc ?_
     refine Ab<|Sq<|Bk<|Sq (Rg (rG 5) ?_)
     refine Vs 2 ?_
     obtain ⟨ha,hp,hq⟩:=bS hn
     refine V 20 5 (Ce (t:=9) (x:=(.tmp 18)) (y:=(.tmp 19)) (a:=x0) (k:=.i64) (i:=h1) (v:=ha) rfl rfl (by kernel_rfl) hp) ?_
     obtain ⟨b5,hr,hs⟩:=bS hq
     refine Cl' Lr h2 (Mo N hg F2 h2.pers ha _ hr) ?_
     rintro _ F4 b6 hb ht rfl
     refine Vs 1<|Nt<|Cd hs (fun hu hv=>?_) (fun hu hw=>?_)
     ·refine Sq (Rg [0] ?_)
      refine Vs 1<|Nt<|Rt<|Aq<|Ad<|Ad<|Aq ?_
      have hret:=Bq hv h3
      subst hret
      refine .inr<|Ad ?_
      obtain rfl:=Aa h7
      exact Re [(.bool false)] hb rfl
     ·refine Sc ?_
      refine Ao<|Ab<|Rg [0,1,2]<|Vs 3<|Yn ?_
      have hx:=AA hw h3
      exact ⟨hk,Nat.lt_succ_self _,(W64 (h1 + 1)),F4,hx,hb,(h9.t ht),fI⟩
    ·refine Ex ?_
     refine Al<|Al<|Av rfl ?_
     have hy:=AB ho h3
     exact .inl ⟨rfl,h1,F2,hy,h2,h9,fI⟩
   ·rintro f b7 ⟨h8,F3,rfl,hz,b8,⟨_,rfl⟩⟩
    have b0:=A4 h7
    refine Ab<|Sq (Rg [0] ?_)
    refine Vs 1<|Nt<|Rt ?_
    obtain rfl:=Aa b0
    exact Re [(.bool true)] hz rfl
def CG (N:Nat) (x0:Ac) (x1:Line):Option Bool:=
 (((Bn N x1.Num 1 65535).bind fun h0=>(bif (!h0) then some true else ((Bn N x1.Khz 1 10000000).bind fun h1=>(bif (!h1) then some true else ((Bn N x1.Mode 1 3).bind fun h2=>(bif (!h2) then some true else ((Bn N x1.Minute 0 20000).bind fun h3=>some (!h3)))))))).bind fun h4=>(bif h4 then some false else (((Hy N x1.Call).bind fun h5=>(bif h5 then ((B3 N ({Report:=x0.Report,Serial:=x0.Serial,Zone:=x0.Zone}:Ac) ({Report:=x1.Sent.Report,Serial:=x1.Sent.Serial,Zone:=x1.Sent.Zone}:Ae)).bind fun h6=>(bif h6 then ((B3 N ({Report:=x0.Report,Serial:=x0.Serial,Zone:=x0.Zone}:Ac) ({Report:=x1.Got.Report,Serial:=x1.Got.Serial,Zone:=x1.Got.Zone}:Ae)).bind fun h7=>some h7) else some false)) else some false)).bind fun h8=>some h8)))
theorem Hf:Af Tryz.prog 22:=fun _ _=>by kernel_rfl
theorem HM (N:Nat) (w0:World) (F0:Mem) (hF:YN w0 F0) (x0:Ac) (x1:Line) (r:Bool) (h:CG N x0 x1=some r):
  Calls Tryz.prog 22 ([(.agg (Ag x0)),(.agg (BX x1))]:List Value).toArray w0 (AC w0 F0 fun F' v=>v=(.bool r)):=by
 have hm:=Yt hF
 refine Go 42 Tryz.func22<|Sq (Rg [0,1,2] ?_)
 refine Bx' 23 (Ag x0) hm (fun hf bw hn=>?_)
 refine Bx' 34 (BX x1) hn (fun hg ho hc=>?_)
 refine Vs 1<|Nss<|Sq (Rg (rG 22) ?_)
 obtain ⟨hp,hq,hr⟩:=bS h
 refine Yx (fun f w=>∃ (F1:Mem),HS w0 F0 w F1 [(sb hg (BX x1) 34),(sb hf (Ag x0) 23)]/\Yr F0 F1/\FI f [] [(2,(pt hf 0)),(3,(pt hg 0)),(26,(.bool hp))]) ?_ ?_
 ·refine Vs 1 ?_
  refine Ld hc.at0 ?_
  obtain ⟨bx,hs,ht⟩:=bS hq
  refine Cl' Bf hc (Bx N ho F0 hc.pers x1.Num 1 65535 _ hs) ?_
  rintro _ F2 hu h7 h8 rfl
  refine Vs 2<|Sp ht (fun h0 hv=>?_) (fun h0 hw=>?_)
  ·refine Ss h0 4 ?_
   refine Pk1 h0<|Vs 1<|Ss (rfl:true=true) 4<|Pk1 (rfl:true=true)<|Vs 1<|Ss (rfl:true=true) 4<|Pk1 (rfl:true=true) ?_
   obtain rfl:=Aa hv
   exact Yn ⟨rfl,F2,h7,h8,fI⟩
  ·refine Vgs h0 1 ?_
   refine Lg h0 h7.at0 ?_
   obtain ⟨bz,hx,hy⟩:=bS hw
   refine Cg h0 Bf h7 (Bx N hu F2 h7.pers x1.Khz 1 10000000 _ hx) ?_
   rintro _ F3 hz h9 hd rfl
   refine Vgs h0 1<|Pk0 h0<|Vs 1<|Sp hy (fun h1 b0=>?_) (fun h1 b1=>?_)
   ·refine Ss h1 4 ?_
    refine Pk1 h1<|Vs 1<|Ss (rfl:true=true) 4<|Pk1 (rfl:true=true) ?_
    obtain rfl:=Aa b0
    exact Yn ⟨rfl,F3,h9,(h8.t hd),fI⟩
   ·refine Vgs h1 1 ?_
    refine Lg h1 h9.at0 ?_
    obtain ⟨c0,b2,b3⟩:=bS b1
    refine Cg h1 Bf h9 (Bx N hz F3 h9.pers x1.Mode 1 3 _ b2) ?_
    rintro _ F4 b4 ha hh rfl
    refine Vgs h1 1<|Pk0 h1<|Vs 1<|Sp b3 (fun h2 b5=>?_) (fun h2 b6=>?_)
    ·refine Ss h2 4 ?_
     refine Pk1 h2 ?_
     obtain rfl:=Aa b5
     exact Yn ⟨rfl,F4,ha,((h8.t hd).trans hh),fI⟩
    ·refine Vgs h2 1 ?_
     refine Lg h2 ha.at0 ?_
     obtain ⟨c1,b7,b8⟩:=bS b6
     refine Cg h2 Bf ha (Bx N b4 F4 ha.pers x1.Minute 0 20000 _ b7) ?_
     rintro _ F5 c3 b9 ba rfl
     refine Vgs h2 1<|Pk0 h2 ?_
     obtain rfl:=Aa b8
     exact Yn ⟨rfl,F5,b9,(((h8.t hd).trans hh).trans ba),fI⟩
 ·rintro f bb ⟨F1,hb,c4,⟨_,rfl⟩⟩
  refine Ab<|Cd hr (fun bc bd=>?_) (fun bc be=>?_)
  ·refine Sq (Rg [0] ?_)
   refine Vs 1<|Nt<|Rt<|Ad ?_
   obtain rfl:=Aa bd
   exact Re [(.bool false)] hb rfl
  ·refine Sc ?_
   refine Ab<|Sq (Rg (rG 16) ?_)
   obtain ⟨hk,bf,bg⟩:=bS be
   refine Yx (fun f w=>∃ (F6:Mem),HS w0 F0 w F6 []/\Yr F1 F6/\FI f [] [(4,(.bool hk))]) ?_ ?_
   ·refine Vs 1 ?_
    refine Ld hb.at0 ?_
    obtain ⟨c5,bh,bi⟩:=bS bf
    refine Cl' Pa hb (PT N bb F1 hb.pers x1.Call _ bh) ?_
    rintro _ F7 bj h5 he rfl
    refine Vs 1<|Sp bi (fun h3 bk=>?_) (fun h3 bl=>?_)
    ·refine Lg h3 h5.at1 ?_
     refine Vgs h3 1<|Lg h3 h5.at0 ?_
     obtain ⟨c6,bm,bn⟩:=bS bk
     refine Cg h3 Dr h5 (DQ N bj F7 h5.pers (({Report:=x0.Report,Serial:=x0.Serial,Zone:=x0.Zone}:Ac)) (({Report:=x1.Sent.Report,Serial:=x1.Sent.Serial,Zone:=x1.Sent.Zone}:Ae)) _ bm) ?_
     rintro _ F8 bo h6 hl rfl
     refine Pk1 h3<|Vs 1<|Sp bn (fun h4 bp=>?_) (fun h4 bq=>?_)
     ·refine Lg h4 h6.at1 ?_
      refine Vgs h4 1<|Lg h4 h6.at0 ?_
      obtain ⟨c7,br,bs⟩:=bS bp
      refine Cg h4 Dr h6 (DQ N bo F8 h6.pers (({Report:=x0.Report,Serial:=x0.Serial,Zone:=x0.Zone}:Ac)) (({Report:=x1.Got.Report,Serial:=x1.Got.Serial,Zone:=x1.Got.Zone}:Ae)) _ br) ?_
      rintro _ F9 c8 bt bu rfl
      refine Pk1 h4<|Vs 1 ?_
      obtain rfl:=Aa bs
      exact Yn ⟨rfl,F9,bt.dr0.dr0,((he.t hl).trans bu),fI⟩
     ·refine Ss h4 4 ?_
      refine Pk0 h4<|Vs 1 ?_
      obtain rfl:=Aa bq
      exact Yn ⟨rfl,F8,h6.dr0.dr0,(he.t hl),fI⟩
    ·refine Ss h3 4 ?_
     refine Pk0 h3<|Vs 1<|Ss (rfl:false=false) 4<|Pk0 (rfl:false=false)<|Vs 1 ?_
     obtain rfl:=Aa bl
     exact Yn ⟨rfl,F7,h5.dr0.dr0,he,fI⟩
   ·rintro f c9 ⟨F6,bv,ca,⟨_,rfl⟩⟩
    refine Ab<|Rt ?_
    obtain rfl:=Aa bg
    exact Re [(.bool hk)] bv rfl
def Gb (N:Nat) (x0:(List Int)):Int->Option (A9 Bool Int):=fun h0=>
 (bif (decide (h0 < (x0.length:Int))) then ((idx x0 h0).bind fun h1=>(((A2 N h1 1 20000).bind fun h2=>(bif (!h2) then some true else (bif (decide (h0 > 0)) then ((idx x0 (W64 (h0 - 1))).bind fun h3=>some (decide (h1<=h3))) else some false))).bind fun h4=>(bif h4 then some (.ret false) else some (.next (W64 (h0 + 1)))))) else some (.done h0))
def Ea (N:Nat) (x0:(List Int)):Option Bool:=
 ((AH (Gb N x0) N 0).bind fun o=>o.k (fun r=>some r) (fun h0=>some (decide ((x0.length:Int)<=16))))
theorem HY:Af Tryz.prog 80:=fun _ _=>by kernel_rfl
theorem I6 (N:Nat) (w0:World) (F0:Mem) (hF:YN w0 F0) (x0:(List Int)) (h4:YM) (h2:Nat) (bi:LC x0.length h2) (hg:SlA AP F0 h4 x0) (r:Bool) (h:Ea N x0=some r):
  Calls Tryz.prog 80 ([(sL h4 x0 h2)]:List Value).toArray w0 (AC w0 F0 fun F' v=>v=(.bool r)):=by
 have hh:=Yt hF
 refine Go 32 Tryz.func80<|Sq (Rg [0] ?_)
 refine Vs 1<|Nss<|Sq (Rg [0,1,2] ?_)
 refine Vs 3<|Nt ?_
 obtain ⟨ha,hk,hb⟩:=bS h
 refine Yy (fun f w=>∃ (hc:Int) (F2:Mem),ha=.done hc/\HS w0 F0 w F2 []/\Yr F0 F2/\FI f [] [(0,(sL h4 x0 h2))]) ?_ ?_
 ·refine Bk ?_
  refine Yq (by kernel_rfl) (fun m f w=>∃ (h3:Int) (F1:Mem),AH (Gb N x0) m h3=some ha/\HS w0 F0 w F1 []/\Yr F0 F1/\FI f [] [(0,(sL h4 x0 h2)),(5,(sL h4 x0 h2)),(6,(vi (x0.length:Int))),(7,(vi h3))]) N ⟨0,F0,hk,hh,(Ys _),fI⟩ ?_
  rintro bj f hl ⟨h3,F1,hm,h5,h8,⟨_,rfl⟩⟩
  obtain ⟨hn,bk,rfl,ho,h9⟩:=AD hm
  refine Sq (Rg [0] ?_)
  refine Vs 1<|Nss<|Cd ho (fun hp hq=>?_) (fun hp hr=>?_)
  ·refine Sc ?_
   refine Ab<|Sq<|Bk<|Sq (Rg (rG 5) ?_)
   refine Vs 1 ?_
   obtain ⟨hs,ht,hu⟩:=bS hq
   obtain ⟨hv,hx49'⟩:=Ah ht
   obtain ⟨hd,he,bl,bm,bn,rfl,hF58,hE59⟩:=Yz (Yu hg h8) hx49'
   have hw:=hE59 _ _ hx49'
   refine Ix hv<|Lx 0 (h5.pers _ _ hF58) hw<|Vs 2<|Nss (Rg (rG 16) ?_)
   obtain ⟨hx,hy,hz⟩:=bS hu
   refine Yx (fun f w=>∃ (F3:Mem),HS w0 F0 w F3 []/\Yr F1 F3/\FI f [] [(0,(.slice (some ⟨hd,he,none⟩) x0.length h2)),(5,(.slice (some ⟨hd,he,none⟩) x0.length h2)),(6,(vi (x0.length:Int))),(7,(vi h3)),(27,(.bool hx))]) ?_ ?_
   ·refine Vs 1 ?_
    obtain ⟨bo,b0,b1⟩:=bS hy
    refine Cl' AL h5 (AU N hl F1 h5.pers hs 1 20000 _ b0) ?_
    rintro _ F4 bp h6 h7 rfl
    refine Vs 2<|Sp b1 (fun h0 b2=>?_) (fun h0 b3=>?_)
    ·refine Ss h0 3 ?_
     refine Su' 7<|Ss h0 1<|Pk1 h0 ?_
     obtain rfl:=Aa b2
     exact Yn ⟨rfl,F4,h6,h7,fI⟩
    ·refine Vgs h0 3 ?_
     refine Sp b3 (fun h1 b4=>?_) (fun h1 b5=>?_)
     ·refine Vgs h1 4 ?_
      obtain ⟨bq,b6,b7⟩:=bS b4
      obtain ⟨b8,hx89'⟩:=Ah b6
      have b9:=hE59 _ _ hx89'
      refine Ixg h1 b8<|Lxg h1 0 (h6.pers _ _ (h7 _ _ hF58)) b9<|Vgs h1 1<|Pg1 h0 h1<|Pk0 h0 ?_
      obtain rfl:=Aa b7
      exact Yn ⟨rfl,F4,h6,h7,fI⟩
     ·refine Ss h1 7 ?_
      refine Pg0 h0 h1<|Pk0 h0 ?_
      obtain rfl:=Aa b5
      exact Yn ⟨rfl,F4,h6,h7,fI⟩
   ·rintro f br ⟨F3,hf,ba,⟨_,rfl⟩⟩
    refine Ab<|Cd hz (fun bb bc=>?_) (fun bb bd=>?_)
    ·refine Sq (Rg [0] ?_)
     refine Vs 1<|Nt<|Rt<|Aq<|Ad<|Ad<|Aq ?_
     have hret:=Bq bc h9
     subst hret
     refine .inr<|Ad ?_
     obtain rfl:=Aa hb
     exact Re [(.bool false)] hf rfl
    ·refine Sc ?_
     refine Ao<|Ab<|Rg [0,1]<|Vs 2<|Yn ?_
     have be:=AA bd h9
     exact ⟨hn,Nat.lt_succ_self _,(W64 (h3 + 1)),F3,be,hf,(h8.t ba),fI⟩
  ·refine Ex ?_
   refine Al<|Al<|Av rfl ?_
   have bf:=AB hr h9
   exact .inl ⟨rfl,h3,F1,bf,h5,h8,fI⟩
 ·rintro f bs ⟨hc,F2,rfl,bg,bt,⟨_,rfl⟩⟩
  have bh:=A4 hb
  refine Ab<|Sq (Rg (rG 4) ?_)
  refine Vs 4<|Nt<|Rt ?_
  obtain rfl:=Aa bh
  exact Re [(.bool (decide ((x0.length:Int)<=16)))] bg rfl
def KV (N:Nat) (x0:Ac) (x1:Log) (h3 h4 h5 h6 h7:Bool):Int->Option (A9 (Int×Int) Int):=fun h0=>
 (bif (decide (h0 < (x1.Lines.length:Int))) then ((idx x1.Lines h0).bind fun h1=>(((C7 N ({Report:=x0.Report,Serial:=x0.Serial,Zone:=x0.Zone}:Ac) h1).bind fun h2=>(bif (!h2) then none else (bif (decide (h0 > 0)) then none else some ()))).bind fun h8=>some (.next (W64 (h0 + 1))))) else some (.done h0))
def IW (N:Nat) (x0:Ac) (x1:Log):Option (Int×Int):=
 (bif ((decide ((x1.Jumps.length:Int) > 16))||(decide ((x1.Lines.length:Int) > 400))) then none else ((Gm N x1.Call).bind fun h0=>(bif (!h0) then none else ((A2 N x1.Category 1 9).bind fun h1=>(bif (!h1) then none else ((A2 N x1.Power 1 9999).bind fun h2=>(bif (!h2) then none else ((A2 N x1.Claimed 0 1000000).bind fun h3=>(bif (!h3) then none else ((Ea N x1.Jumps).bind fun h4=>(bif (!h4) then none else ((AH (KV N x0 x1 h0 h1 h2 h3 h4) N 0).bind fun o=>o.k (fun r=>some r) (fun h5=>some (0,0))))))))))))))
theorem H0:Af Tryz.prog 23:=fun _ _=>by kernel_rfl
theorem I7 (N:Nat) (w0:World) (F0:Mem) (hF:YN w0 F0) (hG:BI F0) (x0:Ac) (x1:Log) (h3:YM) (h4:Nat) (b2:LC x1.Jumps.length h4) (b3:SlA AP F0 h3 x1.Jumps) (h7:YM) (h1:Nat) (d8:LC x1.Lines.length h1) (b4:SlA AM F0 h7 x1.Lines) (r:(Int×Int)) (h:IW N x0 x1=some r):
  Calls Tryz.prog 23 ([(.agg (Ag x0)),(.agg (AG x1 h3 h4 h7 h1))]:List Value).toArray w0 (AC w0 F0 fun F' v=>v=(.tuple #[(vi r.1),(vi r.2)])):=by
 have b5:=Yt hF
 refine Go 89 Tryz.func23<|Sq (Rg (rG 4) ?_)
 refine Bx' 23 (Ag x0) b5 (fun h5 d9 b6=>?_)
 refine Bx' 27 (AG x1 h3 h4 h7 h1) b6 (fun h6 da he=>?_)
 refine Vs 2<|Nss<|Sq (Rg (rG 10) ?_)
 refine Yx (fun f w=>∃ (F1:Mem),HS w0 F0 w F1 [(sb h6 (AG x1 h3 h4 h7 h1) 27),(sb h5 (Ag x0) 23)]/\Yr F0 F1/\FI f [] [(2,(pt h5 0)),(3,(pt h6 0)),(17,(.bool ((decide ((x1.Jumps.length:Int) > 16))||(decide ((x1.Lines.length:Int) > 400)))))]) ?_ ?_
 ·refine Vs 1 ?_
  refine Ld he.at0<|Vs 3<|Yw (decide ((x1.Jumps.length:Int) > 16)) (fun h2=>?_) (fun h2=>?_)
  ·refine Ss h2 4 ?_
   refine Pk1 h2 ?_
   exact Yn ⟨rfl,F0,he,(Ys _),(fJ ⟨rfl,rfl,(congrArg Value.bool (Fc h2 rfl)),trivial⟩)⟩
  ·refine Vgs h2 1 ?_
   refine Lg h2 he.at0<|Vgs h2 2<|Pk0 h2 ?_
   exact Yn ⟨rfl,F0,he,(Ys _),(fJ ⟨rfl,rfl,(congrArg Value.bool (Cm h2 rfl)),trivial⟩)⟩
 ·rintro f b7 ⟨F1,hf,hg,⟨_,rfl⟩⟩
  refine Ab<|Cd h (fun b8 b9=>?_) (fun b8 ba=>?_)
  ·cases b9
  ·refine Sc ?_
   refine Ab<|Sq<|Sq (Rg (rG 28) ?_)
   refine Vs 1<|Ld hf.at0 ?_
   obtain ⟨bb,bc,bd⟩:=bS ba
   refine Cl' FU hf (GI N b7 F1 hf.pers (hG.mono hg) x1.Call _ bc) ?_
   rintro _ F2 be hh ht rfl
   refine Vs 2<|Sp bd (fun h8 bf=>?_) (fun h8 bg=>?_)
   ·cases bf
   ·refine Vgs h8 1 ?_
    refine Lg h8 hh.at0 ?_
    obtain ⟨bh,bi,bj⟩:=bS bg
    refine Cg h8 AL hh (AU N be F2 hh.pers x1.Category 1 9 _ bi) ?_
    rintro _ F3 bk hk hu rfl
    refine Vgs h8 1<|Pk0 h8<|Vs 1<|Sp bj (fun h9 bl=>?_) (fun h9 bm=>?_)
    ·cases bl
    ·refine Vgs h9 1 ?_
     refine Lg h9 hk.at0 ?_
     obtain ⟨bn,bo,bp⟩:=bS bm
     refine Cg h9 AL hk (AU N bk F3 hk.pers x1.Power 1 9999 _ bo) ?_
     rintro _ F4 bq hl hv rfl
     refine Vgs h9 1<|Pk0 h9<|Vs 1<|Sp bp (fun ha br=>?_) (fun ha bs=>?_)
     ·cases br
     ·refine Vgs ha 1 ?_
      refine Lg ha hl.at0 ?_
      obtain ⟨bt,bu,bv⟩:=bS bs
      refine Cg ha AL hl (AU N bq F4 hl.pers x1.Claimed 0 1000000 _ bu) ?_
      rintro _ F5 bw hm hw rfl
      refine Vgs ha 1<|Pk0 ha<|Vs 1<|Sp bv (fun hb bx=>?_) (fun hb bz=>?_)
      ·cases bx
      ·refine Vgs hb 1 ?_
       refine Lg hb hm.at0 ?_
       obtain ⟨c0,c1,c3⟩:=bS bz
       refine Cg hb HY hm (I6 N bw F5 hm.pers x1.Jumps h3 h4 b2 (Yu b3 ((((hg.t ht).trans hu).trans hv).trans hw)) _ c1) ?_
       rintro _ F6 db hx c4 rfl
       refine Vgs hb 1<|Pk0 hb<|Nt<|Cd c3 (fun c5 c6=>?_) (fun c5 c7=>?_)
       ·cases c6
       ·refine Sc ?_
        refine Ab<|Sq<|Sq (Rg (rG 4) ?_)
        refine Vs 1<|Ld hx.at0<|Vs 2<|Nt ?_
        obtain ⟨hy,c8,c9⟩:=bS c7
        refine Yy (fun f w=>∃ (hz:Int) (F8:Mem),hy=.done hz/\HS w0 F0 w F8 []/\Yr F6 F8/\FI f [] []) ?_ ?_
        ·refine Bk ?_
         refine Yq (by kernel_rfl) (fun m f w=>∃ (h0:Int) (F7:Mem),AH (KV N x0 x1 bb bh bn bt c0) m h0=some hy/\HS w0 F0 w F7 [(sb h6 (AG x1 h3 h4 h7 h1) 27),(sb h5 (Ag x0) 23)]/\Yr F6 F7/\FI f [] [(2,(pt h5 0)),(3,(pt h6 0)),(47,(sL h7 x1.Lines h1)),(48,(vi (x1.Lines.length:Int))),(49,(vi h0))]) N ⟨0,F6,c8,hx,(Ys _),fI⟩ ?_
         rintro dc f dd ⟨h0,F7,ca,hn,ho,⟨_,rfl⟩⟩
         obtain ⟨cb,de,rfl,cc,b0⟩:=AD ca
         refine Sq (Rg [0] ?_)
         refine Vs 1<|Nss<|Cd cc (fun cd ce=>?_) (fun cd cf=>?_)
         ·refine Sc ?_
          refine Ab<|Sq<|Bk<|Sq (Rg (rG 6) ?_)
          refine Vs 1 ?_
          obtain ⟨hp,cg,ch⟩:=bS ce
          obtain ⟨ci,hx121'⟩:=Ah cg
          obtain ⟨hr,hs,df,dg,dh,rfl,hF130,hE131⟩:=Yz (Yu b4 ((((((hg.t ht).trans hu).trans hv).trans hw).trans c4).trans ho)) hx121'
          have cj:=hE131 _ _ hx121'
          refine Ix ci<|Lx 0 (hn.pers _ _ hF130) cj<|Al' 34 #[(vi 0),(vi 0),(vi 0),(vi 0),(sv (([]:YL))),(vi 0),(vi 0),(vi 0),(vi 0),(vi 0),(vi 0)] hn (fun cl di cm=>?_)
          refine Vs 1<|St0 (BX hp) cm (fun dj cn=>?_)
          refine Nss ?_
          obtain ⟨dk,co,cp⟩:=bS ch
          refine RD 32 32 [(sb cl (BX hp) 34),(sb h6 (AG x1 h3 h4 (some ⟨hr,hs,none⟩) h1) 27),(sb h5 (Ag x0) 23)] [] cn (fun f w=>∃ (F9:Mem),HS w0 F0 w F9 [(sb h6 (AG x1 h3 h4 (some ⟨hr,hs,none⟩) h1) 27),(sb h5 (Ag x0) 23)]/\Yr F7 F9/\FI f [] [(2,(pt h5 0)),(3,(pt h6 0)),(6,(vi h0)),(47,(.slice (some ⟨hr,hs,none⟩) x1.Lines.length h1)),(48,(vi (x1.Lines.length:Int))),(49,(vi h0)),(85,(.bool false))]) (fun cq b1=>?_) ?_
          ·refine Dl 0 (fun _ hq=>(hq.1.2 2 _ _ rfl)) ?_
           refine Dl 1 (fun _ hq=>(hq.1.2 0 _ _ rfl))<|D1 2 ?_
           obtain ⟨dl,cr,ct⟩:=bS co
           refine DCl HJ b1 (ID N cq F7 b1.pers (({Report:=x0.Report,Serial:=x0.Serial,Zone:=x0.Zone}:Ac)) hp _ cr) ?_
           rintro _ cu dm cv cw rfl
           refine Dvl [3,4] (tf 5 27)<|Sd ct (fun hc cx=>?_) (fun hc cy=>?_)
           ·cases cx
           ·refine Dgl 5 59 3 _ (tf 6 26) 4 false 58 hc (fun _ hq=>mv 6 (vi h0)) ?_
            refine Dgl 6 60 4 (.bool (decide (h0 > 0))) (tf 7 25) 4 false 58 hc (fun _ hq=>LS (t:=3) (t':=3) (x:=(.tmp 59)) (y:=(.const (vi 0))) (k:=.i64) (a:=h0) (b:=0) rfl rfl)<|Dgl 7 61 4 _ (tf 8 24) 4 false 58 hc (fun _ hq=>mv 60 (.bool (decide (h0 > 0))))<|Sd cy (fun hd cz=>?_) (fun hd d0=>?_)
            ·cases cz
            ·refine Dkl [(8,62),(9,63),(10,64),(11,65),(12,66),(13,67)] 7 true 61 hd (tf 14 18) ?_
             refine Dkl [(14,68),(15,69),(16,70),(17,71),(18,72)] 7 true 61 hd (tf 19 13)<|Dul [(19,73),(20,74),(21,75),(22,76),(23,77),(24,78)] 18 false 72 (tf 25 7)<|Dul [(25,79),(26,80),(27,81),(28,82)] 18 false 72 (tf 29 3)<|Dkl [(29,83)] 7 true 61 hd (tf 30 2)<|Dgl 30 84 4 _ (tf 31 1) 4 false 58 hc (fun _ hq=>p0 61 (.tmp 83) (.const (.bool false)) (.bool false) hd)<|Dtl 31 85 4 _ (tf 32 0) (fun _ hq=>p0 58 (.const (.bool true)) (.tmp 84) (.bool false) hc) ?_
             obtain rfl:=Aa d0
             exact YE (by kernel_rfl) ⟨cu,cv.dr0,cw,fI⟩
          ·rintro f dn ⟨F9,d1,d2,⟨_,rfl⟩⟩
           refine Ab<|C0 (rfl:false=false)<|Sc<|Ao<|Ab<|Rg [0,1]<|Vs 2<|Yn ?_
           have d3:=AA cp b0
           exact ⟨cb,Nat.lt_succ_self _,(W64 (h0 + 1)),F9,d3,d1,(ho.t d2),fI⟩
         ·refine Ex ?_
          refine Al<|Al<|Av rfl ?_
          have d4:=AB cf b0
          exact .inl ⟨rfl,h0,F7,d4,hn.dr0.dr0,ho,fI⟩
        ·rintro f dp ⟨hz,F8,rfl,d6,dq,⟨_,rfl⟩⟩
         have d7:=A4 c9
         refine Ab<|Sq (Rg [0,1] ?_)
         refine Vs 2<|Nt<|Rt ?_
         obtain rfl:=Aa d7
         exact Re [(vi 0),(vi 0)] d6 rfl
def Fi (N:Nat) (x0:(List Int)):Int->Option (A9 Bool Int):=fun h0=>
 (bif (decide (h0 < (x0.length:Int))) then (((idx x0 h0).bind fun h1=>((Bn N h1 1 20000).bind fun h2=>(bif (!h2) then some true else (bif (decide (h0 > 0)) then ((idx x0 h0).bind fun h3=>((idx x0 (W64 (h0 - 1))).bind fun h4=>some (decide (h3<=h4)))) else some false)))).bind fun h5=>(bif h5 then some (.ret false) else some (.next (W64 (h0 + 1))))) else some (.done h0))
def Hx (N:Nat) (x0:(List Int)):Option Bool:=
 ((AH (Fi N x0) N 0).bind fun o=>o.k (fun r=>some r) (fun h0=>some (decide ((x0.length:Int)<=16))))
theorem O9:Af Tryz.prog 145:=fun _ _=>by kernel_rfl
theorem PS (N:Nat) (w0:World) (F0:Mem) (hF:YN w0 F0) (x0:(List Int)) (h6:YM) (h3:Nat) (bq:LC x0.length h3) (hl:SlA AP F0 h6 x0) (r:Bool) (h:Hx N x0=some r):
  Calls Tryz.prog 145 ([(sL h6 x0 h3)]:List Value).toArray w0 (AC w0 F0 fun F' v=>v=(.bool r)):=by
 have hm:=Yt hF
 refine Go 35 Tryz.func145<|Sq (Rg [0] ?_)
 refine Vs 1<|Nss<|Sq (Rg [0] ?_)
 refine Vs 1<|Nt ?_
 obtain ⟨hd,hn,he⟩:=bS h
 refine Yy (fun f w=>∃ (hf:Int) (F2:Mem),hd=.done hf/\HS w0 F0 w F2 []/\Yr F0 F2/\FI f [] [(0,(sL h6 x0 h3))]) ?_ ?_
 ·refine Bk ?_
  refine Yq (by kernel_rfl) (fun m f w=>∃ (h0:Int) (F1:Mem),AH (Fi N x0) m h0=some hd/\HS w0 F0 w F1 []/\Yr F0 F1/\FI f [] [(0,(sL h6 x0 h3)),(3,(vi h0))]) N ⟨0,F0,hn,hm,(Ys _),fI⟩ ?_
  rintro br f bs ⟨h0,F1,ho,hg,h9,⟨_,rfl⟩⟩
  obtain ⟨hp,bt,rfl,hr,ha⟩:=AD ho
  refine Sq<|Sq (Rg (rG 4) ?_)
  refine Vs 4<|Nt<|Cd hr (fun hs ht=>?_) (fun hs hu=>?_)
  ·refine Sc ?_
   refine Ab<|Sq<|Bk<|Sq ?_
   obtain ⟨hv,hw,hx⟩:=bS ht
   refine RD 22 22 [] [] hg (fun f w=>∃ (F3:Mem),HS w0 F0 w F3 []/\Yr F1 F3/\FI f [] [(0,(sL h6 x0 h3)),(3,(vi h0)),(31,(.bool hv))]) (fun hy hh=>?_) ?_
   ·refine Dvl [0,1] (tf 2 20) ?_
    obtain ⟨hz,b0,b1⟩:=bS hw
    obtain ⟨b2,hx59'⟩:=Ah b0
    obtain ⟨h4,h5,bu,bv,bw,rfl,hF68,hE69⟩:=Yz (Yu hl h9) hx59'
    have b3:=hE69 _ _ hx59'
    refine Di 2 b2<|Dx 3 0 (fun _ hq=>hq.1.1 _ _ hF68) b3<|D1 4 ?_
    obtain ⟨bx,b4,b5⟩:=bS b1
    refine DCl Bf hh (Bx N hy F1 hh.pers hz 1 20000 _ b4) ?_
    rintro _ F4 bz hb hc rfl
    refine Dvl [5,6] (tf 7 15)<|Sd b5 (fun h2 b6=>?_) (fun h2 b7=>?_)
    ·refine Dkl [(7,17),(8,18),(9,19)] 6 false 16 h2 (tf 10 12) ?_
     refine Dul [(10,20),(11,21),(12,22),(13,23),(14,24),(15,25)] 9 true 19 (tf 16 6)<|Dul [(16,26),(17,27),(18,28),(19,29)] 9 true 19 (tf 20 2)<|Dkl [(20,30)] 6 false 16 h2 (tf 21 1)<|Dtl 21 31 4 _ (tf 22 0) (fun _ hq=>p1 16 (.const (.bool true)) (.tmp 30) (.bool true) h2) ?_
     obtain rfl:=Aa b6
     exact YE (by kernel_rfl) ⟨F4,hb,hc,fI⟩
    ·refine Dgl 7 17 3 _ (tf 8 14) 6 false 16 h2 (fun _ hq=>mv 3 (vi h0)) ?_
     refine Dgl 8 18 4 (.bool (decide (h0 > 0))) (tf 9 13) 6 false 16 h2 (fun _ hq=>LS (t:=3) (t':=3) (x:=(.tmp 17)) (y:=(.const (vi 0))) (k:=.i64) (a:=h0) (b:=0) rfl rfl)<|Dgl 9 19 4 _ (tf 10 12) 6 false 16 h2 (fun _ hq=>mv 18 (.bool (decide (h0 > 0))))<|Sd b7 (fun h1 b8=>?_) (fun h1 b9=>?_)
     ·refine Dgl 10 20 24 _ (tf 11 11) 9 true 19 h1 (fun _ hq=>mv 0 (.slice (some ⟨h4,h5,none⟩) x0.length h3)) ?_
      refine Dgl 11 21 3 _ (tf 12 10) 9 true 19 h1 (fun _ hq=>mv 3 (vi h0)) ?_
      obtain ⟨h7,ba,bb⟩:=bS b8
      obtain ⟨bc,hx87'⟩:=Ah ba
      have bd:=hE69 _ _ hx87'
      refine Dgl 12 22 0 (.pointer (some ⟨h4,(h5 + (h0:Int).toNat * 1),none⟩)) (tf 13 9) 9 true 19 h1 (fun _ hq=>ix 24 20 21 h4 h5 3 1 8 bc)<|Dgl 13 23 3 _ (tf 14 8) 9 true 19 h1 (fun _ hq=>lx 3 22 0 1 false 1 (vi h7) (hq.1.1 _ _ hF68) bd)<|Dgl 14 24 24 _ (tf 15 7) 9 true 19 h1 (fun _ hq=>mv 0 (.slice (some ⟨h4,h5,none⟩) x0.length h3))<|Dgl 15 25 3 _ (tf 16 6) 9 true 19 h1 (fun _ hq=>mv 3 (vi h0))<|Dgl 16 26 3 (vi (W64 (h0 - 1))) (tf 17 5) 9 true 19 h1 (fun _ hq=>Oc (t:=3) (t':=3) (x:=(.tmp 25)) (y:=(.const (vi 1))) (k:=.i64) (a:=h0) (b:=1) rfl rfl) ?_
      obtain ⟨h8,be,bf⟩:=bS bb
      obtain ⟨bg,hx93'⟩:=Ah be
      have bh:=hE69 _ _ hx93'
      refine Dgl 17 27 0 (.pointer (some ⟨h4,(h5 + ((W64 (h0 - 1)):Int).toNat * 1),none⟩)) (tf 18 4) 9 true 19 h1 (fun _ hq=>ix 24 24 26 h4 h5 3 1 8 bg)<|Dgl 18 28 3 _ (tf 19 3) 9 true 19 h1 (fun _ hq=>lx 3 27 0 1 false 1 (vi h8) (hq.1.1 _ _ hF68) bh)<|Dgl 19 29 4 (.bool (decide (h7<=h8))) (tf 20 2) 9 true 19 h1 (fun _ hq=>Of (t:=3) (t':=3) (x:=(.tmp 23)) (y:=(.tmp 28)) (k:=.i64) (a:=h7) (b:=h8) rfl rfl)<|Dgl 20 30 4 _ (tf 21 1) 6 false 16 h2 (fun _ hq=>p1 19 (.tmp 29) (.const (.bool false)) (.bool (decide (h7<=h8))) h1)<|Dtl 21 31 4 _ (tf 22 0) (fun _ hq=>p0 16 (.const (.bool true)) (.tmp 30) (.bool (decide (h7<=h8))) h2) ?_
      obtain rfl:=Aa bf
      exact YE (by kernel_rfl) ⟨F4,hb,hc,fI⟩
     ·refine Dkl [(10,20),(11,21),(12,22),(13,23),(14,24),(15,25)] 9 true 19 h1 (tf 16 6) ?_
      refine Dkl [(16,26),(17,27),(18,28),(19,29)] 9 true 19 h1 (tf 20 2)<|Dgl 20 30 4 _ (tf 21 1) 6 false 16 h2 (fun _ hq=>p0 19 (.tmp 29) (.const (.bool false)) (.bool false) h1)<|Dtl 21 31 4 _ (tf 22 0) (fun _ hq=>p0 16 (.const (.bool true)) (.tmp 30) (.bool false) h2) ?_
      obtain rfl:=Aa b9
      exact YE (by kernel_rfl) ⟨F4,hb,hc,fI⟩
   ·rintro f c0 ⟨F3,hk,bi,⟨_,rfl⟩⟩
    refine Ab<|Cd hx (fun bj bk=>?_) (fun bj bl=>?_)
    ·refine Sq (Rg [0] ?_)
     refine Vs 1<|Nt<|Rt<|Aq<|Ad<|Ad<|Aq ?_
     have hret:=Bq bk ha
     subst hret
     refine .inr<|Ad ?_
     obtain rfl:=Aa he
     exact Re [(.bool false)] hk rfl
    ·refine Sc ?_
     refine Ao<|Ab<|Rg [0,1,2]<|Vs 3<|Yn ?_
     have bm:=AA bl ha
     exact ⟨hp,Nat.lt_succ_self _,(W64 (h0 + 1)),F3,bm,hk,(h9.t bi),fI⟩
  ·refine Ex ?_
   refine Al<|Al<|Av rfl ?_
   have bn:=AB hu ha
   exact .inl ⟨rfl,h0,F1,bn,hg,h9,fI⟩
 ·rintro f c1 ⟨hf,F2,rfl,bo,c3,⟨_,rfl⟩⟩
  have bp:=A4 he
  refine Ab<|Sq (Rg (rG 4) ?_)
  refine Vs 4<|Nt<|Rt ?_
  obtain rfl:=Aa bp
  exact Re [(.bool (decide ((x0.length:Int)<=16)))] bo rfl


def KT (N:Nat) (x0:Ac) (x1:Log):Option Bool:=
 ((IW N ({Report:=x0.Report,Serial:=x0.Serial,Zone:=x0.Zone}:Ac) x1).bind fun h0=>some (h0.1==0))
theorem Ni:Af Tryz.prog 25:=fun _ _=>by kernel_rfl
theorem N8 (N:Nat) (w0:World) (F0:Mem) (hF:YN w0 F0) (hG:BI F0) (x0:Ac) (x1:Log) (h0:YM) (h1:Nat) (h5:LC x1.Jumps.length h1) (h6:SlA AP F0 h0 x1.Jumps) (h2:YM) (h3:Nat) (h7:LC x1.Lines.length h3) (h8:SlA AM F0 h2 x1.Lines) (r:Bool) (h:KT N x0 x1=some r):
  Calls Tryz.prog 25 ([(.agg (Ag x0)),(.agg (AG x1 h0 h1 h2 h3))]:List Value).toArray w0 (AC w0 F0 fun F' v=>v=(.bool r)):=by
 have h9:=Yt hF
 refine Go 15 Tryz.func25<|Sq (Rg [0,1,2] ?_)
 refine Bx' 23 (Ag x0) h9 (fun hg hh ha=>?_)
 refine Bx' 27 (AG x1 h0 h1 h2 h3) ha (fun hk hb h4=>?_)
 refine Vs 1<|Nss (Rg (rG 8) ?_)
 refine Ld h4.at1<|Ld h4.at0 ?_
 obtain ⟨hc,hd,he⟩:=bS h
 refine Cl' H0 h4 (I7 N hb F0 h4.pers hG (({Report:=x0.Report,Serial:=x0.Serial,Zone:=x0.Zone}:Ac)) x1 h0 h1 h5 h6 h2 h3 h7 h8 _ hd) ?_
 rintro _ F1 hl hf hm rfl
 refine Vs 5<|Nss (Rg [0,1,2] ?_)
 refine Vs 3<|Nt<|Rt ?_
 obtain rfl:=Aa he
 exact Re [(.bool (hc.1==0))] hf rfl



section
open Go.Lib (decDigits)
theorem Gd {ρ σ:Type} {body:σ->Option (A9 ρ σ)} (st:Nat->σ) {o:A9 ρ σ} (k:Nat) (hb:∀ i,i < k->body (st i)=some (.next (st (i + 1)))) (he:body (st k)=some o) (ho:∀ s',o≠.next s') {N:Nat} (hN:k < N):AH body N (st 0)=some o:=by
 have key:∀ j i M,i + j=k->j < M->AH body M (st i)=some o:=by
  intro j
  induction j with
  | zero=>
   intro i M hi hM
   obtain ⟨m,rfl⟩:∃ m,M=m + 1:=⟨M - 1,by omega⟩
   rw [Nat.add_zero] at hi
   subst hi
   rw [AH,he]
   cases o with
   | next s=>exact absurd rfl (ho s)
   | done s=>rfl
   | ret r=>rfl
  | succ j ih=>
   intro i M hi hM
   obtain ⟨m,rfl⟩:∃ m,M=m + 1:=⟨M - 1,by omega⟩
   rw [AH,hb i (by omega)]
   exact ih (i + 1) m (by omega) (by omega)
 exact key k 0 N (by omega) hN
section
variable {N : Nat}
theorem lw (a b c:Int):A2 N a b c=some (decide (b<=a)&&decide (a<=c)):=rfl
theorem rw2 (a b c:Int):Bn N a b c=some (decide (b<=a)&&decide (a<=c)):=rfl
theorem VH (b:UInt8):W64 (b.toNat:Int)=(b.toNat:Int):=by
 have:=b.toNat_lt
 exact C3 (by omega) (by omega)
theorem TT (b:UInt8):PR b=((decide (65<=(b.toNat:Int))&&decide ((b.toNat:Int)<=90))||((decide (48<=(b.toNat:Int))&&decide ((b.toNat:Int)<=57))||((b.toNat:Int)==47))):=by
 have e1:isL b=(decide (65<=(b.toNat:Int))&&decide ((b.toNat:Int)<=90)):=by
  unfold isL;congr 1 <;> (rw [decide_eq_decide];omega)
 have e2:isD b=(decide (48<=(b.toNat:Int))&&decide ((b.toNat:Int)<=57)):=by
  unfold isD;congr 1 <;> (rw [decide_eq_decide];omega)
 have e3:(b==47)=((b.toNat:Int)==47):=by
  rw [Bool.eq_iff_iff,beq_iff_eq,beq_iff_eq]
  constructor
  ·rintro rfl;rfl
  ·intro h
   have:b.toNat=47:=by omega
   exact UInt8.toNat_inj.1 this
 unfold PR
 rw [e1,e2,e3,Bool.or_assoc]
theorem Wr (s:YL) (hs:s.length < 4000000000) (hN:4294967300 < N):IV N s=some (Hb s):=by
 unfold IV
 rw [lw,oS,show (decide ((1:Int)<=(s.length:Int))&&decide ((s.length:Int)<=(16:Int)))=wiB s.length 1 16 from II _ 1 16]
 have h:=Gd (body:=EI N s (wiB s.length 1 16)) (fun i=>(wiB s.length 1 16&&(s.take i).all PR,(i:Int))) (o:=.done (Hb s,(s.length:Int))) s.length (fun i hi=>by
  unfold EI
  simp only
  rw [B7 hi,cT,D2 hi,oS,Dn i (by omega),VH,List.take_add_one,List.getElem?_eq_getElem hi,List.all_append]
  simp only [Option.toList_some,List.all_cons,List.all_nil,Bool.and_true]
  rw [TT s[i],<-Bool.and_assoc]
  cases wiB s.length 1 16&&(s.take i).all PR with
  | false=>rfl
  | true=>
   rw [cT,lw,oS,lw]
   cases (decide (65<=(s[i].toNat:Int))&&decide ((s[i].toNat:Int)<=90)) with
   | true=>rfl
   | false=>
    rw [cF,oS]
    cases (decide (48<=(s[i].toNat:Int))&&decide ((s[i].toNat:Int)<=57)) with
    | true=>rfl
    | false=>rfl) (by
  unfold EI
  simp only
  rw [BU,cF,List.take_length]
  rfl) (fun s' h=>by cases h) (N:=N) (by omega)
 rw [show (wiB s.length 1 16,(0:Int))=(wiB s.length 1 16&&(s.take 0).all PR,((0:Nat):Int)) by simp,h]
 rfl
theorem Wa (s:YL) (hs:s.length < 4000000000) (hN:4294967300 < N):Hy N s=some (Hb s):=by
 unfold Hy Hb
 have e:((decide ((s.length:Int) < 1))||(decide ((s.length:Int) > 16)))= !wiB s.length 1 16:=by
  unfold wiB
  rw [Bool.not_and,<-decide_not,<-decide_not]
  congr 1 <;> (rw [decide_eq_decide];omega)
 rw [e]
 cases hw:wiB s.length 1 16 with
 | false=>rfl
 | true=>
  rw [Bool.not_true,cF,Bool.true_and]
  rw [M9 (l:=s) PR false (fun i hi=>by
   unfold Fk
   rw [B7 hi,cT,D2 hi,oS,Dn i (by omega)]
   have e:EM N (s[i].toNat:Int)=some (PR s[i]):=by
    rw [TT]
    unfold EM
    simp only [ge_iff_le]
    cases decide (65<=(s[i].toNat:Int)) <;> cases decide ((s[i].toNat:Int)<=90) <;> cases decide (48<=(s[i].toNat:Int)) <;> cases decide ((s[i].toNat:Int)<=57) <;> cases ((s[i].toNat:Int)==47) <;> rfl
   rw [e,oS]
   cases PR s[i] <;> rfl) (by
   unfold Fk
   rw [BU,cF]) (by omega)]
  cases s.all PR <;> rfl
def Ut (x:Line):Prop:=x.Call.length < 4000000000
theorem UG (o:Ac) (x:Line):Ch o x=((decide (1<=x.Num)&&decide (x.Num<=65535))&&((decide (1<=x.Khz)&&decide (x.Khz<=10000000))&&((decide (1<=x.Mode)&&decide (x.Mode<=3))&&((decide (0<=x.Minute)&&decide (x.Minute<=20000))&&(Hb x.Call&&(Co o x.Sent&&Co o x.Got)))))):=by
 unfold Ch
 simp only [Bool.decide_and]
theorem Ww (o:Ac) (x:Line) (hx:Ut x) (hN:4294967300 < N):C7 N o x=some (Ch o x):=by
 unfold C7
 rw [UG,lw,lw,lw,lw,Wr x.Call hx hN]
 simp only [oS]
 rw [OE _ _ hN,OE _ _ hN]
 simp only [oS]
 show _=some _
 generalize (decide (1<=x.Num)&&decide (x.Num<=65535))=a
 generalize (decide (1<=x.Khz)&&decide (x.Khz<=10000000))=b
 generalize (decide (1<=x.Mode)&&decide (x.Mode<=3))=c
 generalize (decide (0<=x.Minute)&&decide (x.Minute<=20000))=d
 generalize Hb x.Call=e
 cases a <;> cases b <;> cases c <;> cases d <;> cases e <;> first | rfl | (simp only [cT,cF,Bool.true_and];cases Co o x.Sent <;> rfl)
theorem Tu (o:Ac) (x:Line) (hx:Ut x) (hN:4294967300 < N):CG N o x=some (Ch o x):=by
 unfold CG
 rw [UG,rw2,rw2,rw2,rw2,Wa x.Call hx hN]
 simp only [oS]
 rw [ME,ME]
 simp only [oS]
 generalize (decide (1<=x.Num)&&decide (x.Num<=65535))=a
 generalize (decide (1<=x.Khz)&&decide (x.Khz<=10000000))=b
 generalize (decide (1<=x.Mode)&&decide (x.Mode<=3))=c
 generalize (decide (0<=x.Minute)&&decide (x.Minute<=20000))=d
 generalize Hb x.Call=e
 cases a <;> cases b <;> cases c <;> cases d <;> cases e <;> first | rfl | (simp only [cT,cF,Bool.true_and,Bool.not_true,Bool.not_false,oS];cases Co o x.Sent <;> rfl)
def okJ (l:List Int) (i:Nat):Bool:=match l[i]? with
 | some x=>decide (1<=x/\x<=20000)&&(decide (i=0)||match l[i - 1]? with
  | some y=>decide (y < x)
  | none=>true)
 | none=>true
theorem Sn {n:Nat} {ok:Nat->Bool}:KO n ok=true ↔ ∀ i,i < n->ok i=true:=⟨fun h _ hi=>VG h hi,TX⟩
theorem Xn:∀ (l:List Int),Up l=true ↔ ∀ i,i < l.length->(i=0\/ ∃ x y,l[i]? =some x/\l[i - 1]? =some y/\y < x):=by
 intro l
 induction l with
 | nil=>simp [Up]
 | cons a r ih=>
  cases r with
  | nil=>
   simp only [Up,true_iff]
   intro i hi
   exact .inl (by simpa using hi)
  | cons b r=>
   rw [Up,Bool.and_eq_true,ih,decide_eq_true_eq]
   constructor
   ·rintro ⟨h1,h2⟩ i hi
    match i with
    | 0=>exact .inl rfl
    | 1=>exact .inr ⟨b,a,rfl,rfl,h1⟩
    | i + 2=>
     rcases h2 (i + 1) (by simpa using hi) with h | ⟨x,y,e1,e2,h⟩
     ·omega
     ·exact .inr ⟨x,y,e1,e2,h⟩
   ·intro h
    refine ⟨?_,fun i hi=>?_⟩
    ·rcases h 1 (by simp) with h | ⟨x,y,e1,e2,h⟩
     ·omega
     ·cases e1;cases e2;exact h
    ·match i with
     | 0=>exact .inl rfl
     | i + 1=>
      rcases h (i + 2) (by simpa using hi) with h | ⟨x,y,e1,e2,h⟩
      ·omega
      ·exact .inr ⟨x,y,e1,e2,h⟩
theorem Vj (l:List Int):KA l=(KO l.length (okJ l)&&decide (l.length<=16)):=by
 unfold KA
 rw [<-Bool.and_assoc]
 congr 1
 rw [Bool.eq_iff_iff,Bool.and_eq_true,Xn,Sn,List.all_eq_true]
 constructor
 ·rintro ⟨h1,h2⟩ i hi
  unfold okJ
  rw [List.getElem?_eq_getElem hi]
  have:=h1 l[i] (List.getElem_mem hi)
  simp only [this,Bool.true_and]
  rcases h2 i hi with h | ⟨x,y,e1,e2,h⟩
  ·rw [decide_eq_true h];rfl
  ·rw [List.getElem?_eq_getElem hi] at e1
   cases e1
   rw [e2]
   simp [h]
 ·intro h
  refine ⟨fun x hx=>?_,fun i hi=>?_⟩
  ·obtain ⟨i,hi,rfl⟩:=List.mem_iff_getElem.1 hx
   have:=h i hi
   unfold okJ at this
   rw [List.getElem?_eq_getElem hi] at this
   simp only [Bool.and_eq_true] at this
   exact this.1
  ·by_cases h0:i=0
   ·exact .inl h0
   ·have:=h i hi
    unfold okJ at this
    rw [List.getElem?_eq_getElem hi] at this
    have h3:i - 1 < l.length:=by omega
    rw [List.getElem?_eq_getElem h3] at this
    simp only [Bool.and_eq_true,decide_eq_false h0,Bool.false_or,decide_eq_true_eq] at this
    exact .inr ⟨l[i],l[i - 1],List.getElem?_eq_getElem hi,List.getElem?_eq_getElem h3,this.2⟩
theorem TG (l:List Int) (hl:l.length < 4000000000) (hN:4294967300 < N):Ea N l=some (KA l):=by
 rw [Vj]
 unfold Ea
 rw [JP (n:=l.length) (okJ l) false (fun i hi=>by
  unfold Gb
  rw [B7 hi,cT,BV hi,oS,lw,oS,Dn i (by omega)]
  unfold okJ
  rw [List.getElem?_eq_getElem hi]
  simp only [Bool.decide_and]
  cases (decide (1<=l[i])&&decide (l[i]<=20000)) with
  | false=>rfl
  | true=>
   rw [Bool.not_true,cF,Bool.true_and]
   by_cases h0:i=0
   ·subst h0;rfl
   ·have h1:i - 1 < l.length:=by omega
    rw [decide_eq_true (show (i:Int) > 0 by omega),cT,UF i (by omega) (by omega),BV h1,oS,List.getElem?_eq_getElem h1,decide_eq_false h0,Bool.false_or]
    simp only
    rw [show decide (l[i]<=l[i - 1])= !decide (l[i - 1] < l[i]) by rw [<-decide_not,decide_eq_decide];omega]
    cases decide (l[i - 1] < l[i]) <;> rfl) (by
  unfold Gb
  rw [BU,cF]) (by omega)]
 cases KO l.length (okJ l) with
 | false=>rfl
 | true=>
  rw [cT,Bool.true_and]
  congr 1
  rw [decide_eq_decide];omega
theorem V9 (l:List Int) (hl:l.length < 4000000000) (hN:4294967300 < N):Hx N l=some (KA l):=by
 rw [Vj]
 unfold Hx
 rw [JP (n:=l.length) (okJ l) false (fun i hi=>by
  unfold Fi
  rw [B7 hi,cT,BV hi,oS,rw2,oS,Dn i (by omega)]
  unfold okJ
  rw [List.getElem?_eq_getElem hi]
  simp only [Bool.decide_and]
  cases (decide (1<=l[i])&&decide (l[i]<=20000)) with
  | false=>rfl
  | true=>
   rw [Bool.not_true,cF,Bool.true_and]
   by_cases h0:i=0
   ·subst h0;rfl
   ·have h1:i - 1 < l.length:=by omega
    rw [decide_eq_true (show (i:Int) > 0 by omega),cT,oS,UF i (by omega) (by omega),BV h1,oS,List.getElem?_eq_getElem h1,decide_eq_false h0,Bool.false_or]
    simp only
    rw [show decide (l[i]<=l[i - 1])= !decide (l[i - 1] < l[i]) by rw [<-decide_not,decide_eq_decide];omega]
    cases decide (l[i - 1] < l[i]) <;> rfl) (by
  unfold Fi
  rw [BU,cF]) (by omega)]
 cases KO l.length (okJ l) with
 | false=>rfl
 | true=>
  rw [cT,Bool.true_and]
  congr 1
  rw [decide_eq_decide];omega
end
end
def L2 (N:Nat) (x0:Log):Option YL:=
 ((Bc ([67,65,76,76,32]:YL) x0.Call).bind fun h0=>some h0)
theorem N4:Af Tryz.prog 154:=fun _ _=>by kernel_rfl
theorem Pu (N:Nat) (w0:World) (F0:Mem) (hF:YN w0 F0) (x0:Log) (h0:YM) (h1:Nat) (h9:LC x0.Jumps.length h1) (ha:SlA AP F0 h0 x0.Jumps) (h2:YM) (h3:Nat) (hb:LC x0.Lines.length h3) (hc:SlA AM F0 h2 x0.Lines) (r:YL) (h:L2 N x0=some r):
  Calls Tryz.prog 154 ([(.agg (AG x0 h0 h1 h2 h3))]:List Value).toArray w0 (AC w0 F0 fun F' v=>v=(sv r)):=by
 have h6:=Yt hF
 refine Go 6 Tryz.func154<|Sq (Rg [0,1] ?_)
 refine Bx' 27 (AG x0 h0 h1 h2 h3) h6 (fun hd he h4=>?_)
 refine Vs 1<|Nss (Rg (rG 4) ?_)
 refine Vs 1<|Ld h4.at0 ?_
 obtain ⟨h5,h7,h8⟩:=bS h
 refine V 5 9 (Ay (t:=9) (t':=9) (x:=(.const (sv ([67,65,76,76,32]:YL)))) (y:=(.tmp 4)) (a:=([67,65,76,76,32]:YL)) (b:=x0.Call) (v:=h5) rfl rfl h7)<|Vs 1<|Nt<|Rt ?_
 obtain rfl:=Aa h8
 exact Re [(sv h5)] h4 rfl
def G9 (N:Nat) (x0:Log):(YL×Int)->Option (A9 YL (YL×Int)):=fun h0=>
 (bif (decide (h0.2 < (x0.Jumps.length:Int))) then ((idx x0.Jumps h0.2).bind fun h1=>((strconv_Itoa N h1).bind fun h2=>((Bc ([32]:YL) h2).bind fun h3=>((Bc h0.1 h3).bind fun h4=>some (.next (h4,(W64 (h0.2 + 1)))))))) else some (.done (h0.1,h0.2)))
def Je (N:Nat) (x0:Log):Option YL:=
 ((AH (G9 N x0) N (([74,85,77,80,83]:YL),0)).bind fun o=>o.k (fun r=>some r) (fun h0=>some h0.1))
theorem Lw:Af Tryz.prog 160:=fun _ _=>by kernel_rfl
theorem Mt (N:Nat) (w0:World) (F0:Mem) (hF:YN w0 F0) (hG:BI F0) (x0:Log) (h1:YM) (h2:Nat) (b8:LC x0.Jumps.length h2) (hd:SlA AP F0 h1 x0.Jumps) (h6:YM) (h7:Nat) (b9:LC x0.Lines.length h7) (ba:SlA AM F0 h6 x0.Lines) (r:YL) (h:Je N x0=some r):
  Calls Tryz.prog 160 ([(.agg (AG x0 h1 h2 h6 h7))]:List Value).toArray w0 (AC w0 F0 fun F' v=>v=(sv r)):=by
 have he:=Yt hF
 refine Go 20 Tryz.func160<|Sq (Rg [0,1] ?_)
 refine Bx' 27 (AG x0 h1 h2 h6 h7) he (fun bb bc h8=>?_)
 refine Vs 1<|Nss (Rg [0] ?_)
 refine Vs 1<|Nss<|Sq (Rg (rG 4) ?_)
 refine Vs 1<|Ld h8.at0<|Vs 2<|Nt ?_
 obtain ⟨h9,hf,hg⟩:=bS h
 refine Yy (fun f w=>∃ (h3:(YL×Int)) (F2:Mem),h9=.done h3/\HS w0 F0 w F2 []/\Yr F0 F2/\FI f [] [(3,(sv h3.1))]) ?_ ?_
 ·refine Bk ?_
  refine Yq (by kernel_rfl) (fun m f w=>∃ (h0:(YL×Int)) (F1:Mem),AH (G9 N x0) m h0=some h9/\HS w0 F0 w F1 []/\Yr F0 F1/\FI f [] [(3,(sv h0.1)),(7,(sL h1 x0.Jumps h2)),(8,(vi (x0.Jumps.length:Int))),(9,(vi h0.2))]) N ⟨(([74,85,77,80,83]:YL),0),F0,hf,h8.dr0,(Ys _),fI⟩ ?_
  rintro bd f hh ⟨h0,F1,hk,h4,h5,⟨_,rfl⟩⟩
  obtain ⟨hl,be,rfl,hm,ha⟩:=AD hk
  refine Sq (Rg [0] ?_)
  refine Vs 1<|Nss<|Cd hm (fun hn ho=>?_) (fun hn hp=>?_)
  ·refine Sc ?_
   refine Ab<|Sq<|Bk<|Sq (Rg [0,1,2] ?_)
   obtain ⟨hq,hr,hs⟩:=bS ho
   obtain ⟨ht,hx52'⟩:=Ah hr
   obtain ⟨bf,bg,bh,bi,bj,rfl,hF61,hE62⟩:=Yz (Yu hd h5) hx52'
   have hu:=hE62 _ _ hx52'
   refine Ix ht<|Lx 0 (h4.pers _ _ hF61) hu<|Vs 1<|Nt<|Rg (rG 6)<|Vs 2 ?_
   obtain ⟨hv,hw,hx⟩:=bS hs
   refine Cl' AV h4 (A1 N hh F1 h4.pers (hG.mono h5) hq _ hw) ?_
   rintro _ F3 bk hy hz rfl
   obtain ⟨hb,b0,b1⟩:=bS hx
   refine V 16 9 (Ay (t:=9) (t':=9) (x:=(.const (sv ([32]:YL)))) (y:=(.tmp 15)) (a:=([32]:YL)) (b:=hv) (v:=hb) rfl rfl b0) ?_
   obtain ⟨hc,b2,b3⟩:=bS b1
   refine V 17 9 (Ay (t:=9) (t':=9) (x:=(.tmp 13)) (y:=(.tmp 16)) (a:=h0.1) (b:=hb) (v:=hc) rfl rfl b2)<|Vs 1<|Yn<|Ao<|Ab<|Rg [0,1]<|Vs 2<|Yn ?_
   have b4:=AA b3 ha
   exact ⟨hl,Nat.lt_succ_self _,(hc,(W64 (h0.2 + 1))),F3,b4,hy,(h5.t hz),fI⟩
  ·refine Ex ?_
   refine Al<|Al<|Av rfl ?_
   have b5:=AB hp ha
   exact .inl ⟨rfl,(h0.1,h0.2),F1,b5,h4,h5,fI⟩
 ·rintro f bl ⟨h3,F2,rfl,b6,bm,⟨_,rfl⟩⟩
  have b7:=A4 hg
  refine Ab<|Sq (Rg [0,1] ?_)
  refine Vs 2<|Nt<|Rt ?_
  obtain rfl:=Aa b7
  exact Re [(sv h3.1)] b6 rfl
def Eb (N:Nat) (x0:Ac) (x1:Line):Option (YL×Int):=
 ((C7 N ({Report:=x0.Report,Serial:=x0.Serial,Zone:=x0.Zone}:Ac) x1).bind fun h0=>(bif (!h0) then some (([]:YL),1) else ((C2 N x1.Minute).bind fun h1=>((Br N ({Report:=x0.Report,Serial:=x0.Serial,Zone:=x0.Zone}:Ac) ({Report:=x1.Sent.Report,Serial:=x1.Sent.Serial,Zone:=x1.Sent.Zone}:Ae)).bind fun h2=>((Br N ({Report:=x0.Report,Serial:=x0.Serial,Zone:=x0.Zone}:Ac) ({Report:=x1.Got.Report,Serial:=x1.Got.Serial,Zone:=x1.Got.Zone}:Ae)).bind fun h3=>(((G5 ([32,77,86,68]:YL) x1.Mode (W64 (x1.Mode + 1))).bind fun h4=>((strconv_Itoa N x1.Num).bind fun h5=>((strconv_Itoa N x1.Khz).bind fun h6=>((strings_Join N ([([81,83,79]:YL),h5,h6,h4,h1.1,x1.Call,([62]:YL),h2.1,([60]:YL),h3.1]) ([32]:YL)).bind fun h7=>some h7)))).bind fun h8=>some (h8,0)))))))
theorem HK:Af Tryz.prog 27:=fun _ _=>by kernel_rfl
theorem IE (N:Nat) (w0:World) (F0:Mem) (hF:YN w0 F0) (hG:BI F0) (x0:Ac) (x1:Line) (r:(YL×Int)) (h:Eb N x0 x1=some r):
  Calls Tryz.prog 27 ([(.agg (Ag x0)),(.agg (BX x1))]:List Value).toArray w0 (AC w0 F0 fun F' v=>v=(.tuple #[(sv r.1),(vi r.2)])):=by
 have ho:=Yt hF
 refine Go 55 Tryz.func27<|Sq (Rg (rG 4) ?_)
 refine Bx' 23 (Ag x0) ho (fun hp bu hr=>?_)
 refine Bx' 34 (BX x1) hr (fun hs ht h2=>?_)
 refine Vs 2<|Nss<|Sq (Rg (rG 4) ?_)
 refine Ld h2.at1<|Ld h2.at0 ?_
 obtain ⟨bv,hu,hv⟩:=bS h
 refine Cl' HJ h2 (ID N ht F0 h2.pers (({Report:=x0.Report,Serial:=x0.Serial,Zone:=x0.Zone}:Ac)) x1 _ hu) ?_
 rintro _ F1 hw h3 h1 rfl
 refine Vs 1<|Nt<|Cd hv (fun hx hy=>?_) (fun hx hz=>?_)
 ·refine Sq (Rg [0,1] ?_)
  refine Vs 2<|Nt<|Rt<|Ad ?_
  obtain rfl:=Aa hy
  exact Re [(sv (([]:YL))),(vi 1)] h3 rfl
 ·refine Sc ?_
  refine Ab<|Sq (Rg (rG 8) ?_)
  refine Vs 1<|Ld h3.at0 ?_
  obtain ⟨h4,b0,b1⟩:=bS hz
  refine Cl' Iy h3 (Jt N hw F1 h3.pers (hG.mono h1) x1.Minute _ b0) ?_
  rintro _ F2 b2 h5 h6 rfl
  refine Vs 5<|Nss (Rg (rG 9) ?_)
  refine Ld h5.at1<|Vs 1<|Ld h5.at0 ?_
  obtain ⟨h7,b3,b4⟩:=bS b1
  refine Cl' Ee h5 (EC N b2 F2 h5.pers (hG.mono (h1.t h6)) (({Report:=x0.Report,Serial:=x0.Serial,Zone:=x0.Zone}:Ac)) (({Report:=x1.Sent.Report,Serial:=x1.Sent.Serial,Zone:=x1.Sent.Zone}:Ae)) _ b3) ?_
  rintro _ F3 b5 h8 hc rfl
  refine Vs 5<|Nss (Rg (rG 9) ?_)
  refine Ld h8.at1<|Vs 1<|Ld h8.at0 ?_
  obtain ⟨h9,b6,b7⟩:=bS b4
  refine Cl' Ee h8 (EC N b5 F3 h8.pers (hG.mono ((h1.t h6).trans hc)) (({Report:=x0.Report,Serial:=x0.Serial,Zone:=x0.Zone}:Ac)) (({Report:=x1.Got.Report,Serial:=x1.Got.Serial,Zone:=x1.Got.Zone}:Ae)) _ b6) ?_
  rintro _ F4 bw b8 hf rfl
  refine Vs 5<|Nss ?_
  obtain ⟨hg,b9,ba⟩:=bS b7
  refine RD 21 21 [(sb hs (BX x1) 34),(sb hp (Ag x0) 23)] [] b8 (fun f w=>∃ (F5:Mem),HS w0 F0 w F5 []/\Yr F4 F5/\FI f [] [(4,(sv hg)),(5,(vi 0))]) (fun bb hh=>?_) ?_
  ·refine Dvl [0] (tf 1 20) ?_
   refine Dl 1 (fun _ hq=>(hq.1.2 0 _ _ rfl))<|Dvl [3] [tt,tt,ff,tt,ff,ff,ff,ff,ff,ff,ff,ff,ff,ff,ff,ff,ff,ff,ff,ff,ff]<|Dl 4 (fun _ hq=>(hq.1.2 0 _ _ rfl))<|Dvl [6] [tt,tt,ff,tt,tt,ff,tt,ff,ff,ff,ff,ff,ff,ff,ff,ff,ff,ff,ff,ff,ff]<|Dl 7 (fun _ hq=>(hq.1.2 0 _ _ rfl))<|Dvl [8] [tt,tt,ff,tt,tt,ff,tt,tt,tt,ff,ff,ff,ff,ff,ff,ff,ff,ff,ff,ff,ff]<|Dl 9 (fun _ hq=>(hq.1.2 0 _ _ rfl))<|Dvl [10] [tt,tt,ff,tt,tt,ff,tt,tt,tt,tt,tt,ff,ff,ff,ff,ff,ff,ff,ff,ff,ff] ?_
   obtain ⟨h0,bc,bd⟩:=bS b9
   refine Dtl 11 47 9 (sv h0) [tt,tt,ff,tt,tt,ff,tt,tt,tt,tt,tt,tt,ff,ff,ff,ff,ff,ff,ff,ff,ff] (fun _ hq=>CQ (t:=9) (x:=(.const (sv ([32,77,86,68]:YL)))) (lo:=(some (.tmp 43))) (hi:=(some (.tmp 46))) (a:=([32,77,86,68]:YL)) (il:=x1.Mode) (ih:=(W64 (x1.Mode + 1))) (v:=h0) rfl (by kernel_rfl) rfl rfl bc)<|Dvl [12,13] [tt,tt,ff,tt,tt,ff,tt,tt,tt,tt,tt,tt,tt,tt,ff,ff,ff,ff,ff,ff,ff]<|Dl 14 (fun _ hq=>(hq.1.2 0 _ _ rfl))<|Dvl [15,16] [tt,tt,ff,tt,tt,ff,tt,tt,tt,tt,tt,tt,tt,tt,tt,tt,tt,ff,ff,ff,ff]<|D1 2 ?_
   obtain ⟨ha,be,bf⟩:=bS bd
   refine DCl AV hh (A1 N bb F4 hh.pers (hG.mono (((h1.t h6).trans hc).trans hf)) x1.Num _ be) ?_
   rintro _ F6 bg hk hd rfl
   refine D1 5 ?_
   obtain ⟨hb,bh,bi⟩:=bS bf
   refine DCl AV hk (A1 N bg F6 hk.pers (hG.mono ((((h1.t h6).trans hc).trans hf).trans hd)) x1.Khz _ bh) ?_
   rintro _ F7 bx bj hl rfl
   refine D1 17<|DBs 9 [(sv (([81,83,79]:YL))),(sv ha),(sv hb),(sv h0),(sv h4.1),(sv x1.Call),(sv (([62]:YL))),(sv h7.1),(sv (([60]:YL))),(sv h9.1)] bj (hd.t hl) (fun he bk bl=>?_)
   have hm:Ap AF 9 F7 (some ⟨he,0,none⟩) 10 [([81,83,79]:YL),ha,hb,h0,h4.1,x1.Call,([62]:YL),h7.1,([60]:YL),h9.1] (some he,.cells ([(sv (([81,83,79]:YL))),(sv ha),(sv hb),(sv h0),(sv h4.1),(sv x1.Call),(sv (([62]:YL))),(sv h7.1),(sv (([60]:YL))),(sv h9.1)]:List Value).toArray 9 (0,0)):=YH ⟨rfl,⟨rfl,⟨rfl,⟨rfl,⟨rfl,⟨rfl,⟨rfl,⟨rfl,⟨rfl,⟨rfl,rfl⟩⟩⟩⟩⟩⟩⟩⟩⟩⟩ (by simp)
   refine D1 18 ?_
   have bm:=YF hm
   obtain ⟨F8,hn,bn,bo⟩:=bl.fr0 hm
   obtain ⟨bz,bp,bq⟩:=bS bi
   refine DCl CK hn (Dc N bk F8 hn.pers ([([81,83,79]:YL),ha,hb,h0,h4.1,x1.Call,([62]:YL),h7.1,([60]:YL),h9.1]) (some ⟨he,0,none⟩) 10 bm bo (([32]:YL)) _ bp) ?_
   rintro _ F9 c0 br bs rfl
   refine Dvl [19,20] (tf 21 0) ?_
   obtain rfl:=Aa bq
   exact YE (by kernel_rfl) ⟨F9,br.dr0.dr0,(((hd.t hl).trans bn).trans bs),fI⟩
  ·rintro f c1 ⟨F5,bt,c3,⟨_,rfl⟩⟩
   refine Ab<|Rt ?_
   obtain rfl:=Aa ba
   exact Re [(sv hg),(vi 0)] bt rfl
theorem Ng:Af Tryz.prog 156:=fun _ _=>by kernel_rfl
set_option maxRecDepth 100000 in
theorem Pt (w0:World) (F0:Mem) (hF:YN w0 F0) (b o:Nat):Calls Tryz.prog 156 ([(.pointer (some ⟨b,o,none⟩))]:List Value).toArray w0 (AC w0 F0 fun _ v=>v=.pointer (some ⟨b,o + 1,none⟩)):=by
 have h0:=Yt hF
 refine Go 6 Tryz.func156<|Sq<|Rg [0]<|V 2 194 (IL (x:=.const (.pointer none)) (v:=.pointer none) rfl)<|Yn<|Ab<|Sq<|Rg [0,1,2,3]<|Vs 2<|V 5 0 (DK (s:=27) (x:=.tmp 4) (i:=1) (b:=b) (o0:=o) (o:=1) (k:=1) rfl (by kernel_rfl) (by decide) rfl)<|Vs 1<|Yn<|Ab<|Rt ?_
 exact Re [(.pointer (some ⟨b,o + 1,none⟩))] h0 rfl
theorem Nf:Af Tryz.prog 157:=fun _ _=>by kernel_rfl
set_option maxRecDepth 100000 in
theorem Ps (w0:World) (F0:Mem) (hF:YN w0 F0) (b o:Nat):Calls Tryz.prog 157 ([(.pointer (some ⟨b,o,none⟩))]:List Value).toArray w0 (AC w0 F0 fun _ v=>v=.pointer (some ⟨b,o + 2,none⟩)):=by
 have h0:=Yt hF
 refine Go 6 Tryz.func157<|Sq<|Rg [0]<|V 2 194 (IL (x:=.const (.pointer none)) (v:=.pointer none) rfl)<|Yn<|Ab<|Sq<|Rg [0,1,2,3]<|Vs 2<|V 5 0 (DK (s:=27) (x:=.tmp 4) (i:=2) (b:=b) (o0:=o) (o:=2) (k:=1) rfl (by kernel_rfl) (by decide) rfl)<|Vs 1<|Yn<|Ab<|Rt ?_
 exact Re [(.pointer (some ⟨b,o + 2,none⟩))] h0 rfl
theorem Nd:Af Tryz.prog 158:=fun _ _=>by kernel_rfl
set_option maxRecDepth 100000 in
theorem Pr (w0:World) (F0:Mem) (hF:YN w0 F0) (b o:Nat):Calls Tryz.prog 158 ([(.pointer (some ⟨b,o,none⟩))]:List Value).toArray w0 (AC w0 F0 fun _ v=>v=.pointer (some ⟨b,o + 3,none⟩)):=by
 have h0:=Yt hF
 refine Go 6 Tryz.func158<|Sq<|Rg [0]<|V 2 194 (IL (x:=.const (.pointer none)) (v:=.pointer none) rfl)<|Yn<|Ab<|Sq<|Rg [0,1,2,3]<|Vs 2<|V 5 0 (DK (s:=27) (x:=.tmp 4) (i:=3) (b:=b) (o0:=o) (o:=3) (k:=1) rfl (by kernel_rfl) (by decide) rfl)<|Vs 1<|Yn<|Ab<|Rt ?_
 exact Re [(.pointer (some ⟨b,o + 3,none⟩))] h0 rfl
def Il (N:Nat) (x0:Log) (z0:YL):Option YL:=
 (((Bc z0 ([32]:YL)).bind fun h0=>((strconv_Itoa N x0.Category).bind fun h1=>((Bc h0 h1).bind fun h2=>some h2))).bind fun h3=>some h3)
theorem KE:Af Tryz.prog 191:=fun _ _=>by kernel_rfl
theorem LE (N:Nat) (w0:World) (F0:Mem) (hF:YN w0 F0) (hG:BI F0) (x0:Log) (h0:YM) (h1:Nat) (hy:LC x0.Jumps.length h1) (hz:SlA AP F0 h0 x0.Jumps) (h2:YM) (h3:Nat) (b0:LC x0.Lines.length h3) (b1:SlA AM F0 h2 x0.Lines) (h5:Nat) (z0:YL) (hd:F0 h5=some (oc #[(sv z0)] 9)) (h6:Nat) (he:F0 h6=some (oc #[(fV 156 #[])] 195)) (r:YL) (h:Il N x0 z0=some r):
  Calls Tryz.prog 191 ([(.agg (AG x0 h0 h1 h2 h3)),(pt h5 0),(pt h6 0)]:List Value).toArray w0 (AC w0 F0 fun F' v=>v=(sv r)):=by
 have hf:=Yt hF
 refine Go 13 Tryz.func191<|Sq (Rg [0,1] ?_)
 refine Bx' 27 (AG x0 h0 h1 h2 h3) hf (fun h7 b2 hg=>?_)
 refine Vs 1<|Nss ?_
 obtain ⟨h8,hh,hk⟩:=bS h
 refine RD 9 9 [(sb h7 (AG x0 h0 h1 h2 h3) 27)] [] hg (fun f w=>∃ (F1:Mem),HS w0 F0 w F1 []/\Yr F0 F1/\FI f [] [(4,(sv h8))]) (fun hl h9=>?_) ?_
 ·refine Dl 0 (fun _ hq=>(hq.1.1 _ _ hd)) ?_
  obtain ⟨h4,hm,hn⟩:=bS hh
  refine Dt 1 6 9 (sv h4) (fun _ hq=>Ay (t:=9) (t':=9) (x:=(.tmp 5)) (y:=(.const (sv ([32]:YL)))) (a:=z0) (b:=([32]:YL)) (v:=h4) rfl rfl hm)<|Dl 2 (fun _ hq=>(hq.1.1 _ _ he))<|D1 3<|DCl Ng h9 (Pt hl F0 h9.pers h7 0) ?_
  rintro _ F2 ho ha hb rfl
  refine Dv [4]<|Dl 5 (fun _ hq=>(hq.1.2 0 _ _ rfl))<|D1 6 ?_
  obtain ⟨hp,hr,hs⟩:=bS hn
  refine DCl AV ha (A1 N ho F2 ha.pers (hG.mono hb) x0.Category _ hr) ?_
  rintro _ F3 b3 ht hu rfl
  obtain ⟨hc,hv,hw⟩:=bS hs
  refine Dt 7 12 9 (sv hc) (fun _ hq=>Ay (t:=9) (t':=9) (x:=(.tmp 6)) (y:=(.tmp 11)) (a:=h4) (b:=hp) (v:=hc) rfl rfl hv)<|Dv [8] ?_
  obtain rfl:=Aa hw
  exact YE (by kernel_rfl) ⟨F3,ht.dr0,(hb.t hu),fI⟩
 ·rintro f b4 ⟨F1,hx,b5,⟨_,rfl⟩⟩
  refine Ab<|Rt ?_
  obtain rfl:=Aa hk
  exact Re [(sv h8)] hx rfl
def Ij (N:Nat) (x0:Log) (z0:YL):Option YL:=
 (((Bc z0 ([32]:YL)).bind fun h0=>((strconv_Itoa N x0.Power).bind fun h1=>((Bc h0 h1).bind fun h2=>some h2))).bind fun h3=>some h3)
theorem KC:Af Tryz.prog 191:=fun _ _=>by kernel_rfl
theorem LB (N:Nat) (w0:World) (F0:Mem) (hF:YN w0 F0) (hG:BI F0) (x0:Log) (h0:YM) (h1:Nat) (hy:LC x0.Jumps.length h1) (hz:SlA AP F0 h0 x0.Jumps) (h2:YM) (h3:Nat) (b0:LC x0.Lines.length h3) (b1:SlA AM F0 h2 x0.Lines) (h5:Nat) (z0:YL) (hd:F0 h5=some (oc #[(sv z0)] 9)) (h6:Nat) (he:F0 h6=some (oc #[(fV 157 #[])] 195)) (r:YL) (h:Ij N x0 z0=some r):
  Calls Tryz.prog 191 ([(.agg (AG x0 h0 h1 h2 h3)),(pt h5 0),(pt h6 0)]:List Value).toArray w0 (AC w0 F0 fun F' v=>v=(sv r)):=by
 have hf:=Yt hF
 refine Go 13 Tryz.func191<|Sq (Rg [0,1] ?_)
 refine Bx' 27 (AG x0 h0 h1 h2 h3) hf (fun h7 b2 hg=>?_)
 refine Vs 1<|Nss ?_
 obtain ⟨h8,hh,hk⟩:=bS h
 refine RD 9 9 [(sb h7 (AG x0 h0 h1 h2 h3) 27)] [] hg (fun f w=>∃ (F1:Mem),HS w0 F0 w F1 []/\Yr F0 F1/\FI f [] [(4,(sv h8))]) (fun hl h9=>?_) ?_
 ·refine Dl 0 (fun _ hq=>(hq.1.1 _ _ hd)) ?_
  obtain ⟨h4,hm,hn⟩:=bS hh
  refine Dt 1 6 9 (sv h4) (fun _ hq=>Ay (t:=9) (t':=9) (x:=(.tmp 5)) (y:=(.const (sv ([32]:YL)))) (a:=z0) (b:=([32]:YL)) (v:=h4) rfl rfl hm)<|Dl 2 (fun _ hq=>(hq.1.1 _ _ he))<|D1 3<|DCl Nf h9 (Ps hl F0 h9.pers h7 0) ?_
  rintro _ F2 ho ha hb rfl
  refine Dv [4]<|Dl 5 (fun _ hq=>(hq.1.2 0 _ _ rfl))<|D1 6 ?_
  obtain ⟨hp,hr,hs⟩:=bS hn
  refine DCl AV ha (A1 N ho F2 ha.pers (hG.mono hb) x0.Power _ hr) ?_
  rintro _ F3 b3 ht hu rfl
  obtain ⟨hc,hv,hw⟩:=bS hs
  refine Dt 7 12 9 (sv hc) (fun _ hq=>Ay (t:=9) (t':=9) (x:=(.tmp 6)) (y:=(.tmp 11)) (a:=h4) (b:=hp) (v:=hc) rfl rfl hv)<|Dv [8] ?_
  obtain rfl:=Aa hw
  exact YE (by kernel_rfl) ⟨F3,ht.dr0,(hb.t hu),fI⟩
 ·rintro f b4 ⟨F1,hx,b5,⟨_,rfl⟩⟩
  refine Ab<|Rt ?_
  obtain rfl:=Aa hk
  exact Re [(sv h8)] hx rfl
def Ik (N:Nat) (x0:Log) (z0:YL):Option YL:=
 (((Bc z0 ([32]:YL)).bind fun h0=>((strconv_Itoa N x0.Claimed).bind fun h1=>((Bc h0 h1).bind fun h2=>some h2))).bind fun h3=>some h3)
theorem KD:Af Tryz.prog 191:=fun _ _=>by kernel_rfl
theorem LD (N:Nat) (w0:World) (F0:Mem) (hF:YN w0 F0) (hG:BI F0) (x0:Log) (h0:YM) (h1:Nat) (hy:LC x0.Jumps.length h1) (hz:SlA AP F0 h0 x0.Jumps) (h2:YM) (h3:Nat) (b0:LC x0.Lines.length h3) (b1:SlA AM F0 h2 x0.Lines) (h5:Nat) (z0:YL) (hd:F0 h5=some (oc #[(sv z0)] 9)) (h6:Nat) (he:F0 h6=some (oc #[(fV 158 #[])] 195)) (r:YL) (h:Ik N x0 z0=some r):
  Calls Tryz.prog 191 ([(.agg (AG x0 h0 h1 h2 h3)),(pt h5 0),(pt h6 0)]:List Value).toArray w0 (AC w0 F0 fun F' v=>v=(sv r)):=by
 have hf:=Yt hF
 refine Go 13 Tryz.func191<|Sq (Rg [0,1] ?_)
 refine Bx' 27 (AG x0 h0 h1 h2 h3) hf (fun h7 b2 hg=>?_)
 refine Vs 1<|Nss ?_
 obtain ⟨h8,hh,hk⟩:=bS h
 refine RD 9 9 [(sb h7 (AG x0 h0 h1 h2 h3) 27)] [] hg (fun f w=>∃ (F1:Mem),HS w0 F0 w F1 []/\Yr F0 F1/\FI f [] [(4,(sv h8))]) (fun hl h9=>?_) ?_
 ·refine Dl 0 (fun _ hq=>(hq.1.1 _ _ hd)) ?_
  obtain ⟨h4,hm,hn⟩:=bS hh
  refine Dt 1 6 9 (sv h4) (fun _ hq=>Ay (t:=9) (t':=9) (x:=(.tmp 5)) (y:=(.const (sv ([32]:YL)))) (a:=z0) (b:=([32]:YL)) (v:=h4) rfl rfl hm)<|Dl 2 (fun _ hq=>(hq.1.1 _ _ he))<|D1 3<|DCl Nd h9 (Pr hl F0 h9.pers h7 0) ?_
  rintro _ F2 ho ha hb rfl
  refine Dv [4]<|Dl 5 (fun _ hq=>(hq.1.2 0 _ _ rfl))<|D1 6 ?_
  obtain ⟨hp,hr,hs⟩:=bS hn
  refine DCl AV ha (A1 N ho F2 ha.pers (hG.mono hb) x0.Claimed _ hr) ?_
  rintro _ F3 b3 ht hu rfl
  obtain ⟨hc,hv,hw⟩:=bS hs
  refine Dt 7 12 9 (sv hc) (fun _ hq=>Ay (t:=9) (t':=9) (x:=(.tmp 6)) (y:=(.tmp 11)) (a:=h4) (b:=hp) (v:=hc) rfl rfl hv)<|Dv [8] ?_
  obtain rfl:=Aa hw
  exact YE (by kernel_rfl) ⟨F3,ht.dr0,(hb.t hu),fI⟩
 ·rintro f b4 ⟨F1,hx,b5,⟨_,rfl⟩⟩
  refine Ab<|Rt ?_
  obtain rfl:=Aa hk
  exact Re [(sv h8)] hx rfl
section
open Go.Proofs Go.Lib
def VQ (a:YM) (cap:Nat) (t:YL) (e:Option Nat×Obj):Prop:=
 (a=none/\cap=0/\t=[]/\e.1=none)\/ ∃ g cur,a=some ⟨g,0,none⟩/\e=(some g,.cells cur 5 (0,0))/\t≠[]/\t.length<=cap/\cap<=maxLen/\cur.size=cap/\cur.toList.take t.length=byteCells t
def LK (t s:YL):Option YL:=if t.length + s.length<=140737488355328 then some (t++s) else none
theorem Ux {t s r:YL} (h:LK t s=some r):t.length + s.length<=140737488355328/\r=t++s:=by
 unfold LK at h;split at h
 ·rename_i h1;exact ⟨h1,by cases h;rfl⟩
 ·cases h
section
variable {w w0 : World} {F0 F : Mem} {L : Own}
theorem FG (l:YL):(byteCells l).length=l.length:=by simp [byteCells]
theorem VD (l m:YL):byteCells (l++m)=byteCells l++byteCells m:=by simp [byteCells]
theorem SA {g:Nat} {cur cs:Array Value} {e:TypeId} {fz:Nat×Nat} (hg:w.heap[g]? =some (.cells cur e fz)):w.setRow g cs=CA w g (.cells cs e fz):=by
 have hlt:g < w.heap.size:=(Array.getElem?_eq_some_iff.1 hg).1
 have hv:w.heap[g]=.cells cur e fz:=(Array.getElem?_eq_some_iff.1 hg).2
 unfold World.setRow CA
 congr 1
 apply Array.ext_getElem?
 intro i
 rw [Array.getElem?_modify,Array.getElem?_setIfInBounds]
 by_cases hi:g=i
 ·subst hi;simp [hlt,hv]
 ·simp [hi]
theorem OJ {ty:TypeId} (hs:HS w0 F0 w F L) {k:Nat} {e:Option Nat×Obj} (hk:L[k]? =some e) {a:YM} {cap:Nat} {t s r:YL} (hr:VQ a cap t e) (hap:LK t s=some r):
  ∃ a' cap' e' w',(Builtin.append_ #[103,9] ty #[.slice a t.length cap,.string ⟨s.toArray⟩]).run Tryz.prog w=.ok (.slice a' r.length cap') w'/\HS w0 F0 w' F (L.set k e')/\VQ a' cap' r e':=by
 obtain ⟨hlen,rfl⟩:=Ux hap
 have h1:Tryz.prog.underlying 9=some .string:=Tryz.underlying9
 have h2:Tryz.prog.underlying 103=some (.slice 5):=Tryz.underlying103
 obtain ⟨i0,hi,h4,h3,h5⟩:=info_parts (show (Tryz.prog.info? 5).map (fun i=>(i.zero,i.size,i.bytes))=some (some (.int .u8 0),1,1) by kernel_rfl)
 have hss:(⟨s.toArray⟩:ByteArray).size=s.length:=by simp [ByteArray.size]
 have hsc:strCells ⟨s.toArray⟩=byteCells s:=by simp [strCells,byteCells]
 have hm:maxLen=9223372036854775807:=rfl
 rcases hr with ⟨rfl,rfl,rfl,he⟩ | ⟨g,cur,rfl,rfl,hne,hlc,hcm,hcs,htk⟩
 ·by_cases h0:s=[]
  ·subst h0
   refine ⟨none,0,e,w,?_,by rw [OC hk];exact hs,.inl ⟨rfl,rfl,rfl,he⟩⟩
   simp [Builtin.append_,run_underlying h2,run_underlying h1,sizeOf,typeInfo,hi,h3,Builtin.lenOf,Builtin.firstCells,ByteArray.size]
  ·have hpos:0 < s.length:=List.length_pos_iff.2 h0
   have hrun:=run_append_nil_string (P:=Tryz.prog) w 103 9 ty 5 i0 (.int .u8 0) h2 h1 hi h4 ⟨s.toArray⟩ (by rw [hss];exact hpos) (by rw [hss];simp at hlen;omega) (by rw [hss,h5];simp at hlen;omega)
   rw [hss] at hrun
   refine ⟨_,_,_,_,hrun,(hs.heap (w':=w.drew) rfl).renew k _,.inr ⟨_,_,rfl,rfl,by simpa using h0,by simpa using grownCap_ge w s.length 0 5,grownCap_le_maxLen w s.length 0 5 (by rw [hm];simp at hlen;omega),?_,?_⟩⟩
   ·have:=grownCap_ge w s.length 0 5
    simp [Builtin.zeroCells,Value.cells];omega
   ·rw [List.nil_append]
    have e1:(s.toArray.map fun b=>Value.int .u8 (b.toNat:Int)).toList=byteCells s:=by simp [byteCells]
    rw [Array.toList_append,e1,List.take_append_of_le_length (by rw [FG];exact Nat.le_refl _),<-FG s,List.take_length]
 ·have hg:w.heap[g]? =some (.cells cur 5 (0,0)):=hs.ownAt hk
  by_cases hfit:t.length + s.length<=cap
  ·have hrun:=run_append_room_string (P:=Tryz.prog) w 103 9 ty 5 i0 h2 h1 hi h3 g t.length cap cur hg ⟨s.toArray⟩ (by rw [hss];exact hfit) (by rw [hss,hcs];exact hfit)
   rw [hss,hsc,SA hg] at hrun
   refine ⟨some ⟨g,0,none⟩,cap,_,_,by rw [List.length_append];exact hrun,hs.put hk _,.inr ⟨g,_,rfl,rfl,by simp [hne],by simpa using hfit,hcm,?_,?_⟩⟩
   ·simp [FG,hcs];omega
   ·rw [htk,List.length_append,VD]
    rw [List.take_append_of_le_length (by simp [FG])]
    have:t.length + s.length=(byteCells t++byteCells s).length:=by simp [FG]
    rw [this,List.take_length]
  ·have hholds:∀ j v,(byteCells t)[j]? =some v->w.cell? ((⟨g,0,none⟩:Addr).add j)=some v:=fun j v hj=>by
    have hjl:j < t.length:=by
     rcases Nat.lt_or_ge j t.length with h' | h'
     ·exact h'
     ·rw [List.getElem?_eq_none (by rw [FG];exact h')] at hj;cases hj
    have:cur[j]? =some v:=by
     rw [<-htk,List.getElem?_take_of_lt hjl,Array.getElem?_toList] at hj;exact hj
    rw [Addr.add_lit];simp [World.cell?,hg,this]
   have hrun:=run_append_grow_string (P:=Tryz.prog) w 103 9 ty 5 i0 (.int .u8 0) h2 h1 hi h4 ⟨g,0,none⟩ t.length cap (byteCells t) (by rw [FG,h3,Nat.mul_one]) hholds ⟨s.toArray⟩ (by rw [hss];omega) (by rw [hss];omega) (by rw [hss,h5];exact growslice_fits (by omega) (by omega))
   rw [hss,hsc] at hrun
   refine ⟨_,_,_,_,by rw [List.length_append];exact hrun,(hs.heap (w':=w.drew) rfl).renew k _,.inr ⟨_,_,rfl,rfl,by simp [hne],by simpa using grownCap_ge w (t.length + s.length) cap 5,grownCap_le_maxLen w (t.length + s.length) cap 5 (by rw [hm];omega),?_,?_⟩⟩
   ·have:=grownCap_ge w (t.length + s.length) cap 5
    simp [Builtin.zeroCells,Value.cells,FG];omega
   ·rw [Array.toList_append,Array.toList_append,VD,List.length_append]
    have:t.length + s.length=(byteCells t++byteCells s).length:=by simp [FG]
    rw [List.take_append_of_le_length (by simp [FG]),this]
    simp only [List.take_length]
end
section
variable {ρ : Operand -> Value} {w : World}
theorem JU (op:BinOp) (t:TypeId) (x y:Operand) (p q:YM):(eqGuard op t x y (.pointer p) (.pointer q)).run Tryz.prog w=.ok () w:=by
 unfold eqGuard;cases op <;> simp
theorem QK (p:YM) (d:Nat):(Op.equalIn (d + 1) 102 (.pointer p) (.pointer none)).run Tryz.prog w=.ok p.isNone w:=by
 unfold Op.equalIn
 simp only [Sem.run_bind,run_underlying Tryz.underlying102,Result.andThen_ok]
 cases p <;> rfl
theorem RE {x y:Operand} {p:YM} {ty:TypeId} (hx:ρ x=.pointer p) (hy:ρ y=.pointer none):(An ρ (.binOp .eql 102 x y 102) ty).run Tryz.prog w=.ok (.value (.bool p.isNone)) w:=by
 have e:An ρ (.binOp .eql 102 x y 102) ty=(do pure (Next.value (<-(do eqGuard .eql 102 x y (ρ x) (ρ y);binOp .eql 102 (ρ x) (ρ y))))):=rfl
 have e2:binOp .eql 102 (.pointer p) (.pointer none)=(do pure (Value.bool (<-Op.equalIn (9999 + 1) 102 (.pointer p) (.pointer none)))):=rfl
 rw [e,hx,hy,e2]
 simp only [Sem.run_bind,JU,Result.andThen_ok,QK,Sem.run_pure]
theorem QH {x y:Operand} {a:Addr} {ty:TypeId} (hx:ρ x=.pointer (some a)) (hy:ρ y=.pointer (some a)):(An ρ (.binOp .neq 102 x y 102) ty).run Tryz.prog w=.ok (.value (.bool false)) w:=by
 have e:An ρ (.binOp .neq 102 x y 102) ty=(do pure (Next.value (<-(do eqGuard .neq 102 x y (ρ x) (ρ y);binOp .neq 102 (ρ x) (ρ y))))):=rfl
 obtain ⟨j,hj,_⟩:=Option.map_eq_some_iff.1 (show (Tryz.prog.info? 105).map (·.size)=some 2 by kernel_rfl)
 rw [e,hx,hy]
 simp only [Sem.run_bind,JU,Result.andThen_ok,run_neq_ptr_same w a Tryz.underlying102 hj,Sem.run_pure]
theorem RG {x:Operand} {v u:Value} {s d ty:TypeId} (hx:ρ x=v) (h:(convert s d v).run Tryz.prog w=.ok u w):(An ρ (.convert s d x) ty).run Tryz.prog w=.ok (.value u) w:=by
 have e:An ρ (.convert s d x) ty=(do pure (Next.value (<-convert s d (ρ x)))):=rfl
 rw [e,hx,Sem.run_bind,h];rfl
theorem T4 {x:Operand} {v:Value} {ty:TypeId} (hx:ρ x=v) (hf:ρ (.func 192)=.func (.func 192) #[] #[]):(An ρ (.call {callee:=.value (.func 192),args:=#[x],argTypes:=#[235]}) ty).run Tryz.prog w=.ok (.value v) w:=by
 have e:An ρ (.call {callee:=.value (.func 192),args:=#[x],argTypes:=#[235]}) ty=(do let d<-Deferred.ofValue (ρ (.func 192)) (#[x].map ρ);invoke d.target d.args):=rfl
 rw [e,hf]
 simp only [Deferred.ofValue,Sem.run_bind,Sem.run_pure,Result.andThen_ok,invoke]
 rw [run_callFunc_extern Tryz.func192 (by kernel_rfl) (by kernel_rfl) (by kernel_rfl) (e:=Extern.AbiNoEscape.same) (by kernel_rfl)]
 have:(#[]++Array.map ρ #[x]++#[]:Array Value)=#[v]:=by simp [hx]
 rw [this,run_noEscape];rfl
end
theorem Q9:Af Tryz.prog 161:=fun _ _=>by kernel_rfl
theorem Sh {wb w0:World} {Fb F0:Mem} {Lf:Own} (b:Nat) (p:YM) (hp:p=none\/p=some ⟨b,0,none⟩) (v:Value) (hv:v.oneCell'=true) (h0:HS wb Fb w0 F0 ((some b,.cells #[.pointer p,v] 105 (0,0))::Lf)):
  Calls Tryz.prog 161 ([(.pointer (some ⟨b,0,none⟩))]:List Value).toArray w0 (FY wb Fb F0 fun _ r L'=>r=.tuple #[]/\L'=(some b,.cells #[.pointer (some ⟨b,0,none⟩),v] 105 (0,0))::Lf):=by
 have hsh:w0.shape? b=some (105,2):=by simp [World.shape?,h0.at0]
 refine Go 20 Tryz.func161<|Sq<|Rg [0,1,2,3,4]<|Vs 3<|Ld h0.at0<|V 6 4 (RE (x:=.tmp 5) (y:=.const (.pointer none)) (p:=p) rfl rfl)<|Yn<|Ab ?_
 rcases hp with rfl | rfl
 ·refine C1 (t:=true) rfl ?_
  refine Rg [0,1,2,3,4,5,6,7] ?_
  obtain ⟨j,hj,hjs⟩:=Option.map_eq_some_iff.1 (show (Tryz.prog.info? 105).map (·.size)=some 2 by kernel_rfl)
  refine Vs 2<|V 9 235 (RG (s:=102) (d:=235) (x:=.tmp 8) rfl (run_to_unsafe w0 ⟨b,0,none⟩ Tryz.underlying102 Tryz.underlying235 hj (by rw [hjs];decide) hsh (Nat.zero_lt_succ 1)))<|V 10 235 (T4 (x:=.tmp 9) rfl rfl)<|V 11 102 (RG (s:=235) (d:=102) (x:=.tmp 10) rfl (run_from_unsafe w0 ⟨b,0,none⟩ Tryz.underlying235 Tryz.underlying102 hj hsh (by kernel_rfl)))<|Vs 2<|St0 #[.pointer (some ⟨b,0,none⟩),v] h0 (fun w1 h1=>?_)
  refine Yn ?_
  exact ReB [] h1 (Ys _) ⟨rfl,rfl⟩
 ·refine C0 (t:=false) rfl ?_
  refine Sq<|Rg [0,1,2,3,4,5]<|Vs 3<|Ld h0.at0<|Vs 1<|V 19 4 (QH (x:=.tmp 17) (y:=.tmp 18) rfl rfl)<|Yn<|Ab<|C0 (t:=false) rfl<|CWP.skip (by kernel_rfl) ?_
  exact ReB [] h0 (Ys _) ⟨rfl,rfl⟩
theorem BL:Af Tryz.prog 90:=fun _ _=>by kernel_rfl
theorem P6 {wb w0:World} {Fb F0:Mem} {Lf:Own} (b:Nat) (p:YM) (hp:p=none\/p=some ⟨b,0,none⟩) (a:YM) (cap:Nat) (e:Option Nat×Obj) (t s r:YL) (hb:VQ a cap t e) (hap:LK t s=some r)
  (h2:HS wb Fb w0 F0 ((some b,.cells #[.pointer p,.slice a t.length cap] 105 (0,0))::e::Lf)):
  Calls Tryz.prog 90 ([(.pointer (some ⟨b,0,none⟩)),(.string ⟨s.toArray⟩)]:List Value).toArray w0 (FY wb Fb F0 fun _ v L'=>v=.tuple #[.int .i64 (s.length:Int),.nilIface]/\ ∃ a' cap' e',L'=(some b,.cells #[.pointer (some ⟨b,0,none⟩),.slice a' r.length cap'] 105 (0,0))::e'::Lf/\VQ a' cap' r e'):=by
 refine Go 19 Tryz.func90<|Sq<|Rg [0,1]<|Vs 2<|Yn<|Ab<|Sq<|Rg [0,1]<|Vs 1<|CB Q9 (Sh b p hp (.slice a t.length cap) rfl h2) ?_
 rintro _ F1 w1 _ h1 h3 ⟨rfl,rfl⟩
 refine Yn<|Ab<|Sq<|Rg [0,1,2,3,4,5,6,7,8,9]<|Vs 4<|Ld h1.at0<|Vs 1 ?_
 obtain ⟨a',cap',e',w2,hrun,h0,h4⟩:=OJ (ty:=103) h1 (k:=1) rfl hb hap
 refine Yo (dst:=some 14) (ty:=103) (g:=none) (v:=.slice a' r.length cap') (by kernel_rfl) rfl (by
  have e:∀ ρ:Operand->Value,An ρ (.call {callee:=.builtin .append,args:=#[.tmp 12,.tmp 13],argTypes:=#[103,9]}) 103=(do pure (Next.value (<-Builtin.append_ #[103,9] 103 (#[.tmp 12,.tmp 13].map ρ)))):=fun _=>rfl
  rw [e]
  simp only [List.map_toArray,List.map_cons,List.map_nil]
  rw [Sem.run_bind]
  refine Eq.trans (congrArg (fun x=>Result.andThen x _) (show _=_ from hrun)) rfl) ?_
 have h0:HS wb Fb w2 F1 ((some b,.cells #[.pointer (some ⟨b,0,none⟩),.slice a t.length cap] 105 (0,0))::e'::Lf):=h0
 refine Vs 2<|St0 #[.pointer (some ⟨b,0,none⟩),.slice a' r.length cap'] h0 (fun w3 h5=>?_)
 refine Yn<|Ab<|Sq<|Rg [0,1,2,3]<|Vs 4<|Yn<|Ab<|Rt ?_
 exact ReB [.int .i64 (s.length:Int),.nilIface] h5 h3 ⟨rfl,a',cap',e',rfl,h4⟩
def GX (b:Nat) (t:YL) (_:Mem) (Lf:Own):Prop:=∃ p a n e,(p=none\/p=some ⟨b,0,none⟩)/\Lf=[e,(some b,.cells #[.pointer p,.slice a t.length n] 105 (0,0))]/\VQ a n t e
theorem GX.mono {b:Nat}:Qy (GX b):=fun _ _ _ _ h _=>h
section
variable {w w0 : World} {F0 F : Mem} {L : Own} {b : Nat}
theorem GX.new (hs:HS w0 F0 w F ((some b,.cells #[.pointer none,.slice none 0 0] 105 (0,0))::L)):∃ Lf,HS w0 F0 w F (L++Lf)/\GX b [] F Lf:=
 ⟨_,HS.swap (A:=[(none,.cells #[] 0 (0,0)),_]) (hs.dummy (.cells #[] 0 (0,0))),none,none,0,_,.inl rfl,rfl,.inl ⟨rfl,rfl,rfl,rfl⟩⟩
theorem EL {Lf:Own} {t s r:YL} (hap:LK t s=some r) (hJ:GX b t F Lf) (hs:HS w0 F0 w F (L++Lf)):
  Calls Tryz.prog 90 ([(.pointer (some ⟨b,0,none⟩)),(.string ⟨s.toArray⟩)]:List Value).toArray w (FY w0 F0 F fun F' v L'=>v=.tuple #[.int .i64 (s.length:Int),.nilIface]/\ ∃ Lf',L'=L++Lf'/\GX b r F' Lf'):=by
 obtain ⟨p,a,n,e,hp,rfl,hb⟩:=hJ
 have h1:HS w0 F0 w F (e::(some b,.cells #[.pointer p,.slice a t.length n] 105 (0,0))::L):=HS.swap hs
 refine (P6 b p hp a n e t s r hb hap h1.pk1).mono ?_
 rintro _ w' ⟨F',v,_,rfl,h2,h3,rfl,a',n',e',rfl,hb'⟩
 exact ⟨F',_,L++[e',_],rfl,HS.swap (A:=[e',_]) h2.pk1,h3,rfl,_,rfl,_,a',n',e',.inr rfl,rfl,hb'⟩
theorem Pj:Af Tryz.prog 91:=fun _ _=>by kernel_rfl
theorem Qx {Lf:Own} {t:YL} (hJ:GX b t F Lf) (hs:HS w0 F0 w F (L++Lf)):Calls Tryz.prog 91 ([(.pointer (some ⟨b,0,none⟩))]:List Value).toArray w (FY w0 F0 F0 fun F' v L'=>v=.string ⟨t.toArray⟩/\L'=[]/\F'=F0):=by
 obtain ⟨p,a,n,e,hp,rfl,hb⟩:=hJ
 have h1:HS w0 F0 w F (e::(some b,.cells #[.pointer p,.slice a t.length n] 105 (0,0))::L):=HS.swap hs
 have hB:w0.heap.size<=b:=(h1.own b _ (.tail _ (.head _))).2.2
 have hbk:=h1.at1
 have hbuf:IsBuilder 105 5 w0.heap.size b (byteCells t) w:=by
  have:BuilderAt 105 5 w0.heap.size b (.pointer p) (byteCells t) w:=by
   refine ⟨hB,.slice a t.length n,hbk,?_,?_⟩
   ·rcases hb with ⟨rfl,rfl,rfl,_⟩ | ⟨g,cur,rfl,rfl,hne,hlc,hcm,hcs,htk⟩
    ·exact ⟨rfl,.inl ⟨rfl,rfl⟩⟩
    ·exact ⟨by simp [FG],.inr ⟨g,n,cur,by rw [FG],(h1.own g _ (.head _)).2.2,h1.at0,by rw [FG];exact hlc,hcm,by simpa using hcs,by rw [FG,Nat.mul_one];exact htk⟩⟩
   ·rcases hb with ⟨rfl,rfl,rfl,_⟩ | ⟨g,cur,rfl,rfl,hne,hlc,hcm,hcs,htk⟩
    ·simp [Value.ownBlock]
    ·have:=h1.nd
     simp only [Value.ownBlock]
     intro e
     simp at e
     subst e
     simp at this
  rcases hp with rfl | rfl
  ·exact .inl this
  ·exact .inr this
 refine (Tryz.Builder_String_any w0.heap.size b t w hbuf h1.size).mono ?_
 rintro _ w' ⟨rfl,hbel⟩
 refine ⟨F0,_,[],rfl,?_,Ys _,rfl,rfl,rfl⟩
 exact ⟨h1.base,h1.fix.trans ⟨hbel.os,hbel.output,hbel.tape⟩,Nat.le_trans h1.size hbel.size,fun c hc=>(hbel.block c hc).trans (h1.keep c hc),fun _ _=>rfl,fun c o hc=>(hbel.block c (Bm (h1.base c o hc))).trans ((h1.keep c (Bm (h1.base c o hc))).trans (h1.base c o hc)),fun _ _ h=>(by cases h),List.nodup_nil⟩
end
end
theorem Ie {P:Program} {w:World} {ρ:Operand->Value} {ty t E:TypeId} {len s:Nat} {x y:Operand} {k:IntKind} {i:Int} {cs C:List Value} (hx:ρ x=.agg cs.toArray) (hy:ρ y=.int k i) (hu:P.underlying t=some (.array len E)) (ht:FJ P E=some (true,s)) (hi:0<=i/\i < (len:Int)) (hc:Au cs.toArray (i.toNat * s) s=C) (hl:C.length=s):
  (An ρ (.index t x y) ty).run P w=.ok (.value (.agg C.toArray)) w:=by
 have hp:=Ib (P:=P) (t:=E) (C:=cs.toArray) (o:=i.toNat * s) ht (by rw [hc];exact hl) (.inl rfl) w
 rw [hc] at hp
 simp only [An,execOp,hx,hy,Instr.index,asIntOf,Sem.run_bind,Sem.run_pure,Result.andThen_ok,run_underlying hu,Dj ht]
 rw [if_pos hi]
 simp only [Sem.run_bind,Dj ht,Result.andThen_ok]
 rw [hp]
 rfl
theorem Ic {P:Program} {w:World} {ρ:Operand->Value} {ty t E:TypeId} {len s:Nat} {x y:Operand} {k:IntKind} {i n:Int} {cs C:List Value} (hx:ρ x=.agg cs.toArray) (hy:ρ y=.int k i) (hu:P.underlying t=some (.array len E)) (ht:FJ P E=some (true,s)) (hd:decide (i=n)=true) (hi:0<=n/\n < (len:Int)) (hc:Au cs.toArray (n.toNat * s) s=C) (hl:C.length=s):
  (An ρ (.index t x y) ty).run P w=.ok (.value (.agg C.toArray)) w:=by
 have e:=of_decide_eq_true hd
 subst e
 exact Ie hx hy hu ht hi hc hl
theorem LR {P:Program} {w:World} {ρ:Operand->Value} {ty t E:TypeId} {len s b o0 o1:Nat} {g:Bool} {x y:Operand} {k:IntKind} {i n:Int} (hx:ρ x=.pointer (some ⟨b,o0,none⟩)) (hy:ρ y=.int k i) (hu:P.underlying t=some (.array len E)) (ht:FJ P E=some (g,s)) (hd:decide (i=n)=true) (hi:0<=n/\n < (len:Int)) (ho:o0 + n.toNat * s=o1):
  (An ρ (.indexAddr t x y) ty).run P w=.ok (.value (.pointer (some ⟨b,o1,none⟩))) w:=by
 have e:=of_decide_eq_true hd
 subst e
 subst ho
 have hdo:An ρ (.indexAddr t x y) ty=(do pure (Next.value (<-Instr.indexAt t (ρ x) (ρ y)))):=rfl
 rw [hdo,hx,hy]
 have e2:(Instr.sureAddr (.pointer (some ⟨b,o0,none⟩))).run P w=.ok ⟨b,o0,none⟩ w:=rfl
 simp only [Instr.indexAt,asIntOf,Sem.run_bind,Sem.run_pure,Result.andThen_ok,run_underlying hu,e2,hi,and_self,if_true,Dj ht,Addr.add]
 first | rfl | (split <;> simp_all)
section
variable {P : Program} {n : Nat} {Q : Exit -> Fr -> World -> Prop} {f : Fr} {w w0 : World} {F0 F : Mem} {L : Own}
theorem CWP.rangeRet {X α σ:Type} {enc:X->List Value} {ok:Mem->X->Prop} {px:X->α} {m:∀ {σ:Type},(σ->α->Option (Bool×σ))->σ->Option σ} {c:Code} (hk:Wy c=1) {gf:FuncId} {cap:List Value} {B:Own}
  (hg:fev f (V5 c)=.func (.func gf) #[] cap.toArray) (hgf:Af P gf) (hd:f.d=[]) {ps:List Nat} (h5:rps c=ps) (hps:ps.all (· < n)=true) (hlen:∀ x,(enc x).length=ps.length) (hs:HS w0 F0 w F (B++L)) (hseq:TY P gf cap F B enc ok px m)
  (lp:σ->α->Option (σ×Bool)) (J:σ->Mem->Own->Prop) (hJm:Qy J) {s:σ} {r:σ×Bool} (hJ:J s F L) (hm:m (Rk lp) (s,true)=some r)
  (hround:∀ (l:Nat) (s:σ) (x:X) (w':World) (F':Mem) (Lf Rf:Own) (t:σ×Bool),Yr F F'->ok F' x->J s F' Lf->HS w0 F0 w' F' (Lf++Rf)->lp s (px x)=some t->
   CWP P (some l) n (V7 c) (fun e f1 w1=>e=.normal/\ ∃ F1 Lu,HS w0 F0 w1 F1 (Lu++Rf)/\ ∀ w2 Rg,HS w0 F0 w2 F1 (Lu++Rg)->CWP P (some l) n (Tt c) (fun e f2 w3=>((e=.normal/\t.2=true)\/(e=.ret/\t.2=false))/\ ∃ F2 h4,HS w0 F0 w3 F2 (h4++Rg)/\Yr F' F2/\J t.1 F2 h4) f1 w2) (setps f ps (enc x)) w')
  (hdone:r.2=true->∀ (D:Nat) (w':World) (F':Mem) (Lf:Own),HS w0 F0 w' F' ((some D,.deferred (some []))::Lf)->Yr F F'->J r.1 F' Lf->Q .normal ⟨f.v,[{target:=.collected D,args:=#[]}]⟩ w')
  (hstop:r.2=false->∀ (D:Nat) (w':World) (F':Mem) (Lf:Own),HS w0 F0 w' F' ((some D,.deferred (some []))::Lf)->Yr F F'->J r.1 F' Lf->Q .ret ⟨f.v,[{target:=.collected D,args:=#[]}]⟩ w'):CWP P none n c Q f w:=by
 refine CWP.rangeFunc2 hk hg hgf hd h5 hps hlen hs hseq (Rk lp) (fun s=>s.2) (fun s F L=>J s.1 F L) (fun s F F' L h hl=>hJm s.1 F F' L h hl) (s:=(s,true)) (r:=r) hJ rfl hm (fun s x q h=>⟨(Nu h).1,(Nu h).2.1⟩) ?_ (fun D w' F' Lf h0 h1 h2 h3=>hdone h0 D w' F' Lf h1 h2 h3) (fun D w' F' Lf h0 h1 h2 h3=>hstop h0 D w' F' Lf h1 h2 h3)
 intro l s x w' F' Lf Rf q hle hok hJ hs hyq
 obtain ⟨h1,h2,h3⟩:=Nu hyq
 refine (hround l s.1 x w' F' Lf Rf q.2 hle hok hJ hs h3).mono ?_
 rintro e f1 w1 ⟨rfl,F1,Lu,h6,h⟩
 refine ⟨rfl,F1,Lu,h6,fun w2 Rg h7=>(h w2 Rg h7).mono ?_⟩
 rintro e f2 w3 ⟨he,h⟩
 rw [h2]
 exact ⟨he,h⟩
end
def osk {α τ:Type} (q:Option α) (f:τ) (g:α->τ):τ:=match q with
 | none=>f
 | some a=>g a
theorem WN {α τ:Type} {f:τ} {g:α->τ} {r:τ} (h:osk none f g=r):f=r:=h
theorem WM {α τ:Type} {x:α} {f:τ} {g:α->τ} {r:τ} (h:osk (some x) f g=r):g x=r:=h
structure Am where
 o_:Ac
 l_:Log
 done_:Int
 ended_:Bool
abbrev rdv (b1 b2 b3 b4:Nat):Value:=.func (.func 190) #[] #[.pointer (some ⟨b1,0,none⟩),.pointer (some ⟨b2,0,none⟩),.pointer (some ⟨b3,0,none⟩),.pointer (some ⟨b4,0,none⟩)]
abbrev wrv (b1 b4:Nat):Value:=.func (.func 191) #[] #[.pointer (some ⟨b1,0,none⟩),.pointer (some ⟨b4,0,none⟩)]
abbrev fcv (k:FuncId):Value:=.func (.func k) #[] #[]
theorem GH:Af Tryz.prog 155:=fun _ _=>by kernel_rfl
set_option maxRecDepth 100000 in
theorem Hl (w0:World) (F0:Mem) (hF:YN w0 F0) (s:YL) (lo hi:Int) (k:FuncId):Calls Tryz.prog 155 ([(.string ⟨s.toArray⟩),(.int .i64 lo),(.int .i64 hi),fcv k]:List Value).toArray w0 (AC w0 F0 fun F' v=>∃ b1 b2 b3 b4,v=.agg #[rdv b1 b2 b3 b4,wrv b1 b4]/\
  F' b1=some (.cells #[.string ⟨s.toArray⟩] 9 (0,0))/\F' b2=some (.cells #[.int .i64 lo] 3 (0,0))/\F' b3=some (.cells #[.int .i64 hi] 3 (0,0))/\F' b4=some (.cells #[fcv k] 195 (0,0))):=by
 have h3:=Yt hF
 refine Go 12 Tryz.func155<|Sq<|Rg [0,1,2,3,4]<|Bx' 9 #[(.string ⟨s.toArray⟩)] h3 (fun b1 w1 h4=>?_)
 refine Bx' 3 #[(.int .i64 lo)] h4 (fun b2 w2 h5=>?_)
 refine Bx' 3 #[(.int .i64 hi)] h5 (fun b3 w3 h6=>?_)
 refine Bx' 195 #[fcv k] h6 (fun b4 w4 h7=>?_)
 refine Al' 109 #[.nilFunc,.nilFunc] h7 (fun b5 w5 h8=>?_)
 refine Yn<|Ab<|Sq<|Rg [0,1,2,3]<|Vs 3<|St0 #[rdv b1 b2 b3 b4,wrv b1 b4] h8 (fun w6 h9=>?_)
 refine Yn<|Ab<|Rt ?_
 obtain ⟨F1,ha,he,f4⟩:=h9.fc1
 obtain ⟨F2,hb,hc,f3⟩:=ha.fc1
 obtain ⟨F3,hd,h1,f2⟩:=hb.fc1
 obtain ⟨F4,h2,h0,f1⟩:=hd.fc1
 exact ⟨rfl,(.agg #[rdv b1 b2 b3 b4,wrv b1 b4]),AJ (l:=[.cell 8 109]) (by kernel_rfl) (vs:=[(.agg #[rdv b1 b2 b3 b4,wrv b1 b4])]) ⟨b5,0,rfl,Ai (t:=109) (g:=true) (s:=2) (by kernel_rfl) h2.at0 rfl (by decide),trivial⟩,(.agg #[rdv b1 b2 b3 b4,wrv b1 b4]),F4,rfl,h2.clear,b1,b2,b3,b4,rfl,f1,h0 _ _ f2,h0 _ _ (h1 _ _ f3),h0 _ _ (h1 _ _ (hc _ _ f4))⟩
theorem Gh:Af Tryz.prog 89:=fun _ _=>by kernel_rfl
set_option maxRecDepth 100000 in
theorem GV (w0:World) (F0:Mem) (hF:YN w0 F0):Calls Tryz.prog 89 ([]:List Value).toArray w0 (AC w0 F0 fun F' v=>∃ (b1 b2 b3 b4 b5 b6 b7 b8 b9 h1 h2 h0:Nat),v=.agg #[fcv 153,fcv 154,rdv b1 b2 b3 b4,wrv b1 b4,rdv b5 b6 b7 b8,wrv b5 b8,rdv b9 h1 h2 h0,wrv b9 h0,fcv 159,fcv 160]/\F' b1=some (.cells #[(.string ⟨([67,65,84,69,71,79,82,89]:YL).toArray⟩)] 9 (0,0))/\F' b2=some (.cells #[.int .i64 1] 3 (0,0))/\F' b3=some (.cells #[.int .i64 9] 3 (0,0))/\F' b4=some (.cells #[fcv 156] 195 (0,0))/\F' b5=some (.cells #[(.string ⟨([80,79,87,69,82]:YL).toArray⟩)] 9 (0,0))/\F' b6=some (.cells #[.int .i64 1] 3 (0,0))/\F' b7=some (.cells #[.int .i64 9999] 3 (0,0))/\F' b8=some (.cells #[fcv 157] 195 (0,0))/\F' b9=some (.cells #[(.string ⟨([67,76,65,73,77,69,68]:YL).toArray⟩)] 9 (0,0))/\F' h1=some (.cells #[.int .i64 0] 3 (0,0))/\F' h2=some (.cells #[.int .i64 1000000] 3 (0,0))/\F' h0=some (.cells #[fcv 158] 195 (0,0))):=by
 have h9:=Yt hF
 refine Go 7 Tryz.func89<|Sq<|Rg [0]<|Al' 110 #[.nilFunc,.nilFunc,.nilFunc,.nilFunc,.nilFunc,.nilFunc,.nilFunc,.nilFunc,.nilFunc,.nilFunc] h9 (fun b0 w1 h5=>?_)
 refine Yn<|Ab<|Sq<|Rg [0,1,2,3,4,5,6]<|Vs 1<|Cl' GH h5 (Hl w1 F0 h5.pers [67,65,84,69,71,79,82,89] 1 9 156) ?_
 rintro _ F1 w2 h6 he ⟨b1,b2,b3,b4,rfl,f1,f2,f3,f4⟩
 refine Cl' GH h6 (Hl w2 F1 h6.pers [80,79,87,69,82] 1 9999 157) ?_
 rintro _ F2 w3 h7 h4 ⟨b5,b6,b7,b8,rfl,f5,f6,f7,f8⟩
 refine Cl' GH h7 (Hl w3 F2 h7.pers [67,76,65,73,77,69,68] 0 1000000 158) ?_
 rintro _ F3 w4 ha h3 ⟨b9,h1,h2,h0,rfl,f9,hb,hc,hd⟩
 refine Vs 1<|V 6 110 (Lh (t:=110) (parts:=#[(0,.tmp 1),(1,.tmp 2),(2,.tmp 3),(3,.tmp 4),(4,.tmp 5)]) (vs:=[(0,.agg #[fcv 153,fcv 154]),(1,.agg #[rdv b1 b2 b3 b4,wrv b1 b4]),(2,.agg #[rdv b5 b6 b7 b8,wrv b5 b8]),(3,.agg #[rdv b9 h1 h2 h0,wrv b9 h0]),(4,.agg #[fcv 159,fcv 160])]) rfl (cs:=[fcv 153,fcv 154,rdv b1 b2 b3 b4,wrv b1 b4,rdv b5 b6 b7 b8,wrv b5 b8,rdv b9 h1 h2 h0,wrv b9 h0,fcv 159,fcv 160]) (by kernel_rfl))<|St0 #[fcv 153,fcv 154,rdv b1 b2 b3 b4,wrv b1 b4,rdv b5 b6 b7 b8,wrv b5 b8,rdv b9 h1 h2 h0,wrv b9 h0,fcv 159,fcv 160] ha (fun w5 h8=>?_)
 refine Yn<|Ab<|Rt ?_
 exact ⟨rfl,(.agg #[fcv 153,fcv 154,rdv b1 b2 b3 b4,wrv b1 b4,rdv b5 b6 b7 b8,wrv b5 b8,rdv b9 h1 h2 h0,wrv b9 h0,fcv 159,fcv 160]),AJ (l:=[.cell 0 110]) (by kernel_rfl) (vs:=[(.agg #[fcv 153,fcv 154,rdv b1 b2 b3 b4,wrv b1 b4,rdv b5 b6 b7 b8,wrv b5 b8,rdv b9 h1 h2 h0,wrv b9 h0,fcv 159,fcv 160])]) ⟨b0,0,rfl,Ai (t:=110) (g:=true) (s:=10) (by kernel_rfl) h8.at0 rfl (by decide),trivial⟩,(.agg #[fcv 153,fcv 154,rdv b1 b2 b3 b4,wrv b1 b4,rdv b5 b6 b7 b8,wrv b5 b8,rdv b9 h1 h2 h0,wrv b9 h0,fcv 159,fcv 160]),F3,rfl,h8.clear,b1,b2,b3,b4,b5,b6,b7,b8,b9,h1,h2,h0,rfl,h3 _ _ (h4 _ _ f1),h3 _ _ (h4 _ _ f2),h3 _ _ (h4 _ _ f3),h3 _ _ (h4 _ _ f4),h3 _ _ f5,h3 _ _ f6,h3 _ _ f7,h3 _ _ f8,f9,hb,hc,hd⟩
def KU (N:Nat) (x0:Ac) (x1:Log) (h5:(Int×Int)) (h6 h7 h8 h9 ha hb hc hd he hf hg hh hk hl hm:YL):(Int×YL)->Option (A9 (YL×Int) (Int×YL)):=fun h0=>
 (bif (decide (h0.1 < (x1.Lines.length:Int))) then ((idx x1.Lines h0.1).bind fun h1=>((Eb N ({Report:=x0.Report,Serial:=x0.Serial,Zone:=x0.Zone}:Ac) h1).bind fun h2=>((Bc h2.1 ([10]:YL)).bind fun h3=>((LK h0.2 h3).bind fun h4=>some (.next ((W64 (h0.1 + 1)),h4)))))) else some (.done (h0.1,h0.2)))
def OW (N:Nat) (x0:Ac) (x1:Log):Option (YL×Int):=
 ((IW N ({Report:=x0.Report,Serial:=x0.Serial,Zone:=x0.Zone}:Ac) x1).bind fun h0=>(bif (h0.1 !=0) then none else ((L2 N x1).bind fun h1=>((Bc h1 ([10]:YL)).bind fun h2=>((LK ([]:YL) h2).bind fun h3=>((Il N x1 ([67,65,84,69,71,79,82,89]:YL)).bind fun h4=>((Bc h4 ([10]:YL)).bind fun h5=>((LK h3 h5).bind fun h6=>((Ij N x1 ([80,79,87,69,82]:YL)).bind fun h7=>((Bc h7 ([10]:YL)).bind fun h8=>((LK h6 h8).bind fun h9=>((Ik N x1 ([67,76,65,73,77,69,68]:YL)).bind fun ha=>((Bc ha ([10]:YL)).bind fun hb=>((LK h9 hb).bind fun hc=>((Je N x1).bind fun hd=>((Bc hd ([10]:YL)).bind fun he=>((LK hc he).bind fun hf=>((AH (KU N x0 x1 h0 h1 h2 h3 h4 h5 h6 h7 h8 h9 ha hb hc hd he hf) N (0,hf)).bind fun o=>o.k (fun r=>some r) (fun hg=>((LK hg.2 ([69,78,68,10]:YL)).bind fun hh=>some (hh,0)))))))))))))))))))))
theorem PO:Af Tryz.prog 29:=fun _ _=>by kernel_rfl
theorem Ri (N:Nat) (w0:World) (F0:Mem) (hF:YN w0 F0) (hG:BI F0) (x0:Ac) (x1:Log) (h9:YM) (ha:Nat) (hw:LC x1.Jumps.length ha) (hx:SlA AP F0 h9 x1.Jumps) (h6:YM) (h7:Nat) (hy:LC x1.Lines.length h7) (hu:SlA AM F0 h6 x1.Lines) (r:(YL×Int)) (h:OW N x0 x1=some r):
  Calls Tryz.prog 29 ([(.agg (Ag x0)),(.agg (AG x1 h9 ha h6 h7))]:List Value).toArray w0 (AC w0 F0 fun F' v=>v=(.tuple #[(sv r.1),(vi r.2)])):=by
 have cb:=Yt hF
 refine Go 54 Tryz.func29<|Sq (Rg (rG 4) ?_)
 refine Bx' 23 (Ag x0) cb (fun hf ie cc=>?_)
 refine Bx' 27 (AG x1 h9 ha h6 h7) cc (fun hn cd b3=>?_)
 refine Vs 2<|Nss<|Sq (Rg (rG 8) ?_)
 refine Ld b3.at1<|Ld b3.at0 ?_
 obtain ⟨ce,cf,cg⟩:=bS h
 refine Cl' H0 b3 (I7 N cd F0 b3.pers hG (({Report:=x0.Report,Serial:=x0.Serial,Zone:=x0.Zone}:Ac)) x1 h9 ha hw hx h6 h7 hy hu _ cf) ?_
 rintro _ F1 ig ch hd rfl
 refine Vs 5<|Nss (Rg [0,1] ?_)
 refine Vs 2<|Nt<|Cd cg (fun ci cj=>?_) (fun ci cl=>?_)
 ·cases cj
 ·refine Sc ?_
  refine Ab<|Sq (Rg [0] ?_)
  refine Al' 105 #[.pointer none,.slice none 0 0] ch (fun b4 bl cm=>?_)
  obtain ⟨cn,co,hJ43⟩:=GX.new cm
  have bm:HS w0 F0 bl F1 ((sb hn (AG x1 h9 ha h6 h7) 27)::(sb hf (Ag x0) 23)::cn):=co
  refine Nss<|Sq (Rg [0,1] ?_)
  refine Cl' Gh bm (GV bl F1 bm.pers) ?_
  rintro _ F2 ii cp hc ⟨h0,hg,hh,h1,h2,hl,hm,h3,h4,ho,hp,h5,rfl,cq,ij,ik,cr,ct,io,ip,cu,cv,iq,ir,cw⟩
  refine Vs 1<|Nt<|Bk<|CWP.unroll (by kernel_rfl) 6<|URL.step<|Sq (Rg [0] ?_)
  refine Vs 1<|Nss<|C1 (rfl:true=true)<|Sc<|Ab<|Sq<|Bk<|Sq (Rg [0,1,2] ?_)
  refine V 27 109 (Ie (t:=110) (E:=109) (len:=5) (s:=2) (x:=(.tmp 24)) (y:=(.tmp 25)) (k:=.i64) (i:=0) (cs:=[(fV 153 #[]),(fV 154 #[]),(fV 190 #[(pt h0 0),(pt hg 0),(pt hh 0),(pt h1 0)]),(fV 191 #[(pt h0 0),(pt h1 0)]),(fV 190 #[(pt h2 0),(pt hl 0),(pt hm 0),(pt h3 0)]),(fV 191 #[(pt h2 0),(pt h3 0)]),(fV 190 #[(pt h4 0),(pt ho 0),(pt hp 0),(pt h5 0)]),(fV 191 #[(pt h4 0),(pt h5 0)]),(fV 159 #[]),(fV 160 #[])]) (C:=[(fV 153 #[]),(fV 154 #[])]) rfl rfl (by kernel_rfl) (by kernel_rfl) (by decide) rfl rfl)<|Al' 109 #[.nilFunc,.nilFunc] cp (fun hr it cx=>?_)
  refine St0 #[(fV 153 #[]),(fV 154 #[])] cx (fun cy b5=>?_)
  refine Nt<|Rg (rG 6)<|Vs 1<|Ld b5.at0<|Ld b5.at1 ?_
  obtain ⟨bn,cz,d0⟩:=bS cl
  refine Cl' N4 b5 (Pu N cy F2 b5.pers x1 h9 ha hw (Yu hx (hd.t hc)) h6 h7 hy (Yu hu (hd.t hc)) _ cz) ?_
  rintro _ F3 iu d1 h8 rfl
  obtain ⟨bo,d2,d3⟩:=bS d0
  refine V 32 9 (Ay (t:=9) (t':=9) (x:=(.tmp 31)) (y:=(.const (sv ([10]:YL)))) (a:=bn) (b:=([10]:YL)) (v:=bo) rfl rfl d2) ?_
  obtain ⟨d4,d6,d7⟩:=bS d3
  refine CB BL (EL (L:=[(sb hr #[(fV 153 #[]),(fV 154 #[])] 109),(sb hn (AG x1 h9 ha h6 h7) 27),(sb hf (Ag x0) 23)]) d6 (GX.mono _ _ _ _ hJ43 (hc.t h8)) d1) ?_
  rintro _ F4 d8 _ d9 hb ⟨rfl,da,rfl,hJ72⟩
  have db:HS w0 F0 d8 F4 ((sb hr #[(fV 153 #[]),(fV 154 #[])] 109)::(sb hn (AG x1 h9 ha h6 h7) 27)::(sb hf (Ag x0) 23)::da):=d9
  refine Yn<|Ao<|Ab<|Rg [0,1]<|Vs 2<|Nt<|URL.step<|Sq (Rg [0] ?_)
  refine Vs 1<|Nss<|C1 (rfl:true=true)<|Sc<|Ab<|Sq<|Bk<|Sq (Rg [0,1,2] ?_)
  refine V 27 109 (Ie (t:=110) (E:=109) (len:=5) (s:=2) (x:=(.tmp 24)) (y:=(.tmp 25)) (k:=.i64) (i:=1) (cs:=[(fV 153 #[]),(fV 154 #[]),(fV 190 #[(pt h0 0),(pt hg 0),(pt hh 0),(pt h1 0)]),(fV 191 #[(pt h0 0),(pt h1 0)]),(fV 190 #[(pt h2 0),(pt hl 0),(pt hm 0),(pt h3 0)]),(fV 191 #[(pt h2 0),(pt h3 0)]),(fV 190 #[(pt h4 0),(pt ho 0),(pt hp 0),(pt h5 0)]),(fV 191 #[(pt h4 0),(pt h5 0)]),(fV 159 #[]),(fV 160 #[])]) (C:=[(fV 190 #[(pt h0 0),(pt hg 0),(pt hh 0),(pt h1 0)]),(fV 191 #[(pt h0 0),(pt h1 0)])]) rfl rfl (by kernel_rfl) (by kernel_rfl) (by decide) rfl rfl)<|Al' 109 #[.nilFunc,.nilFunc] db (fun ht iv dc=>?_)
  refine St0 #[(fV 190 #[(pt h0 0),(pt hg 0),(pt hh 0),(pt h1 0)]),(fV 191 #[(pt h0 0),(pt h1 0)])] dc (fun dd b6=>?_)
  refine Nt<|Rg (rG 6)<|Vs 1<|Ld b6.at0<|Ld b6.at2 ?_
  obtain ⟨bp,de,df⟩:=bS d7
  refine Cl' KE b6 (LE N dd F4 b6.pers (hG.mono (((hd.t hc).trans h8).trans hb)) x1 h9 ha hw (Yu hx (((hd.t hc).trans h8).trans hb)) h6 h7 hy (Yu hu (((hd.t hc).trans h8).trans hb)) h0 ([67,65,84,69,71,79,82,89]:YL) ((h8.t hb) _ _ cq) h1 ((h8.t hb) _ _ cr) _ de) ?_
  rintro _ F5 iw dg he rfl
  obtain ⟨bq,dh,di⟩:=bS df
  refine V 32 9 (Ay (t:=9) (t':=9) (x:=(.tmp 31)) (y:=(.const (sv ([10]:YL)))) (a:=bp) (b:=([10]:YL)) (v:=bq) rfl rfl dh) ?_
  obtain ⟨dj,dk,dl⟩:=bS di
  refine CB BL (EL (L:=[(sb ht #[(fV 190 #[(pt h0 0),(pt hg 0),(pt hh 0),(pt h1 0)]),(fV 191 #[(pt h0 0),(pt h1 0)])] 109),(sb hr #[(fV 153 #[]),(fV 154 #[])] 109),(sb hn (AG x1 h9 ha h6 h7) 27),(sb hf (Ag x0) 23)]) dk (GX.mono _ _ _ _ hJ72 he) dg) ?_
  rintro _ F6 dm _ dn hk ⟨rfl,dp,rfl,hJ97⟩
  have dq:HS w0 F0 dm F6 ((sb ht #[(fV 190 #[(pt h0 0),(pt hg 0),(pt hh 0),(pt h1 0)]),(fV 191 #[(pt h0 0),(pt h1 0)])] 109)::(sb hr #[(fV 153 #[]),(fV 154 #[])] 109)::(sb hn (AG x1 h9 ha h6 h7) 27)::(sb hf (Ag x0) 23)::dp):=dn
  refine Yn<|Ao<|Ab<|Rg [0,1]<|Vs 2<|Nt<|URL.step<|Sq (Rg [0] ?_)
  refine Vs 1<|Nss<|C1 (rfl:true=true)<|Sc<|Ab<|Sq<|Bk<|Sq (Rg [0,1,2] ?_)
  refine V 27 109 (Ie (t:=110) (E:=109) (len:=5) (s:=2) (x:=(.tmp 24)) (y:=(.tmp 25)) (k:=.i64) (i:=2) (cs:=[(fV 153 #[]),(fV 154 #[]),(fV 190 #[(pt h0 0),(pt hg 0),(pt hh 0),(pt h1 0)]),(fV 191 #[(pt h0 0),(pt h1 0)]),(fV 190 #[(pt h2 0),(pt hl 0),(pt hm 0),(pt h3 0)]),(fV 191 #[(pt h2 0),(pt h3 0)]),(fV 190 #[(pt h4 0),(pt ho 0),(pt hp 0),(pt h5 0)]),(fV 191 #[(pt h4 0),(pt h5 0)]),(fV 159 #[]),(fV 160 #[])]) (C:=[(fV 190 #[(pt h2 0),(pt hl 0),(pt hm 0),(pt h3 0)]),(fV 191 #[(pt h2 0),(pt h3 0)])]) rfl rfl (by kernel_rfl) (by kernel_rfl) (by decide) rfl rfl)<|Al' 109 #[.nilFunc,.nilFunc] dq (fun hz iy dr=>?_)
  refine St0 #[(fV 190 #[(pt h2 0),(pt hl 0),(pt hm 0),(pt h3 0)]),(fV 191 #[(pt h2 0),(pt h3 0)])] dr (fun ds b7=>?_)
  refine Nt<|Rg (rG 6)<|Vs 1<|Ld b7.at0<|Ld b7.at3 ?_
  obtain ⟨br,dt,du⟩:=bS dl
  refine Cl' KC b7 (LB N ds F6 b7.pers (hG.mono (((((hd.t hc).trans h8).trans hb).trans he).trans hk)) x1 h9 ha hw (Yu hx (((((hd.t hc).trans h8).trans hb).trans he).trans hk)) h6 h7 hy (Yu hu (((((hd.t hc).trans h8).trans hb).trans he).trans hk)) h2 ([80,79,87,69,82]:YL) ((((h8.t hb).trans he).trans hk) _ _ ct) h3 ((((h8.t hb).trans he).trans hk) _ _ cu) _ dt) ?_
  rintro _ F7 iz dv hq rfl
  obtain ⟨bs,dw,dx⟩:=bS du
  refine V 32 9 (Ay (t:=9) (t':=9) (x:=(.tmp 31)) (y:=(.const (sv ([10]:YL)))) (a:=br) (b:=([10]:YL)) (v:=bs) rfl rfl dw) ?_
  obtain ⟨dy,dz,e0⟩:=bS dx
  refine CB BL (EL (L:=[(sb hz #[(fV 190 #[(pt h2 0),(pt hl 0),(pt hm 0),(pt h3 0)]),(fV 191 #[(pt h2 0),(pt h3 0)])] 109),(sb ht #[(fV 190 #[(pt h0 0),(pt hg 0),(pt hh 0),(pt h1 0)]),(fV 191 #[(pt h0 0),(pt h1 0)])] 109),(sb hr #[(fV 153 #[]),(fV 154 #[])] 109),(sb hn (AG x1 h9 ha h6 h7) 27),(sb hf (Ag x0) 23)]) dz (GX.mono _ _ _ _ hJ97 hq) dv) ?_
  rintro _ F8 e1 _ e2 hs ⟨rfl,e3,rfl,hJ122⟩
  have e4:HS w0 F0 e1 F8 ((sb hz #[(fV 190 #[(pt h2 0),(pt hl 0),(pt hm 0),(pt h3 0)]),(fV 191 #[(pt h2 0),(pt h3 0)])] 109)::(sb ht #[(fV 190 #[(pt h0 0),(pt hg 0),(pt hh 0),(pt h1 0)]),(fV 191 #[(pt h0 0),(pt h1 0)])] 109)::(sb hr #[(fV 153 #[]),(fV 154 #[])] 109)::(sb hn (AG x1 h9 ha h6 h7) 27)::(sb hf (Ag x0) 23)::e3):=e2
  refine Yn<|Ao<|Ab<|Rg [0,1]<|Vs 2<|Nt<|URL.step<|Sq (Rg [0] ?_)
  refine Vs 1<|Nss<|C1 (rfl:true=true)<|Sc<|Ab<|Sq<|Bk<|Sq (Rg [0,1,2] ?_)
  refine V 27 109 (Ie (t:=110) (E:=109) (len:=5) (s:=2) (x:=(.tmp 24)) (y:=(.tmp 25)) (k:=.i64) (i:=3) (cs:=[(fV 153 #[]),(fV 154 #[]),(fV 190 #[(pt h0 0),(pt hg 0),(pt hh 0),(pt h1 0)]),(fV 191 #[(pt h0 0),(pt h1 0)]),(fV 190 #[(pt h2 0),(pt hl 0),(pt hm 0),(pt h3 0)]),(fV 191 #[(pt h2 0),(pt h3 0)]),(fV 190 #[(pt h4 0),(pt ho 0),(pt hp 0),(pt h5 0)]),(fV 191 #[(pt h4 0),(pt h5 0)]),(fV 159 #[]),(fV 160 #[])]) (C:=[(fV 190 #[(pt h4 0),(pt ho 0),(pt hp 0),(pt h5 0)]),(fV 191 #[(pt h4 0),(pt h5 0)])]) rfl rfl (by kernel_rfl) (by kernel_rfl) (by decide) rfl rfl)<|Al' 109 #[.nilFunc,.nilFunc] e4 (fun b8 j0 e6=>?_)
  refine St0 #[(fV 190 #[(pt h4 0),(pt ho 0),(pt hp 0),(pt h5 0)]),(fV 191 #[(pt h4 0),(pt h5 0)])] e6 (fun e7 b9=>?_)
  refine Nt<|Rg (rG 6)<|Vs 1<|Ld b9.at0<|Ld b9.at4 ?_
  obtain ⟨bt,e8,e9⟩:=bS e0
  refine Cl' KD b9 (LD N e7 F8 b9.pers (hG.mono (((((((hd.t hc).trans h8).trans hb).trans he).trans hk).trans hq).trans hs)) x1 h9 ha hw (Yu hx (((((((hd.t hc).trans h8).trans hb).trans he).trans hk).trans hq).trans hs)) h6 h7 hy (Yu hu (((((((hd.t hc).trans h8).trans hb).trans he).trans hk).trans hq).trans hs)) h4 ([67,76,65,73,77,69,68]:YL) ((((((h8.t hb).trans he).trans hk).trans hq).trans hs) _ _ cv) h5 ((((((h8.t hb).trans he).trans hk).trans hq).trans hs) _ _ cw) _ e8) ?_
  rintro _ F9 j1 ea b0 rfl
  obtain ⟨bu,eb,ec⟩:=bS e9
  refine V 32 9 (Ay (t:=9) (t':=9) (x:=(.tmp 31)) (y:=(.const (sv ([10]:YL)))) (a:=bt) (b:=([10]:YL)) (v:=bu) rfl rfl eb) ?_
  obtain ⟨ed,ee,ef⟩:=bS ec
  refine CB BL (EL (L:=[(sb b8 #[(fV 190 #[(pt h4 0),(pt ho 0),(pt hp 0),(pt h5 0)]),(fV 191 #[(pt h4 0),(pt h5 0)])] 109),(sb hz #[(fV 190 #[(pt h2 0),(pt hl 0),(pt hm 0),(pt h3 0)]),(fV 191 #[(pt h2 0),(pt h3 0)])] 109),(sb ht #[(fV 190 #[(pt h0 0),(pt hg 0),(pt hh 0),(pt h1 0)]),(fV 191 #[(pt h0 0),(pt h1 0)])] 109),(sb hr #[(fV 153 #[]),(fV 154 #[])] 109),(sb hn (AG x1 h9 ha h6 h7) 27),(sb hf (Ag x0) 23)]) ee (GX.mono _ _ _ _ hJ122 b0) ea) ?_
  rintro _ bv eg _ eh b2 ⟨rfl,ei,rfl,hJ147⟩
  have ej:HS w0 F0 eg bv ((sb b8 #[(fV 190 #[(pt h4 0),(pt ho 0),(pt hp 0),(pt h5 0)]),(fV 191 #[(pt h4 0),(pt h5 0)])] 109)::(sb hz #[(fV 190 #[(pt h2 0),(pt hl 0),(pt hm 0),(pt h3 0)]),(fV 191 #[(pt h2 0),(pt h3 0)])] 109)::(sb ht #[(fV 190 #[(pt h0 0),(pt hg 0),(pt hh 0),(pt h1 0)]),(fV 191 #[(pt h0 0),(pt h1 0)])] 109)::(sb hr #[(fV 153 #[]),(fV 154 #[])] 109)::(sb hn (AG x1 h9 ha h6 h7) 27)::(sb hf (Ag x0) 23)::ei):=eh
  refine Yn<|Ao<|Ab<|Rg [0,1]<|Vs 2<|Nt<|URL.step<|Sq (Rg [0] ?_)
  refine Vs 1<|Nss<|C1 (rfl:true=true)<|Sc<|Ab<|Sq<|Bk<|Sq (Rg [0,1,2] ?_)
  refine V 27 109 (Ie (t:=110) (E:=109) (len:=5) (s:=2) (x:=(.tmp 24)) (y:=(.tmp 25)) (k:=.i64) (i:=4) (cs:=[(fV 153 #[]),(fV 154 #[]),(fV 190 #[(pt h0 0),(pt hg 0),(pt hh 0),(pt h1 0)]),(fV 191 #[(pt h0 0),(pt h1 0)]),(fV 190 #[(pt h2 0),(pt hl 0),(pt hm 0),(pt h3 0)]),(fV 191 #[(pt h2 0),(pt h3 0)]),(fV 190 #[(pt h4 0),(pt ho 0),(pt hp 0),(pt h5 0)]),(fV 191 #[(pt h4 0),(pt h5 0)]),(fV 159 #[]),(fV 160 #[])]) (C:=[(fV 159 #[]),(fV 160 #[])]) rfl rfl (by kernel_rfl) (by kernel_rfl) (by decide) rfl rfl)<|Al' 109 #[.nilFunc,.nilFunc] ej (fun bw j2 ek=>?_)
  refine St0 #[(fV 159 #[]),(fV 160 #[])] ek (fun el ba=>?_)
  refine Nt<|Rg (rG 6)<|Vs 1<|Ld ba.at0<|Ld ba.at5 ?_
  obtain ⟨bx,en,eo⟩:=bS ef
  refine Cl' Lw ba (Mt N el bv ba.pers (hG.mono (((((((((hd.t hc).trans h8).trans hb).trans he).trans hk).trans hq).trans hs).trans b0).trans b2)) x1 h9 ha hw (Yu hx (((((((((hd.t hc).trans h8).trans hb).trans he).trans hk).trans hq).trans hs).trans b0).trans b2)) h6 h7 hy (Yu hu (((((((((hd.t hc).trans h8).trans hb).trans he).trans hk).trans hq).trans hs).trans b0).trans b2)) _ en) ?_
  rintro _ j3 j4 ep bh rfl
  obtain ⟨bz,er,et⟩:=bS eo
  refine V 32 9 (Ay (t:=9) (t':=9) (x:=(.tmp 31)) (y:=(.const (sv ([10]:YL)))) (a:=bx) (b:=([10]:YL)) (v:=bz) rfl rfl er) ?_
  obtain ⟨c0,eu,ev⟩:=bS et
  refine CB BL (EL (L:=[(sb bw #[(fV 159 #[]),(fV 160 #[])] 109),(sb b8 #[(fV 190 #[(pt h4 0),(pt ho 0),(pt hp 0),(pt h5 0)]),(fV 191 #[(pt h4 0),(pt h5 0)])] 109),(sb hz #[(fV 190 #[(pt h2 0),(pt hl 0),(pt hm 0),(pt h3 0)]),(fV 191 #[(pt h2 0),(pt h3 0)])] 109),(sb ht #[(fV 190 #[(pt h0 0),(pt hg 0),(pt hh 0),(pt h1 0)]),(fV 191 #[(pt h0 0),(pt h1 0)])] 109),(sb hr #[(fV 153 #[]),(fV 154 #[])] 109),(sb hn (AG x1 h9 ha h6 h7) 27),(sb hf (Ag x0) 23)]) eu (GX.mono _ _ _ _ hJ147 bh) ep) ?_
  rintro _ bb ew _ ex c1 ⟨rfl,c3,rfl,hJ172⟩
  have c4:HS w0 F0 ew bb ((sb bw #[(fV 159 #[]),(fV 160 #[])] 109)::(sb b8 #[(fV 190 #[(pt h4 0),(pt ho 0),(pt hp 0),(pt h5 0)]),(fV 191 #[(pt h4 0),(pt h5 0)])] 109)::(sb hz #[(fV 190 #[(pt h2 0),(pt hl 0),(pt hm 0),(pt h3 0)]),(fV 191 #[(pt h2 0),(pt h3 0)])] 109)::(sb ht #[(fV 190 #[(pt h0 0),(pt hg 0),(pt hh 0),(pt h1 0)]),(fV 191 #[(pt h0 0),(pt h1 0)])] 109)::(sb hr #[(fV 153 #[]),(fV 154 #[])] 109)::(sb hn (AG x1 h9 ha h6 h7) 27)::(sb hf (Ag x0) 23)::c3):=ex
  refine Yn<|Ao<|Ab<|Rg [0,1]<|Vs 2<|Nt<|URL.step<|Sq (Rg [0] ?_)
  refine Vs 1<|Nss<|C0 (rfl:false=false)<|Ex<|Al<|Al<|Av rfl<|Ab<|Sq<|Sq (Rg (rG 4) ?_)
  refine Vs 1<|Ld c4.at5<|Vs 2<|Nt ?_
  have ey:=c4.dr0.dr0.dr0.dr0.dr0
  obtain ⟨c5,ez,g0⟩:=bS ev
  refine Yy (fun f w=>∃ (bi:(Int×YL)) (bc:Mem) (bj:Own),c5=.done bi/\HS w0 F0 w bc bj/\Yr bb bc/\FI f [] [(8,(pt b4 0))]/\GX b4 bi.2 bc bj) ?_ ?_
  ·refine Bk ?_
   refine Yq (by kernel_rfl) (fun m f w=>∃ (hv:(Int×YL)) (b1:Mem) (bd:Own),AH (KU N x0 x1 ce bn bo d4 bp bq dj br bs dy bt bu ed bx bz c0) m hv=some c5/\HS w0 F0 w b1 ((sb hf (Ag x0) 23)::bd)/\Yr bb b1/\FI f [] [(2,(pt hf 0)),(8,(pt b4 0)),(36,(sL h6 x1.Lines h7)),(37,(vi (x1.Lines.length:Int))),(38,(vi hv.1))]/\GX b4 hv.2 b1 bd) N ⟨(0,c0),bb,c3,ez,ey.dr0,(Ys _),fI,hJ172⟩ ?_
   rintro j5 f j6 ⟨hv,b1,bd,g1,bk,be,⟨_,rfl⟩,hJ183⟩
   obtain ⟨g2,j7,rfl,g3,c6⟩:=AD g1
   refine Sq (Rg [0] ?_)
   refine Vs 1<|Nss<|Cd g3 (fun g4 g5=>?_) (fun g4 g6=>?_)
   ·refine Sc ?_
    refine Ab<|Sq<|Bk<|Sq (Rg (rG 4) ?_)
    obtain ⟨bf,g7,g8⟩:=bS g5
    obtain ⟨g9,hx208'⟩:=Ah g7
    obtain ⟨j8,j9,ja,jb,jc,rfl,hF217,hE218⟩:=Yz (Yu hu ((((((((((((hd.t hc).trans h8).trans hb).trans he).trans hk).trans hq).trans hs).trans b0).trans b2).trans bh).trans c1).trans be)) hx208'
    have ga:=hE218 _ _ hx208'
    refine Ix g9<|Lx 0 (bk.pers _ _ hF217) ga<|Al' 34 #[(vi 0),(vi 0),(vi 0),(vi 0),(sv (([]:YL))),(vi 0),(vi 0),(vi 0),(vi 0),(vi 0),(vi 0)] bk (fun c7 jd gh=>?_)
    refine St0 (BX bf) gh (fun gi bg=>?_)
    refine Nss (Rg (rG 8) ?_)
    refine Ld bg.at1<|Ld bg.at0 ?_
    obtain ⟨gk,gl,gm⟩:=bS g8
    refine Cl' HK bg (IE N gi b1 bg.pers (hG.mono ((((((((((((hd.t hc).trans h8).trans hb).trans he).trans hk).trans hq).trans hs).trans b0).trans b2).trans bh).trans c1).trans be)) (({Report:=x0.Report,Serial:=x0.Serial,Zone:=x0.Zone}:Ac)) bf _ gl) ?_
    rintro _ je jf gn c8 rfl
    refine Vs 5<|Nt<|Rg [0,1,2]<|Vs 1 ?_
    obtain ⟨go,gp,gr⟩:=bS gm
    refine V 49 9 (Ay (t:=9) (t':=9) (x:=(.tmp 48)) (y:=(.const (sv ([10]:YL)))) (a:=gk.1) (b:=([10]:YL)) (v:=go) rfl rfl gp) ?_
    obtain ⟨gs,gu,gv⟩:=bS gr
    refine CB BL (EL (L:=[(sb c7 (BX bf) 34),(sb hf (Ag x0) 23)]) gu (GX.mono _ _ _ _ hJ183 c8) gn) ?_
    rintro _ c9 gw _ gx gy ⟨rfl,ca,rfl,hJ244⟩
    have gz:HS w0 F0 gw c9 ((sb c7 (BX bf) 34)::(sb hf (Ag x0) 23)::ca):=gx
    refine Yn<|Ao<|Ab<|Rg [0,1]<|Vs 2<|Yn ?_
    have i0:=AA gv c6
    exact ⟨g2,Nat.lt_succ_self _,((W64 (hv.1 + 1)),gs),c9,ca,i0,gz.dr0,((be.t c8).trans gy),fI,hJ244⟩
   ·refine Ex ?_
    refine Al<|Al<|Av rfl ?_
    have i1:=AB g6 c6
    exact .inl ⟨rfl,(hv.1,hv.2),b1,bd,i1,bk.dr0,be,fI,hJ183⟩
  ·rintro f jg ⟨bi,bc,bj,rfl,i2,jh,⟨_,rfl⟩,hJ195⟩
   have i3:=A4 g0
   refine Ab<|Sq (Rg [0] ?_)
   obtain ⟨i4,i5,i6⟩:=bS i3
   refine CB BL (EL (L:=[]) i5 hJ195 i2) ?_
   rintro _ i7 i8 i9 ia ji ⟨rfl,_,rfl,hJ256⟩
   have ib:HS w0 F0 i8 i7 i9:=ia
   refine Nss (Rg [0,1,2] ?_)
   refine CB Pj (Qx (L:=[]) hJ256 ib) ?_
   rintro _ _ jj _ ic _ ⟨rfl,rfl,rfl⟩
   refine Vs 2<|Nt<|Rt ?_
   obtain rfl:=Aa i6
   exact Re [(sv i4),(vi 0)] ic rfl
def AN (N:Nat) (x0:YL):Option (Int×Bool):=
 ((Cr N x0).bind fun h0=>((bif (!h0.2) then ((strconv_Itoa N h0.1).bind fun h1=>some (h1==x0)) else some false).bind fun h2=>some (h0.1,h2)))
theorem BA:Af Tryz.prog 95:=fun _ _=>by kernel_rfl
theorem BM (N:Nat) (w0:World) (F0:Mem) (hF:YN w0 F0) (hG:BI F0) (x0:YL) (r:(Int×Bool)) (h:AN N x0=some r):
  Calls Tryz.prog 95 ([(sv x0)]:List Value).toArray w0 (AC w0 F0 fun F' v=>v=(.tuple #[(vi r.1),(.bool r.2)])):=by
 have h3:=Yt hF
 refine Go 20 Tryz.func95<|Sq (Rg [0,1] ?_)
 refine Vs 2<|Nss (Rg (rG 7) ?_)
 refine Vs 1 ?_
 obtain ⟨h1,h5,h6⟩:=bS h
 refine Cl' Ji h3 (J9 N w0 F0 h3.pers hG x0 _ h5) ?_
 rintro _ F1 h7 h2 h8 ⟨hl,rfl,h9⟩
 refine Vs 5<|Nss (Rg (rG 11) ?_)
 obtain ⟨h4,ha,hb⟩:=bS h6
 refine Yx (fun f w=>∃ (F2:Mem),HS w0 F0 w F2 []/\Yr F1 F2/\FI f [] [(2,(vi h1.1)),(3,(.bool h4))]) ?_ ?_
 ·refine Vs 2 ?_
  refine V 13 4 (SK (t:=113) (t':=113) (x:=(.tmp 12)) (c:=.nilIface) h9 rfl rfl (by kernel_rfl))<|Vs 1<|Sp ha (fun h0 hc=>?_) (fun h0 hd=>?_)
  ·refine Vgs h0 1 ?_
   obtain ⟨hm,he,hf⟩:=bS hc
   refine Cg h0 AV h2 (A1 N h7 F1 h2.pers (hG.mono h8) h1.1 _ he) ?_
   rintro _ F3 hn hg hh rfl
   refine Vgs h0 2<|Pk1 h0<|Vs 2 ?_
   obtain rfl:=Aa hf
   exact Yn ⟨rfl,F3,hg,hh,fI⟩
  ·refine Ss h0 4 ?_
   refine Pk0 h0<|Vs 2 ?_
   obtain rfl:=Aa hd
   exact Yn ⟨rfl,F1,h2,(Ys _),fI⟩
 ·rintro f ho ⟨F2,hk,hp,⟨_,rfl⟩⟩
  refine Ab<|Rt ?_
  obtain rfl:=Aa hb
  exact Re [(vi h1.1),(.bool h4)] hk rfl
def Cx (N:Nat) (x0:Ac) (x1:YL):Option (Line×Int):=
 ((strings_Split N x1 ([32]:YL)).bind fun h0=>((AZ N h0 ([60]:YL)).bind fun h4=>((bif (decide ((h0.length:Int) < 9)) then some true else (bif (decide (h4 < 8)) then some true else ((idx h0 7).bind fun hb=>some (hb !=([62]:YL))))).bind fun hc=>(bif hc then some (({Num:=0,Khz:=0,Mode:=0,Minute:=0,Call:=([]:YL),Sent:=({Report:=0,Serial:=0,Zone:=0}:Ae),Got:=({Report:=0,Serial:=0,Zone:=0}:Ae)}:Line),20) else ((idx h0 1).bind fun hd=>((AN N hd).bind fun h7=>((idx h0 2).bind fun he=>((AN N he).bind fun h8=>(((idx h0 4).bind fun hf=>((Bc hf ([32]:YL)).bind fun hg=>((idx h0 5).bind fun hh=>((Bc hg hh).bind fun hk=>((Gn N hk).bind fun hl=>some hl.1))))).bind fun h9=>(((sub h0 8 h4).bind fun hm=>((strings_Join N hm ([32]:YL)).bind fun hn=>((CX N ({Report:=x0.Report,Serial:=x0.Serial,Zone:=x0.Zone}:Ac) hn).bind fun h5=>some (h5.1.Report,h5.1.Serial,h5.1.Zone)))).bind fun h1=>(((sub h0 (W64 (h4 + 1)) (h0.length:Int)).bind fun ho=>((strings_Join N ho ([32]:YL)).bind fun hp=>((CX N ({Report:=x0.Report,Serial:=x0.Serial,Zone:=x0.Zone}:Ac) hp).bind fun h6=>some (h6.1.Report,h6.1.Serial,h6.1.Zone)))).bind fun h2=>(((idx h0 3).bind fun hq=>((idx h0 6).bind fun hr=>((strings_Index N ([32,77,86,68]:YL) hq).bind fun hs=>some (hs,hr)))).bind fun h3=>((Eb N ({Report:=x0.Report,Serial:=x0.Serial,Zone:=x0.Zone}:Ac) ({Num:=h7.1,Khz:=h8.1,Mode:=h3.1,Minute:=h9,Call:=h3.2,Sent:=({Report:=h1.1,Serial:=h1.2.1,Zone:=h1.2.2}:Ae),Got:=({Report:=h2.1,Serial:=h2.2.1,Zone:=h2.2.2}:Ae)}:Line)).bind fun ha=>(bif ((ha.2 !=0)||(ha.1 !=x1)) then some (({Num:=0,Khz:=0,Mode:=0,Minute:=0,Call:=([]:YL),Sent:=({Report:=0,Serial:=0,Zone:=0}:Ae),Got:=({Report:=0,Serial:=0,Zone:=0}:Ae)}:Line),20) else some (({Num:=h7.1,Khz:=h8.1,Mode:=h3.1,Minute:=h9,Call:=h3.2,Sent:=({Report:=h1.1,Serial:=h1.2.1,Zone:=h1.2.2}:Ae),Got:=({Report:=h2.1,Serial:=h2.2.1,Zone:=h2.2.2}:Ae)}:Line),0)))))))))))))))
theorem Fx:Af Tryz.prog 31:=fun _ _=>by kernel_rfl
theorem FV (N:Nat) (w0:World) (F0:Mem) (hF:YN w0 F0) (hG:BI F0) (x0:Ac) (x1:YL) (r:(Line×Int)) (h:Cx N x0 x1=some r):
  Calls Tryz.prog 31 ([(.agg (Ag x0)),(sv x1)]:List Value).toArray w0 (AC w0 F0 fun F' v=>v=(.tuple #[(.agg (BX r.1)),(vi r.2)])):=by
 have cr:=Yt hF
 refine Go 112 Tryz.func31<|Sq (Rg [0,1,2] ?_)
 refine Bx' 23 (Ag x0) cr (fun h7 k4 ct=>?_)
 refine Al' 34 #[(vi 0),(vi 0),(vi 0),(vi 0),(sv (([]:YL))),(vi 0),(vi 0),(vi 0),(vi 0),(vi 0),(vi 0)] ct (fun h2 cu bq=>?_)
 refine Vs 1<|Nss (Rg [0,1,2] ?_)
 refine Vs 1 ?_
 obtain ⟨hf,cv,cw⟩:=bS h
 refine Cl' C9 bq (DH N cu F0 bq.pers hG x1 (([32]:YL)) _ cv) ?_
 rintro _ F1 cx br ha ⟨bs,hl,rfl,b5,hp⟩
 refine Vs 1<|Nss (Rg [0,1,2] ?_)
 refine Vs 1 ?_
 obtain ⟨hr,cy,cz⟩:=bS cw
 refine Cl' Dm br (DI N cx F1 br.pers hf bs hl b5 hp (([60]:YL)) _ cy) ?_
 rintro _ F2 k5 hy h4 rfl
 refine Vs 1<|Nss<|Sq (Rg (rG 13) ?_)
 obtain ⟨d0,d1,d2⟩:=bS cz
 refine Yx (fun f w=>∃ (F3:Mem),HS w0 F0 w F3 [(sb h2 #[(vi 0),(vi 0),(vi 0),(vi 0),(sv (([]:YL))),(vi 0),(vi 0),(vi 0),(vi 0),(vi 0),(vi 0)] 34),(sb h7 (Ag x0) 23)]/\Yr F2 F3/\FI f [] [(1,(sv x1)),(2,(pt h7 0)),(4,(pt h2 0)),(6,(sL bs hf hl)),(7,(vi hr)),(37,(.bool d0))]) ?_ ?_
 ·refine Vs 4 ?_
  refine Sp d1 (fun hs d3=>?_) (fun hs d4=>?_)
  ·refine Ss hs 2 ?_
   refine Pk1 hs<|Vs 1<|Ss (rfl:true=true) 4<|Pk1 (rfl:true=true) ?_
   obtain rfl:=Aa d3
   exact Yn ⟨rfl,F2,hy,(Ys _),fI⟩
  ·refine Vgs hs 2 ?_
   refine Pk0 hs<|Vs 1<|Sp d4 (fun hg d6=>?_) (fun hg d7=>?_)
   ·refine Ss hg 4 ?_
    refine Pk1 hg ?_
    obtain rfl:=Aa d6
    exact Yn ⟨rfl,F2,hy,(Ys _),fI⟩
   ·refine Vgs hg 1 ?_
    obtain ⟨k6,d8,d9⟩:=bS d7
    obtain ⟨da,hx63'⟩:=Ah d8
    obtain ⟨k7,k8,k9,ka,kb,rfl,hF72,hE73⟩:=Yz (Yu hp h4) hx63'
    have db:=hE73 _ _ hx63'
    refine Ixg hg da<|Lxg hg 0 (hy.pers _ _ hF72) db<|Vgs hg 1<|Pk0 hg ?_
    obtain rfl:=Aa d9
    exact Yn ⟨rfl,F2,hy,(Ys _),fI⟩
 ·rintro f dc ⟨F3,hz,h6,⟨_,rfl⟩⟩
  refine Ab<|Cd d2 (fun dd de=>?_) (fun dd df=>?_)
  ·refine Sq (Rg [0,1,2] ?_)
   refine Vs 1<|St0 #[(vi 0),(vi 0),(vi 0),(vi 0),(sv (([]:YL))),(vi 0),(vi 0),(vi 0),(vi 0),(vi 0),(vi 0)] hz (fun kc bt=>?_)
   refine Vs 1<|Nt<|Rt<|Ad ?_
   obtain rfl:=Aa de
   exact ⟨rfl,(.tuple #[(.agg #[(vi 0),(vi 0),(vi 0),(vi 0),(sv (([]:YL))),(vi 0),(vi 0),(vi 0),(vi 0),(vi 0),(vi 0)]),(vi 20)]),AJ (l:=[.cell 4 34,.tmp 5]) (by kernel_rfl) (vs:=[(.agg #[(vi 0),(vi 0),(vi 0),(vi 0),(sv (([]:YL))),(vi 0),(vi 0),(vi 0),(vi 0),(vi 0),(vi 0)]),(vi 20)]) ⟨h2,0,rfl,Ai (t:=34) (g:=true) (s:=11) (by kernel_rfl) bt.at0 rfl (by decide),⟨rfl,trivial⟩⟩,(.tuple #[(.agg #[(vi 0),(vi 0),(vi 0),(vi 0),(sv (([]:YL))),(vi 0),(vi 0),(vi 0),(vi 0),(vi 0),(vi 0)]),(vi 20)]),F3,rfl,bt.clear,rfl⟩
  ·refine Sc ?_
   refine Ab<|Sq (Rg (rG 9) ?_)
   refine Vs 1 ?_
   obtain ⟨dg,dh,di⟩:=bS df
   obtain ⟨dj,hx82'⟩:=Ah dh
   obtain ⟨ht,hu,kd,ke,kf,rfl,hF91,hE92⟩:=Yz (Yu hp (h4.t h6)) hx82'
   have dk:=hE92 _ _ hx82'
   refine Ix dj<|Lx 0 (hz.pers _ _ hF91) dk ?_
   obtain ⟨hb,dl,dm⟩:=bS di
   refine Cl' BA hz (BM N dc F3 hz.pers (hG.mono ((ha.t h4).trans h6)) dg _ dl) ?_
   rintro _ F4 dn b6 h3 rfl
   refine Vs 5<|Nss (Rg (rG 9) ?_)
   refine Vs 1 ?_
   obtain ⟨dp,dq,dr⟩:=bS dm
   obtain ⟨ds,hx104'⟩:=Ah dq
   have dt:=hE92 _ _ hx104'
   refine Ix ds<|Lx 0 (b6.pers _ _ (h3 _ _ hF91)) dt ?_
   obtain ⟨hc,du,dv⟩:=bS dr
   refine Cl' BA b6 (BM N dn F4 b6.pers (hG.mono (((ha.t h4).trans h6).trans h3)) dp _ du) ?_
   rintro _ F5 kg dw h5 rfl
   refine Vs 5<|Nss ?_
   obtain ⟨hd,dx,dy⟩:=bS dv
   refine RD 14 14 [(sb h2 #[(vi 0),(vi 0),(vi 0),(vi 0),(sv (([]:YL))),(vi 0),(vi 0),(vi 0),(vi 0),(vi 0),(vi 0)] 34),(sb h7 (Ag x0) 23)] [] dw (fun f w=>∃ (F6:Mem),HS w0 F0 w F6 [(sb h2 #[(vi 0),(vi 0),(vi 0),(vi 0),(sv (([]:YL))),(vi 0),(vi 0),(vi 0),(vi 0),(vi 0),(vi 0)] 34),(sb h7 (Ag x0) 23)]/\Yr F5 F6/\FI f [] [(1,(sv x1)),(2,(pt h7 0)),(4,(pt h2 0)),(6,(.slice (some ⟨ht,hu,none⟩) hf.length hl)),(7,(vi hr)),(8,(vi hb.1)),(10,(vi hc.1)),(12,(vi hd))]) (fun dz bu=>?_) ?_
   ·refine Dv [0] ?_
    obtain ⟨e0,e1,e2⟩:=bS dx
    obtain ⟨e3,hx135'⟩:=Ah e1
    have e4:=hE92 _ _ hx135'
    refine Di 1 e3<|Dx 2 0 (fun _ hq=>hq.1.1 _ _ ((h3.t h5) _ _ hF91)) e4 ?_
    obtain ⟨b7,e6,e7⟩:=bS e2
    refine Dt 3 57 9 (sv b7) (fun _ hq=>Ay (t:=9) (t':=9) (x:=(.tmp 56)) (y:=(.const (sv ([32]:YL)))) (a:=e0) (b:=([32]:YL)) (v:=b7) rfl rfl e6)<|Dv [4] ?_
    obtain ⟨e8,e9,ea⟩:=bS e7
    obtain ⟨eb,hx144'⟩:=Ah e9
    have ec:=hE92 _ _ hx144'
    refine Di 5 eb<|Dx 6 0 (fun _ hq=>hq.1.1 _ _ ((h3.t h5) _ _ hF91)) ec ?_
    obtain ⟨b8,ed,ee⟩:=bS ea
    refine Dt 7 61 9 (sv b8) (fun _ hq=>Ay (t:=9) (t':=9) (x:=(.tmp 57)) (y:=(.tmp 60)) (a:=b7) (b:=e8) (v:=b8) rfl rfl ed)<|D1 8 ?_
    obtain ⟨kh,ef,eg⟩:=bS ee
    refine DCl Nk bu (Oa N dz F5 bu.pers (hG.mono ((((ha.t h4).trans h6).trans h3).trans h5)) b8 _ ef) ?_
    rintro _ F7 ki eh ei rfl
    refine Dv [9,10,11,12,13] ?_
    obtain rfl:=Aa eg
    exact YE (by kernel_rfl) ⟨F7,eh,ei,fI⟩
   ·rintro f kj ⟨F6,ej,h9,⟨_,rfl⟩⟩
    refine Ab<|Sq ?_
    obtain ⟨h0,ek,el⟩:=bS dy
    refine RD 12 12 [(sb h2 #[(vi 0),(vi 0),(vi 0),(vi 0),(sv (([]:YL))),(vi 0),(vi 0),(vi 0),(vi 0),(vi 0),(vi 0)] 34),(sb h7 (Ag x0) 23)] [] ej (fun f w=>∃ (F8:Mem) (hm:Nat),HS w0 F0 w F8 [(sb hm #[(vi h0.1),(vi h0.2.1),(vi h0.2.2)] 32),(sb h2 #[(vi 0),(vi 0),(vi 0),(vi 0),(sv (([]:YL))),(vi 0),(vi 0),(vi 0),(vi 0),(vi 0),(vi 0)] 34),(sb h7 (Ag x0) 23)]/\Yr F6 F8/\FI f [] [(1,(sv x1)),(2,(pt h7 0)),(4,(pt h2 0)),(6,(.slice (some ⟨ht,hu,none⟩) hf.length hl)),(7,(vi hr)),(8,(vi hb.1)),(10,(vi hc.1)),(12,(vi hd)),(14,(pt hm 0))]) (fun en b9=>?_) ?_
    ·refine Dl 0 (fun _ hq=>(hq.1.2 1 _ _ rfl)) ?_
     refine Dv [1,2] ?_
     obtain ⟨b0,eo,bv⟩:=bS ek
     obtain ⟨ba,bb,bw,bx,ep⟩:=Fq (P:=Tryz.prog) (T:=AF) (lo:=(some (.const (vi 8)))) (hi:=(some (.tmp 68))) (mx:=none) (t:=55) (E:=9) (by_:=16) (c:=hl) (a:=(some ⟨ht,hu,none⟩)) (l:=hf) (r:=b0) (il:=8) (ih:=hr) (im:=0) (by kernel_rfl) (by kernel_rfl) b5 (Yu hp ((((h4.t h6).trans h3).trans h5).trans h9)) (fun h=>by first | rfl | cases h) eo
     refine Dt 3 69 55 (sL ba b0 bb) (fun _ hq=>ep (x:=(.tmp 67)) rfl rfl rfl trivial)<|YA (i:=4) (j:=9) (by kernel_rfl) ?_ ?_
     ·obtain ⟨bz,er,c0⟩:=bS bv
      refine DCl CK b9 (Dc N en F6 b9.pers b0 ba bb bw bx (([32]:YL)) _ er) ?_
      rintro _ F9 et bc hh rfl
      refine YA (i:=5) (j:=9) (by kernel_rfl) ?_ ?_
      ·obtain ⟨eu,ev,ew⟩:=bS c0
       refine DCl BT bc (B4 N et F9 bc.pers (hG.mono ((((((ha.t h4).trans h6).trans h3).trans h5).trans h9).trans hh)) (({Report:=x0.Report,Serial:=x0.Serial,Zone:=x0.Zone}:Ac)) bz _ ev) ?_
       rintro _ ex kl ey bd rfl
       refine Dv [6,7,8]<|D1 9<|DAl 32 #[(vi 0),(vi 0),(vi 0)] ey (hh.t bd) (fun ez km g0=>?_)
       refine D1 10<|Em (A3 eu.1) g0 (hh.t bd) (fun kn g1=>?_)
       refine Dv [11] ?_
       obtain rfl:=Aa ew
       exact YE (by kernel_rfl) ⟨ex,ez,g1,(hh.t bd),fI⟩
      ·refine DAl 32 #[(vi 0),(vi 0),(vi 0)] bc hh (fun g2 g3 c1=>?_)
       refine D1 5 ?_
       obtain ⟨g4,g5,g6⟩:=bS c0
       refine DCl BT c1 (B4 N g3 F9 c1.pers (hG.mono ((((((ha.t h4).trans h6).trans h3).trans h5).trans h9).trans hh)) (({Report:=x0.Report,Serial:=x0.Serial,Zone:=x0.Zone}:Ac)) bz _ g5) ?_
       rintro _ g7 ko g8 c3 rfl
       refine Dv [6,7,8]<|D1 10<|Em (A3 g4.1) g8 (hh.t c3) (fun kp g9=>?_)
       refine Dv [11] ?_
       obtain rfl:=Aa g6
       exact YE (by kernel_rfl) ⟨g7,g2,g9,(hh.t c3),fI⟩
     ·refine DAl 32 #[(vi 0),(vi 0),(vi 0)] b9 (Ys _) (fun ga gh c4=>?_)
      refine D1 4 ?_
      obtain ⟨gi,gk,gl⟩:=bS bv
      refine DCl CK c4 (Dc N gh F6 c4.pers b0 ba bb bw bx (([32]:YL)) _ gk) ?_
      rintro _ gm gn c5 be rfl
      refine D1 5 ?_
      obtain ⟨go,gp,gr⟩:=bS gl
      refine DCl BT c5 (B4 N gn gm c5.pers (hG.mono ((((((ha.t h4).trans h6).trans h3).trans h5).trans h9).trans be)) (({Report:=x0.Report,Serial:=x0.Serial,Zone:=x0.Zone}:Ac)) gi _ gp) ?_
      rintro _ gs kr gu c6 rfl
      refine Dv [6,7,8]<|D1 10<|Em (A3 go.1) gu (be.t c6) (fun ks gv=>?_)
      refine Dv [11] ?_
      obtain rfl:=Aa gr
      exact YE (by kernel_rfl) ⟨gs,ga,gv,(be.t c6),fI⟩
    ·rintro f kt ⟨F8,hm,gw,he,⟨_,rfl⟩⟩
     refine Ab<|Sq ?_
     obtain ⟨h1,gx,gy⟩:=bS el
     refine RD 13 13 [(sb hm #[(vi h0.1),(vi h0.2.1),(vi h0.2.2)] 32),(sb h2 #[(vi 0),(vi 0),(vi 0),(vi 0),(sv (([]:YL))),(vi 0),(vi 0),(vi 0),(vi 0),(vi 0),(vi 0)] 34),(sb h7 (Ag x0) 23)] [] gw (fun f w=>∃ (ho:Mem) (b1:Nat),HS w0 F0 w ho [(sb b1 #[(vi h1.1),(vi h1.2.1),(vi h1.2.2)] 32),(sb hm #[(vi h0.1),(vi h0.2.1),(vi h0.2.2)] 32),(sb h2 #[(vi 0),(vi 0),(vi 0),(vi 0),(sv (([]:YL))),(vi 0),(vi 0),(vi 0),(vi 0),(vi 0),(vi 0)] 34),(sb h7 (Ag x0) 23)]/\Yr F8 ho/\FI f [] [(1,(sv x1)),(2,(pt h7 0)),(4,(pt h2 0)),(6,(.slice (some ⟨ht,hu,none⟩) hf.length hl)),(8,(vi hb.1)),(10,(vi hc.1)),(12,(vi hd)),(14,(pt hm 0)),(16,(pt b1 0))]) (fun gz bf=>?_) ?_
     ·refine Dl 0 (fun _ hq=>(hq.1.2 2 _ _ rfl)) ?_
      refine Dv [1,2,3] ?_
      obtain ⟨b2,i0,c7⟩:=bS gx
      obtain ⟨bg,bh,c8,c9,i1⟩:=Fq (P:=Tryz.prog) (T:=AF) (lo:=(some (.tmp 78))) (hi:=none) (mx:=none) (t:=55) (E:=9) (by_:=16) (c:=hl) (a:=(some ⟨ht,hu,none⟩)) (l:=hf) (r:=b2) (il:=(W64 (hr + 1))) (ih:=(hf.length:Int)) (im:=0) (by kernel_rfl) (by kernel_rfl) b5 (Yu hp (((((h4.t h6).trans h3).trans h5).trans h9).trans he)) (fun h=>by first | rfl | cases h) i0
      refine Dt 4 79 55 (sL bg b2 bh) (fun _ hq=>i1 (x:=(.tmp 76)) rfl rfl rfl trivial)<|YA (i:=5) (j:=10) (by kernel_rfl) ?_ ?_
      ·obtain ⟨ca,i2,cb⟩:=bS c7
       refine DCl CK bf (Dc N gz F8 bf.pers b2 bg bh c8 c9 (([32]:YL)) _ i2) ?_
       rintro _ cc i3 bi hk rfl
       refine YA (i:=6) (j:=10) (by kernel_rfl) ?_ ?_
       ·obtain ⟨i4,i5,i6⟩:=bS cb
        refine DCl BT bi (B4 N i3 cc bi.pers (hG.mono (((((((ha.t h4).trans h6).trans h3).trans h5).trans h9).trans he).trans hk)) (({Report:=x0.Report,Serial:=x0.Serial,Zone:=x0.Zone}:Ac)) ca _ i5) ?_
        rintro _ i7 ku i8 bj rfl
        refine Dv [7,8,9]<|D1 10<|DAl 32 #[(vi 0),(vi 0),(vi 0)] i8 (hk.t bj) (fun i9 kw ia=>?_)
        refine D1 11<|Em (A3 i4.1) ia (hk.t bj) (fun ky ib=>?_)
        refine Dv [12] ?_
        obtain rfl:=Aa i6
        exact YE (by kernel_rfl) ⟨i7,i9,ib,(hk.t bj),fI⟩
       ·refine DAl 32 #[(vi 0),(vi 0),(vi 0)] bi hk (fun ic ie cd=>?_)
        refine D1 6 ?_
        obtain ⟨ig,ii,ij⟩:=bS cb
        refine DCl BT cd (B4 N ie cc cd.pers (hG.mono (((((((ha.t h4).trans h6).trans h3).trans h5).trans h9).trans he).trans hk)) (({Report:=x0.Report,Serial:=x0.Serial,Zone:=x0.Zone}:Ac)) ca _ ii) ?_
        rintro _ ik kz io ce rfl
        refine Dv [7,8,9]<|D1 11<|Em (A3 ig.1) io (hk.t ce) (fun l0 ip=>?_)
        refine Dv [12] ?_
        obtain rfl:=Aa ij
        exact YE (by kernel_rfl) ⟨ik,ic,ip,(hk.t ce),fI⟩
      ·refine DAl 32 #[(vi 0),(vi 0),(vi 0)] bf (Ys _) (fun iq ir cf=>?_)
       refine D1 5 ?_
       obtain ⟨it,iu,iv⟩:=bS c7
       refine DCl CK cf (Dc N ir F8 cf.pers b2 bg bh c8 c9 (([32]:YL)) _ iu) ?_
       rintro _ iw iy cg bk rfl
       refine D1 6 ?_
       obtain ⟨iz,j0,j1⟩:=bS iv
       refine DCl BT cg (B4 N iy iw cg.pers (hG.mono (((((((ha.t h4).trans h6).trans h3).trans h5).trans h9).trans he).trans bk)) (({Report:=x0.Report,Serial:=x0.Serial,Zone:=x0.Zone}:Ac)) it _ j0) ?_
       rintro _ j2 l1 j3 ch rfl
       refine Dv [7,8,9]<|D1 11<|Em (A3 iz.1) j3 (bk.t ch) (fun l2 j4=>?_)
       refine Dv [12] ?_
       obtain rfl:=Aa j1
       exact YE (by kernel_rfl) ⟨j2,iq,j4,(bk.t ch),fI⟩
     ·rintro f l3 ⟨ho,b1,j5,hv,⟨_,rfl⟩⟩
      refine Ab<|Sq ?_
      obtain ⟨h8,j6,j7⟩:=bS gy
      refine RD 14 15 [(sb b1 #[(vi h1.1),(vi h1.2.1),(vi h1.2.2)] 32),(sb hm #[(vi h0.1),(vi h0.2.1),(vi h0.2.2)] 32),(sb h2 #[(vi 0),(vi 0),(vi 0),(vi 0),(sv (([]:YL))),(vi 0),(vi 0),(vi 0),(vi 0),(vi 0),(vi 0)] 34),(sb h7 (Ag x0) 23)] [] j5 (fun f w=>∃ (b3:Mem) (hw:Nat),HS w0 F0 w b3 [(sb hw #[(vi hb.1),(vi hc.1),(vi h8.1),(vi hd),(sv h8.2),(vi h0.1),(vi h0.2.1),(vi h0.2.2),(vi h1.1),(vi h1.2.1),(vi h1.2.2)] 34),(sb h2 #[(vi 0),(vi 0),(vi 0),(vi 0),(sv (([]:YL))),(vi 0),(vi 0),(vi 0),(vi 0),(vi 0),(vi 0)] 34),(sb h7 (Ag x0) 23)]/\Yr ho b3/\FI f [] [(1,(sv x1)),(2,(pt h7 0)),(4,(pt h2 0)),(18,(pt hw 0))]) (fun j8 bl=>?_) ?_
      ·refine Dv [0,1,2] ?_
       obtain ⟨ci,j9,ja⟩:=bS j6
       obtain ⟨jb,hx339'⟩:=Ah j9
       have jc:=hE92 _ _ hx339'
       refine Di 3 jb<|Dx 4 0 (fun _ hq=>hq.1.1 _ _ (((((h3.t h5).trans h9).trans he).trans hv) _ _ hF91)) jc<|Dv [6,7] ?_
       obtain ⟨cj,jd,cl⟩:=bS ja
       obtain ⟨je,hx345'⟩:=Ah jd
       have jf:=hE92 _ _ hx345'
       refine Di 8 je<|Dx 9 0 (fun _ hq=>hq.1.1 _ _ (((((h3.t h5).trans h9).trans he).trans hv) _ _ hF91)) jf<|Dl 10 (fun _ hq=>(hq.1.2 1 _ _ rfl))<|Dl 11 (fun _ hq=>(hq.1.2 0 _ _ rfl))<|YA (i:=5) (j:=13) (by kernel_rfl) ?_ ?_
       ·obtain ⟨jg,jh,ji⟩:=bS cl
        refine DCl Iu bl (Jq N j8 ho bl.pers (hG.mono (((((((ha.t h4).trans h6).trans h3).trans h5).trans h9).trans he).trans hv)) (([32,77,86,68]:YL)) ci _ jh) ?_
        rintro _ jj l4 jk bm rfl
        refine Dv [12]<|D1 13<|DAl 34 #[(vi 0),(vi 0),(vi 0),(vi 0),(sv (([]:YL))),(vi 0),(vi 0),(vi 0),(vi 0),(vi 0),(vi 0)] jk bm (fun jl l5 jm=>?_)
        refine D1 14<|Em #[(vi hb.1),(vi hc.1),(vi jg),(vi hd),(sv cj),(vi h0.1),(vi h0.2.1),(vi h0.2.2),(vi h1.1),(vi h1.2.1),(vi h1.2.2)] jm bm (fun l6 jo=>?_)
        obtain rfl:=Aa ji
        exact YE (by kernel_rfl) ⟨jj,jl,jo.dr1.dr1,bm,fI⟩
       ·refine DAl 34 #[(vi 0),(vi 0),(vi 0),(vi 0),(sv (([]:YL))),(vi 0),(vi 0),(vi 0),(vi 0),(vi 0),(vi 0)] bl (Ys _) (fun jp jq cm=>?_)
        refine D1 5 ?_
        obtain ⟨jr,js,jt⟩:=bS cl
        refine DCl Iu cm (Jq N jq ho cm.pers (hG.mono (((((((ha.t h4).trans h6).trans h3).trans h5).trans h9).trans he).trans hv)) (([32,77,86,68]:YL)) ci _ js) ?_
        rintro _ ju l7 jv cn rfl
        refine Dv [12]<|D1 14<|Em #[(vi hb.1),(vi hc.1),(vi jr),(vi hd),(sv cj),(vi h0.1),(vi h0.2.1),(vi h0.2.2),(vi h1.1),(vi h1.2.1),(vi h1.2.2)] jv cn (fun l8 jw=>?_)
        obtain rfl:=Aa jt
        exact YE (by kernel_rfl) ⟨ju,jp,jw.dr1.dr1,cn,fI⟩
      ·rintro f jx ⟨b3,hw,b4,jy,⟨_,rfl⟩⟩
       refine Ab<|Sq<|Sq (Rg (rG 8) ?_)
       refine Ld b4.at2<|Ld b4.at0 ?_
       obtain ⟨bn,jz,k0⟩:=bS j7
       refine Cl' HK b4 (IE N jx b3 b4.pers (hG.mono ((((((((ha.t h4).trans h6).trans h3).trans h5).trans h9).trans he).trans hv).trans jy)) (({Report:=x0.Report,Serial:=x0.Serial,Zone:=x0.Zone}:Ac)) (({Num:=hb.1,Khz:=hc.1,Mode:=h8.1,Minute:=hd,Call:=h8.2,Sent:=({Report:=h0.1,Serial:=h0.2.1,Zone:=h0.2.2}:Ae),Got:=({Report:=h1.1,Serial:=h1.2.1,Zone:=h1.2.2}:Ae)}:Line)) _ jz) ?_
       rintro _ bo l9 co la rfl
       refine Vs 5<|Nss (Rg (rG 7) ?_)
       refine Yx (fun f w=>∃ (hx:Mem),HS w0 F0 w hx [(sb hw #[(vi hb.1),(vi hc.1),(vi h8.1),(vi hd),(sv h8.2),(vi h0.1),(vi h0.2.1),(vi h0.2.2),(vi h1.1),(vi h1.2.1),(vi h1.2.2)] 34),(sb h2 #[(vi 0),(vi 0),(vi 0),(vi 0),(sv (([]:YL))),(vi 0),(vi 0),(vi 0),(vi 0),(vi 0),(vi 0)] 34)]/\Yr bo hx/\FI f [] [(4,(pt h2 0)),(18,(pt hw 0)),(109,(.bool ((bn.2 !=0)||(bn.1 !=x1))))]) ?_ ?_
       ·refine Vs 3 ?_
        refine Yw (bn.2 !=0) (fun hn=>?_) (fun hn=>?_)
        ·refine Ss hn 3 ?_
         refine Pk1 hn ?_
         exact Yn ⟨rfl,bo,co.dr2,(Ys _),(fJ ⟨rfl,rfl,(congrArg Value.bool (Fc hn rfl)),trivial⟩)⟩
        ·refine Vgs hn 3 ?_
         refine Pk0 hn ?_
         exact Yn ⟨rfl,bo,co.dr2,(Ys _),(fJ ⟨rfl,rfl,(congrArg Value.bool (Cm hn rfl)),trivial⟩)⟩
       ·rintro f lb ⟨hx,bp,lc,⟨_,rfl⟩⟩
        refine Ab<|Cd k0 (fun k1 k2=>?_) (fun k1 k3=>?_)
        ·refine Sq (Rg [0,1,2] ?_)
         refine Vs 1<|St1 #[(vi 0),(vi 0),(vi 0),(vi 0),(sv (([]:YL))),(vi 0),(vi 0),(vi 0),(vi 0),(vi 0),(vi 0)] bp (fun lf cp=>?_)
         refine Vs 1<|Nt<|Rt<|Ad ?_
         obtain rfl:=Aa k2
         exact ⟨rfl,(.tuple #[(.agg #[(vi 0),(vi 0),(vi 0),(vi 0),(sv (([]:YL))),(vi 0),(vi 0),(vi 0),(vi 0),(vi 0),(vi 0)]),(vi 20)]),AJ (l:=[.cell 4 34,.tmp 5]) (by kernel_rfl) (vs:=[(.agg #[(vi 0),(vi 0),(vi 0),(vi 0),(sv (([]:YL))),(vi 0),(vi 0),(vi 0),(vi 0),(vi 0),(vi 0)]),(vi 20)]) ⟨h2,0,rfl,Ai (t:=34) (g:=true) (s:=11) (by kernel_rfl) cp.at1 rfl (by decide),⟨rfl,trivial⟩⟩,(.tuple #[(.agg #[(vi 0),(vi 0),(vi 0),(vi 0),(sv (([]:YL))),(vi 0),(vi 0),(vi 0),(vi 0),(vi 0),(vi 0)]),(vi 20)]),hx,rfl,cp.clear,rfl⟩
        ·refine Sc ?_
         refine Ab<|Sq (Rg [0,1,2] ?_)
         refine Ld bp.at0<|St1 #[(vi hb.1),(vi hc.1),(vi h8.1),(vi hd),(sv h8.2),(vi h0.1),(vi h0.2.1),(vi h0.2.2),(vi h1.1),(vi h1.2.1),(vi h1.2.2)] bp (fun lg cq=>?_)
         refine Vs 1<|Nt<|Rt ?_
         obtain rfl:=Aa k3
         exact ⟨rfl,(.tuple #[(.agg #[(vi hb.1),(vi hc.1),(vi h8.1),(vi hd),(sv h8.2),(vi h0.1),(vi h0.2.1),(vi h0.2.2),(vi h1.1),(vi h1.2.1),(vi h1.2.2)]),(vi 0)]),AJ (l:=[.cell 4 34,.tmp 5]) (by kernel_rfl) (vs:=[(.agg #[(vi hb.1),(vi hc.1),(vi h8.1),(vi hd),(sv h8.2),(vi h0.1),(vi h0.2.1),(vi h0.2.2),(vi h1.1),(vi h1.2.1),(vi h1.2.2)]),(vi 0)]) ⟨h2,0,rfl,Ai (t:=34) (g:=true) (s:=11) (by kernel_rfl) cq.at1 rfl (by decide),⟨rfl,trivial⟩⟩,(.tuple #[(.agg #[(vi hb.1),(vi hc.1),(vi h8.1),(vi hd),(sv h8.2),(vi h0.1),(vi h0.2.1),(vi h0.2.2),(vi h1.1),(vi h1.2.1),(vi h1.2.2)]),(vi 0)]),hx,rfl,cq.clear,rfl⟩
def Ft (N:Nat) (x0:Am) (x1:YL):Option (Am×Bool):=
 ((strings_CutPrefix N x1 ([67,65,76,76,32]:YL)).bind fun h0=>((bif h0.2 then ((Gm N h0.1).bind fun h1=>some h1) else some false).bind fun h2=>some (({o_:=({Report:=x0.o_.Report,Serial:=x0.o_.Serial,Zone:=x0.o_.Zone}:Ac),l_:=({Call:=h0.1,Category:=x0.l_.Category,Power:=x0.l_.Power,Claimed:=x0.l_.Claimed,Jumps:=x0.l_.Jumps,Lines:=x0.l_.Lines}:Log),done_:=x0.done_,ended_:=x0.ended_}:Am),h2)))
theorem Mg:Af Tryz.prog 153:=fun _ _=>by kernel_rfl
theorem Np (N:Nat) {wb w0:World} {Fb F0:Mem} {Lf:Own} (hG:BI F0) (hh:Nat) (x0:Am) (h7:YM) (h8 h0 h9 ha h1 h2 hb hc h3 h4 hd he h5:Nat) (hf:YM) (hg:Nat) (hk:Option Nat×Obj) (hw:LC x0.l_.Jumps.length h8) (hx:SlA AP F0 h7 x0.l_.Jumps) (bc:F0 h0=some (oc #[(sv (([67,65,84,69,71,79,82,89]:YL)))] 9)) (bd:F0 h9=some (oc #[(vi 1)] 3)) (be:F0 ha=some (oc #[(vi 9)] 3)) (bf:F0 h1=some (oc #[(fV 156 #[])] 195)) (bg:F0 h2=some (oc #[(sv (([80,79,87,69,82]:YL)))] 9)) (bh:F0 hb=some (oc #[(vi 1)] 3)) (bi:F0 hc=some (oc #[(vi 9999)] 3)) (bj:F0 h3=some (oc #[(fV 157 #[])] 195)) (bk:F0 h4=some (oc #[(sv (([67,76,65,73,77,69,68]:YL)))] 9)) (bl:F0 hd=some (oc #[(vi 0)] 3)) (bm:F0 he=some (oc #[(vi 1000000)] 3)) (bn:F0 h5=some (oc #[(fV 158 #[])] 195)) (hy:Ap AM 34 F0 hf hg x0.l_.Lines hk) (x1:YL) (hp:HS wb Fb w0 F0 ((sb hh #[(.bool x0.o_.Report),(.bool x0.o_.Serial),(.bool x0.o_.Zone),(sv x0.l_.Call),(vi x0.l_.Category),(vi x0.l_.Power),(vi x0.l_.Claimed),(sL h7 x0.l_.Jumps h8),(sL hf x0.l_.Lines hg),(fV 153 #[]),(fV 154 #[]),(fV 190 #[(pt h0 0),(pt h9 0),(pt ha 0),(pt h1 0)]),(fV 191 #[(pt h0 0),(pt h1 0)]),(fV 190 #[(pt h2 0),(pt hb 0),(pt hc 0),(pt h3 0)]),(fV 191 #[(pt h2 0),(pt h3 0)]),(fV 190 #[(pt h4 0),(pt hd 0),(pt he 0),(pt h5 0)]),(fV 191 #[(pt h4 0),(pt h5 0)]),(fV 159 #[]),(fV 160 #[]),(vi x0.done_),(.bool x0.ended_)] 130)::hk::Lf)) (r:(Am×Bool)) (h:Ft N x0 x1=some r):
  Calls Tryz.prog 153 ([(pt hh 3),(sv x1)]:List Value).toArray w0 (FY wb Fb F0 fun F' v L'=>∃ (hq:YM) (hr:Nat) (hs:YM) (ht:Nat) (hu:Option Nat×Obj),v=(.bool r.2)/\L'=(sb hh #[(.bool r.1.o_.Report),(.bool r.1.o_.Serial),(.bool r.1.o_.Zone),(sv r.1.l_.Call),(vi r.1.l_.Category),(vi r.1.l_.Power),(vi r.1.l_.Claimed),(sL hq r.1.l_.Jumps hr),(sL hs r.1.l_.Lines ht),(fV 153 #[]),(fV 154 #[]),(fV 190 #[(pt h0 0),(pt h9 0),(pt ha 0),(pt h1 0)]),(fV 191 #[(pt h0 0),(pt h1 0)]),(fV 190 #[(pt h2 0),(pt hb 0),(pt hc 0),(pt h3 0)]),(fV 191 #[(pt h2 0),(pt h3 0)]),(fV 190 #[(pt h4 0),(pt hd 0),(pt he 0),(pt h5 0)]),(fV 191 #[(pt h4 0),(pt h5 0)]),(fV 159 #[]),(fV 160 #[]),(vi r.1.done_),(.bool r.1.ended_)] 130)::hu::Lf/\LC r.1.l_.Jumps.length hr/\SlA AP F' hq r.1.l_.Jumps/\Ap AM 34 F' hs ht r.1.l_.Lines hu):=by
 refine Go 21 Tryz.func153<|Sq (Rg [0] ?_)
 refine Vs 1<|Nss (Rg (rG 7) ?_)
 refine Vs 1 ?_
 obtain ⟨hm,hz,b0⟩:=bS h
 refine Cl' Bb hp (Bl N w0 F0 hp.pers x1 (([67,65,76,76,32]:YL)) _ hz) ?_
 rintro _ F1 bo b1 hl rfl
 refine Vs 5<|Nss (Rg (rG 5) ?_)
 refine Vs 4<|St0 #[(.bool x0.o_.Report),(.bool x0.o_.Serial),(.bool x0.o_.Zone),(sv hm.1),(vi x0.l_.Category),(vi x0.l_.Power),(vi x0.l_.Claimed),(sL h7 x0.l_.Jumps h8),(sL hf x0.l_.Lines hg),(fV 153 #[]),(fV 154 #[]),(fV 190 #[(pt h0 0),(pt h9 0),(pt ha 0),(pt h1 0)]),(fV 191 #[(pt h0 0),(pt h1 0)]),(fV 190 #[(pt h2 0),(pt hb 0),(pt hc 0),(pt h3 0)]),(fV 191 #[(pt h2 0),(pt h3 0)]),(fV 190 #[(pt h4 0),(pt hd 0),(pt he 0),(pt h5 0)]),(fV 191 #[(pt h4 0),(pt h5 0)]),(fV 159 #[]),(fV 160 #[]),(vi x0.done_),(.bool x0.ended_)] b1 (fun b2 hn=>?_)
 refine Nss (Rg (rG 6) ?_)
 obtain ⟨hv,b3,b4⟩:=bS b0
 refine Yx (fun f w=>∃ (F2:Mem),HS wb Fb w F2 ((sb hh #[(.bool x0.o_.Report),(.bool x0.o_.Serial),(.bool x0.o_.Zone),(sv hm.1),(vi x0.l_.Category),(vi x0.l_.Power),(vi x0.l_.Claimed),(sL h7 x0.l_.Jumps h8),(sL hf x0.l_.Lines hg),(fV 153 #[]),(fV 154 #[]),(fV 190 #[(pt h0 0),(pt h9 0),(pt ha 0),(pt h1 0)]),(fV 191 #[(pt h0 0),(pt h1 0)]),(fV 190 #[(pt h2 0),(pt hb 0),(pt hc 0),(pt h3 0)]),(fV 191 #[(pt h2 0),(pt h3 0)]),(fV 190 #[(pt h4 0),(pt hd 0),(pt he 0),(pt h5 0)]),(fV 191 #[(pt h4 0),(pt h5 0)]),(fV 159 #[]),(fV 160 #[]),(vi x0.done_),(.bool x0.ended_)] 130)::hk::Lf)/\Yr F1 F2/\FI f [] [(4,(.bool hv))]) ?_ ?_
 ·refine Vs 2 ?_
  refine Sp b3 (fun h6 b5=>?_) (fun h6 b6=>?_)
  ·refine Vgs h6 1 ?_
   obtain ⟨bp,b7,b8⟩:=bS b5
   refine Cg h6 FU hn (GI N b2 F1 hn.pers (hG.mono hl) hm.1 _ b7) ?_
   rintro _ F3 bq b9 ba rfl
   refine Pk1 h6<|Vs 1 ?_
   obtain rfl:=Aa b8
   exact Yn ⟨rfl,F3,b9,ba,fI⟩
  ·refine Ss h6 2 ?_
   refine Pk0 h6<|Vs 1 ?_
   obtain rfl:=Aa b6
   exact Yn ⟨rfl,F1,hn,(Ys _),fI⟩
 ·rintro f br ⟨F2,bb,ho,⟨_,rfl⟩⟩
  refine Ab<|Rt ?_
  obtain rfl:=Aa b4
  exact ReB [(.bool hv)] bb (hl.t ho) ⟨h7,h8,hf,hg,hk,rfl,rfl,hw,(Yu hx (hl.t ho)),(hy.mono (hl.t ho))⟩
def Bv (N:Nat) (x0:Am) (x1:YL) (h5:(List YL)) (h1:List YL):(List Int×Int)->Option (A9 (Am×Bool) (List Int×Int)):=fun h0=>
 (bif (decide (h0.2 < (h1.length:Int))) then ((idx h1 h0.2).bind fun h3=>((AN N h3).bind fun h2=>(bif (!h2.2) then some (.ret (x0,false)) else ((CD h0.1 [h2.1]).bind fun h4=>some (.next (h4,(W64 (h0.2 + 1)))))))) else some (.done (h0.1,h0.2)))
def ER (N:Nat) (x0:Am) (x1:YL):Option (Am×Bool):=
 ((strings_Split N x1 ([32]:YL)).bind fun h0=>((sub h0 1 (h0.length:Int)).bind fun h2=>((AH (Bv N x0 x1 h0 h2) N (([]:List Int),0)).bind fun o=>o.k (fun r=>some r) (fun h1=>(((idx h0 0).bind fun h3=>(bif (h3==([74,85,77,80,83]:YL)) then ((Ea N h1.1).bind fun h4=>some h4) else some false)).bind fun h5=>some (({o_:=({Report:=x0.o_.Report,Serial:=x0.o_.Serial,Zone:=x0.o_.Zone}:Ac),l_:=({Call:=x0.l_.Call,Category:=x0.l_.Category,Power:=x0.l_.Power,Claimed:=x0.l_.Claimed,Jumps:=h1.1,Lines:=x0.l_.Lines}:Log),done_:=x0.done_,ended_:=x0.ended_}:Am),h5))))))
theorem Ly:Af Tryz.prog 159:=fun _ _=>by kernel_rfl
theorem Mv (N:Nat) {wb w0:World} {Fb F0:Mem} {Lf:Own} (hG:BI F0) (h6:Nat) (x0:Am) (hp:YM) (hq h0 ha hb h1 h2 hc hd h3 h4 he hf h5:Nat) (h7:YM) (h8:Nat) (hg:Option Nat×Obj) (bp:LC x0.l_.Jumps.length hq) (bq:SlA AP F0 hp x0.l_.Jumps) (dh:F0 h0=some (oc #[(sv (([67,65,84,69,71,79,82,89]:YL)))] 9)) (di:F0 ha=some (oc #[(vi 1)] 3)) (dj:F0 hb=some (oc #[(vi 9)] 3)) (dk:F0 h1=some (oc #[(fV 156 #[])] 195)) (dl:F0 h2=some (oc #[(sv (([80,79,87,69,82]:YL)))] 9)) (dm:F0 hc=some (oc #[(vi 1)] 3)) (dn:F0 hd=some (oc #[(vi 9999)] 3)) (dp:F0 h3=some (oc #[(fV 157 #[])] 195)) (dq:F0 h4=some (oc #[(sv (([67,76,65,73,77,69,68]:YL)))] 9)) (dr:F0 he=some (oc #[(vi 0)] 3)) (ds:F0 hf=some (oc #[(vi 1000000)] 3)) (dt:F0 h5=some (oc #[(fV 158 #[])] 195)) (b7:Ap AM 34 F0 h7 h8 x0.l_.Lines hg) (x1:YL) (b8:HS wb Fb w0 F0 ((sb h6 #[(.bool x0.o_.Report),(.bool x0.o_.Serial),(.bool x0.o_.Zone),(sv x0.l_.Call),(vi x0.l_.Category),(vi x0.l_.Power),(vi x0.l_.Claimed),(sL hp x0.l_.Jumps hq),(sL h7 x0.l_.Lines h8),(fV 153 #[]),(fV 154 #[]),(fV 190 #[(pt h0 0),(pt ha 0),(pt hb 0),(pt h1 0)]),(fV 191 #[(pt h0 0),(pt h1 0)]),(fV 190 #[(pt h2 0),(pt hc 0),(pt hd 0),(pt h3 0)]),(fV 191 #[(pt h2 0),(pt h3 0)]),(fV 190 #[(pt h4 0),(pt he 0),(pt hf 0),(pt h5 0)]),(fV 191 #[(pt h4 0),(pt h5 0)]),(fV 159 #[]),(fV 160 #[]),(vi x0.done_),(.bool x0.ended_)] 130)::hg::Lf)) (r:(Am×Bool)) (h:ER N x0 x1=some r):
  Calls Tryz.prog 159 ([(pt h6 3),(sv x1)]:List Value).toArray w0 (FY wb Fb F0 fun F' v L'=>∃ (b9:YM) (ba:Nat) (bb:YM) (bc:Nat) (bd:Option Nat×Obj),v=(.bool r.2)/\L'=(sb h6 #[(.bool r.1.o_.Report),(.bool r.1.o_.Serial),(.bool r.1.o_.Zone),(sv r.1.l_.Call),(vi r.1.l_.Category),(vi r.1.l_.Power),(vi r.1.l_.Claimed),(sL b9 r.1.l_.Jumps ba),(sL bb r.1.l_.Lines bc),(fV 153 #[]),(fV 154 #[]),(fV 190 #[(pt h0 0),(pt ha 0),(pt hb 0),(pt h1 0)]),(fV 191 #[(pt h0 0),(pt h1 0)]),(fV 190 #[(pt h2 0),(pt hc 0),(pt hd 0),(pt h3 0)]),(fV 191 #[(pt h2 0),(pt h3 0)]),(fV 190 #[(pt h4 0),(pt he 0),(pt hf 0),(pt h5 0)]),(fV 191 #[(pt h4 0),(pt h5 0)]),(fV 159 #[]),(fV 160 #[]),(vi r.1.done_),(.bool r.1.ended_)] 130)::bd::Lf/\LC r.1.l_.Jumps.length ba/\SlA AP F' b9 r.1.l_.Jumps/\Ap AM 34 F' bb bc r.1.l_.Lines bd):=by
 refine Go 44 Tryz.func159<|Sq (Rg [0] ?_)
 refine Vs 1<|Nss (Rg [0,1,2] ?_)
 refine Vs 1 ?_
 obtain ⟨hr,br,bs⟩:=bS h
 refine Cl' C9 b8 (DH N w0 F0 b8.pers hG x1 (([32]:YL)) _ br) ?_
 rintro _ F1 du bt hn ⟨hz,b0,rfl,bu,be⟩
 refine Vs 1<|Nss (Rg [0] ?_)
 refine Vs 1<|Nss<|Sq (Rg (rG 4) ?_)
 refine Vs 1 ?_
 obtain ⟨ht,bv,bw⟩:=bS bs
 obtain ⟨bx,bz,dv,c0,c1⟩:=Fq (P:=Tryz.prog) (T:=AF) (lo:=(some (.const (vi 1)))) (hi:=none) (mx:=none) (t:=55) (E:=9) (by_:=16) (c:=b0) (a:=hz) (l:=hr) (r:=ht) (il:=1) (ih:=(hr.length:Int)) (im:=0) (by kernel_rfl) (by kernel_rfl) bu be (fun h=>by first | rfl | cases h) bv
 refine V 14 55 (c1 (x:=(.tmp 13)) rfl rfl rfl trivial)<|Vs 2<|Nt ?_
 have c3:=bt.dummy (oc #[] 0)
 obtain ⟨bf,c4,bg⟩:=bS bw
 refine Yy (fun f w=>∃ (hh:(List Int×Int)) (F3:Mem) (hk:YM) (hl:Nat) (b1:Option Nat×Obj),bf=.done hh/\HS wb Fb w F3 (b1::(sb h6 #[(.bool x0.o_.Report),(.bool x0.o_.Serial),(.bool x0.o_.Zone),(sv x0.l_.Call),(vi x0.l_.Category),(vi x0.l_.Power),(vi x0.l_.Claimed),(sL hp x0.l_.Jumps hq),(sL h7 x0.l_.Lines h8),(fV 153 #[]),(fV 154 #[]),(fV 190 #[(pt h0 0),(pt ha 0),(pt hb 0),(pt h1 0)]),(fV 191 #[(pt h0 0),(pt h1 0)]),(fV 190 #[(pt h2 0),(pt hc 0),(pt hd 0),(pt h3 0)]),(fV 191 #[(pt h2 0),(pt h3 0)]),(fV 190 #[(pt h4 0),(pt he 0),(pt hf 0),(pt h5 0)]),(fV 191 #[(pt h4 0),(pt h5 0)]),(fV 159 #[]),(fV 160 #[]),(vi x0.done_),(.bool x0.ended_)] 130)::hg::Lf)/\Yr F1 F3/\FI f [] [(0,(pt h6 3)),(5,(sL hz hr b0)),(6,(sL hk hh.1 hl))]/\Ap AP 3 F3 hk hl hh.1 b1) ?_ ?_
 ·refine Bk ?_
  refine Yq (by kernel_rfl) (fun m f w=>∃ (h9:(List Int×Int)) (F2:Mem) (hu:YM) (hv:Nat) (hw:Option Nat×Obj),AH (Bv N x0 x1 hr ht) m h9=some bf/\HS wb Fb w F2 (hw::(sb h6 #[(.bool x0.o_.Report),(.bool x0.o_.Serial),(.bool x0.o_.Zone),(sv x0.l_.Call),(vi x0.l_.Category),(vi x0.l_.Power),(vi x0.l_.Claimed),(sL hp x0.l_.Jumps hq),(sL h7 x0.l_.Lines h8),(fV 153 #[]),(fV 154 #[]),(fV 190 #[(pt h0 0),(pt ha 0),(pt hb 0),(pt h1 0)]),(fV 191 #[(pt h0 0),(pt h1 0)]),(fV 190 #[(pt h2 0),(pt hc 0),(pt hd 0),(pt h3 0)]),(fV 191 #[(pt h2 0),(pt h3 0)]),(fV 190 #[(pt h4 0),(pt he 0),(pt hf 0),(pt h5 0)]),(fV 191 #[(pt h4 0),(pt h5 0)]),(fV 159 #[]),(fV 160 #[]),(vi x0.done_),(.bool x0.ended_)] 130)::hg::Lf)/\Yr F1 F2/\FI f [] [(0,(pt h6 3)),(5,(sL hz hr b0)),(6,(sL hu h9.1 hv)),(14,(sL bx ht bz)),(15,(vi (ht.length:Int))),(16,(vi h9.2))]/\Ap AP 3 F2 hu hv h9.1 hw) N ⟨(([]:List Int),0),F1,none,0,(none,.cells #[] 0 (0,0)),c4,c3,(Ys _),fI,(YG AP 3 F1 _)⟩ ?_
  rintro dw f c5 ⟨h9,F2,hu,hv,hw,c6,hx,hm,⟨_,rfl⟩,bh⟩
  obtain ⟨c7,dx,rfl,c8,b2⟩:=AD c6
  refine Sq (Rg [0] ?_)
  refine Vs 1<|Nss<|Cd c8 (fun c9 ca=>?_) (fun c9 cb=>?_)
  ·refine Sc ?_
   refine Ab<|Sq<|Bk<|Sq (Rg [0,1,2] ?_)
   obtain ⟨cc,cd,ce⟩:=bS ca
   obtain ⟨cf,hx71'⟩:=Ah cd
   obtain ⟨dy,dz,e0,e1,e2,rfl,hF80,hE81⟩:=Yz (Yu c0 hm) hx71'
   have cg:=hE81 _ _ hx71'
   refine Ix cf<|Lx 0 (hx.pers _ _ hF80) cg<|Vs 1<|Nss (Rg (rG 7) ?_)
   refine Vs 1 ?_
   obtain ⟨b3,ch,ci⟩:=bS ce
   refine Cl' BA hx (BM N c5 F2 hx.pers (hG.mono (hn.t hm)) cc _ ch) ?_
   rintro _ F4 e3 bi hs rfl
   refine Vs 5<|Nss<|Sq (Rg [0,1] ?_)
   refine Vs 2<|Nt<|Cd ci (fun cj cl=>?_) (fun cj cm=>?_)
   ·refine Sq (Rg [0] ?_)
    refine Vs 1<|Nt<|Rt<|Ad<|Aq<|Ad<|Ad<|Aq ?_
    have hret:=Bq cl b2
    subst hret
    refine .inr<|Ad ?_
    obtain rfl:=Aa bg
    exact ReB [(.bool false)] bi.dr0 ((hn.t hm).trans hs) ⟨hp,hq,h7,h8,hg,rfl,rfl,bp,(Yu bq ((hn.t hm).trans hs)),(b7.mono ((hn.t hm).trans hs))⟩
   ·refine Sc ?_
    refine Ab<|Rg (rG 5)<|Vs 2<|Bs 3 [(vi b3.1)] bi (fun bj e4 bk=>?_)
    have cn:Ap AP 3 F4 (some ⟨bj,0,none⟩) 1 [b3.1] (some bj,.cells ([(vi b3.1)]:List Value).toArray 3 (0,0)):=YH ⟨rfl,rfl⟩ (by simp)
    obtain ⟨co,cp,cq⟩:=bS cm
    refine Ap1 Wk bk (bh.mono hs) (bk.rd0 cn) cp (fun cr ct cu e6 cv cw=>?_)
    refine Vs 1<|Yn<|Ao<|Ab<|Rg [0,1]<|Vs 2<|Yn ?_
    have cx:=AA cq b2
    exact ⟨c7,Nat.lt_succ_self _,(co,(W64 (h9.2 + 1))),F4,cr,ct,cu,cx,cv.dr0,(hm.t hs),fI,cw⟩
  ·refine Ex ?_
   refine Al<|Al<|Av rfl ?_
   have cy:=AB cb b2
   exact .inl ⟨rfl,(h9.1,h9.2),F2,hu,hv,hw,cy,hx,hm,fI,bh⟩
 ·rintro f e7 ⟨hh,F3,hk,hl,b1,rfl,cz,b4,⟨_,rfl⟩,bl⟩
  have d0:=A4 bg
  refine Ab<|Sq (Rg (rG 5) ?_)
  refine Vs 4 ?_
  have bm:=YF bl
  obtain ⟨F5,d1,b5,bn⟩:=cz.fr0 bl
  refine St0 #[(.bool x0.o_.Report),(.bool x0.o_.Serial),(.bool x0.o_.Zone),(sv x0.l_.Call),(vi x0.l_.Category),(vi x0.l_.Power),(vi x0.l_.Claimed),(sL hk hh.1 hl),(sL h7 x0.l_.Lines h8),(fV 153 #[]),(fV 154 #[]),(fV 190 #[(pt h0 0),(pt ha 0),(pt hb 0),(pt h1 0)]),(fV 191 #[(pt h0 0),(pt h1 0)]),(fV 190 #[(pt h2 0),(pt hc 0),(pt hd 0),(pt h3 0)]),(fV 191 #[(pt h2 0),(pt h3 0)]),(fV 190 #[(pt h4 0),(pt he 0),(pt hf 0),(pt h5 0)]),(fV 191 #[(pt h4 0),(pt h5 0)]),(fV 159 #[]),(fV 160 #[]),(vi x0.done_),(.bool x0.ended_)] d1 (fun d2 hy=>?_)
  refine Nss (Rg (rG 9) ?_)
  obtain ⟨bo,d3,d4⟩:=bS d0
  refine Yx (fun f w=>∃ (F6:Mem),HS wb Fb w F6 ((sb h6 #[(.bool x0.o_.Report),(.bool x0.o_.Serial),(.bool x0.o_.Zone),(sv x0.l_.Call),(vi x0.l_.Category),(vi x0.l_.Power),(vi x0.l_.Claimed),(sL hk hh.1 hl),(sL h7 x0.l_.Lines h8),(fV 153 #[]),(fV 154 #[]),(fV 190 #[(pt h0 0),(pt ha 0),(pt hb 0),(pt h1 0)]),(fV 191 #[(pt h0 0),(pt h1 0)]),(fV 190 #[(pt h2 0),(pt hc 0),(pt hd 0),(pt h3 0)]),(fV 191 #[(pt h2 0),(pt h3 0)]),(fV 190 #[(pt h4 0),(pt he 0),(pt hf 0),(pt h5 0)]),(fV 191 #[(pt h4 0),(pt h5 0)]),(fV 159 #[]),(fV 160 #[]),(vi x0.done_),(.bool x0.ended_)] 130)::hg::Lf)/\Yr F5 F6/\FI f [] [(4,(.bool bo))]) ?_ ?_
  ·refine Vs 1 ?_
   obtain ⟨e8,d6,d7⟩:=bS d3
   obtain ⟨d8,hx127'⟩:=Ah d6
   obtain ⟨e9,ea,eb,ec,ed,rfl,hF136,hE137⟩:=Yz (Yu be (b4.t b5)) hx127'
   have d9:=hE137 _ _ hx127'
   refine Ix d8<|Lx 0 (hy.pers _ _ hF136) d9<|Vs 2<|Sp d7 (fun ho da=>?_) (fun ho db=>?_)
   ·refine Vgs ho 1 ?_
    obtain ⟨ee,dc,dd⟩:=bS da
    refine Cg ho HY hy (I6 N d2 F5 hy.pers hh.1 hk hl bm bn _ dc) ?_
    rintro _ F7 ef de df rfl
    refine Pk1 ho<|Vs 1 ?_
    obtain rfl:=Aa dd
    exact Yn ⟨rfl,F7,de,df,fI⟩
   ·refine Ss ho 2 ?_
    refine Pk0 ho<|Vs 1 ?_
    obtain rfl:=Aa db
    exact Yn ⟨rfl,F5,hy,(Ys _),fI⟩
  ·rintro f eg ⟨F6,dg,b6,⟨_,rfl⟩⟩
   refine Ab<|Rt ?_
   obtain rfl:=Aa d4
   exact ReB [(.bool bo)] dg (((hn.t b4).trans b5).trans b6) ⟨hk,hl,h7,h8,hg,rfl,rfl,bm,(Yu bn b6),(b7.mono (((hn.t b4).trans b5).trans b6))⟩
def DX (N:Nat) (x0:Am) (x1 z0:YL) (z1 z2:Int):Option (Am×Bool):=
 ((Bc z0 ([32]:YL)).bind fun h2=>((strings_CutPrefix N x1 h2).bind fun h1=>((AN N h1.1).bind fun h0=>((bif (!h1.2) then some true else (bif (!h0.2) then some true else ((A2 N h0.1 z1 z2).bind fun h3=>some (!h3)))).bind fun h4=>(bif h4 then some (x0,false) else some (({o_:=({Report:=x0.o_.Report,Serial:=x0.o_.Serial,Zone:=x0.o_.Zone}:Ac),l_:=({Call:=x0.l_.Call,Category:=h0.1,Power:=x0.l_.Power,Claimed:=x0.l_.Claimed,Jumps:=x0.l_.Jumps,Lines:=x0.l_.Lines}:Log),done_:=x0.done_,ended_:=x0.ended_}:Am),true))))))
theorem J5:Af Tryz.prog 190:=fun _ _=>by kernel_rfl
theorem KN (N:Nat) {wb w0:World} {Fb F0:Mem} {Lf:Own} (hG:BI F0) (ha:Nat) (x0:Am) (hb:YM) (hc h1 hg hh h2 h3 hk hl h4 h5 hm hn h6:Nat) (hd:YM) (he:Nat) (ho:Option Nat×Obj) (hv:LC x0.l_.Jumps.length hc) (hw:SlA AP F0 hb x0.l_.Jumps) (c4:F0 h1=some (oc #[(sv (([67,65,84,69,71,79,82,89]:YL)))] 9)) (c5:F0 hg=some (oc #[(vi 1)] 3)) (c6:F0 hh=some (oc #[(vi 9)] 3)) (c7:F0 h2=some (oc #[(fV 156 #[])] 195)) (c8:F0 h3=some (oc #[(sv (([80,79,87,69,82]:YL)))] 9)) (c9:F0 hk=some (oc #[(vi 1)] 3)) (ca:F0 hl=some (oc #[(vi 9999)] 3)) (cb:F0 h4=some (oc #[(fV 157 #[])] 195)) (cc:F0 h5=some (oc #[(sv (([67,76,65,73,77,69,68]:YL)))] 9)) (cd:F0 hm=some (oc #[(vi 0)] 3)) (ce:F0 hn=some (oc #[(vi 1000000)] 3)) (cf:F0 h6=some (oc #[(fV 158 #[])] 195)) (hx:Ap AM 34 F0 hd he x0.l_.Lines ho) (x1:YL) (hy:Nat) (z0:YL) (b8:F0 hy=some (oc #[(sv z0)] 9)) (hz:Nat) (z1:Int) (b9:F0 hz=some (oc #[(vi z1)] 3)) (b0:Nat) (z2:Int) (ba:F0 b0=some (oc #[(vi z2)] 3)) (hr:Nat) (bb:F0 hr=some (oc #[(fV 156 #[])] 195)) (hs:HS wb Fb w0 F0 ((sb ha #[(.bool x0.o_.Report),(.bool x0.o_.Serial),(.bool x0.o_.Zone),(sv x0.l_.Call),(vi x0.l_.Category),(vi x0.l_.Power),(vi x0.l_.Claimed),(sL hb x0.l_.Jumps hc),(sL hd x0.l_.Lines he),(fV 153 #[]),(fV 154 #[]),(fV 190 #[(pt h1 0),(pt hg 0),(pt hh 0),(pt h2 0)]),(fV 191 #[(pt h1 0),(pt h2 0)]),(fV 190 #[(pt h3 0),(pt hk 0),(pt hl 0),(pt h4 0)]),(fV 191 #[(pt h3 0),(pt h4 0)]),(fV 190 #[(pt h5 0),(pt hm 0),(pt hn 0),(pt h6 0)]),(fV 191 #[(pt h5 0),(pt h6 0)]),(fV 159 #[]),(fV 160 #[]),(vi x0.done_),(.bool x0.ended_)] 130)::ho::Lf)) (r:(Am×Bool)) (h:DX N x0 x1 z0 z1 z2=some r):
  Calls Tryz.prog 190 ([(pt ha 3),(sv x1),(pt hy 0),(pt hz 0),(pt b0 0),(pt hr 0)]:List Value).toArray w0 (FY wb Fb F0 fun F' v L'=>∃ (b1:YM) (b2:Nat) (b3:YM) (b4:Nat) (b5:Option Nat×Obj),v=(.bool r.2)/\L'=(sb ha #[(.bool r.1.o_.Report),(.bool r.1.o_.Serial),(.bool r.1.o_.Zone),(sv r.1.l_.Call),(vi r.1.l_.Category),(vi r.1.l_.Power),(vi r.1.l_.Claimed),(sL b1 r.1.l_.Jumps b2),(sL b3 r.1.l_.Lines b4),(fV 153 #[]),(fV 154 #[]),(fV 190 #[(pt h1 0),(pt hg 0),(pt hh 0),(pt h2 0)]),(fV 191 #[(pt h1 0),(pt h2 0)]),(fV 190 #[(pt h3 0),(pt hk 0),(pt hl 0),(pt h4 0)]),(fV 191 #[(pt h3 0),(pt h4 0)]),(fV 190 #[(pt h5 0),(pt hm 0),(pt hn 0),(pt h6 0)]),(fV 191 #[(pt h5 0),(pt h6 0)]),(fV 159 #[]),(fV 160 #[]),(vi r.1.done_),(.bool r.1.ended_)] 130)::b5::Lf/\LC r.1.l_.Jumps.length b2/\SlA AP F' b1 r.1.l_.Jumps/\Ap AM 34 F' b3 b4 r.1.l_.Lines b5):=by
 refine Go 43 Tryz.func190<|Sq (Rg [0] ?_)
 refine Vs 1<|Nss (Rg (rG 9) ?_)
 refine Vs 1<|Ld (hs.pers _ _ b8) ?_
 obtain ⟨b6,bc,bd⟩:=bS h
 refine V 16 9 (Ay (t:=9) (t':=9) (x:=(.tmp 15)) (y:=(.const (sv ([32]:YL)))) (a:=z0) (b:=([32]:YL)) (v:=b6) rfl rfl bc) ?_
 obtain ⟨be,bf,bg⟩:=bS bd
 refine Cl' Bb hs (Bl N w0 F0 hs.pers x1 b6 _ bf) ?_
 rintro _ F1 bh b7 h0 rfl
 refine Vs 5<|Nss (Rg (rG 7) ?_)
 refine Vs 1 ?_
 obtain ⟨ht,bi,bj⟩:=bS bg
 refine Cl' BA b7 (BM N bh F1 b7.pers (hG.mono h0) be.1 _ bi) ?_
 rintro _ F2 bk hf h7 rfl
 refine Vs 5<|Nss<|Sq (Rg (rG 13) ?_)
 obtain ⟨bl,bm,bn⟩:=bS bj
 refine Yx (fun f w=>∃ (F3:Mem),HS wb Fb w F3 ((sb ha #[(.bool x0.o_.Report),(.bool x0.o_.Serial),(.bool x0.o_.Zone),(sv x0.l_.Call),(vi x0.l_.Category),(vi x0.l_.Power),(vi x0.l_.Claimed),(sL hb x0.l_.Jumps hc),(sL hd x0.l_.Lines he),(fV 153 #[]),(fV 154 #[]),(fV 190 #[(pt h1 0),(pt hg 0),(pt hh 0),(pt h2 0)]),(fV 191 #[(pt h1 0),(pt h2 0)]),(fV 190 #[(pt h3 0),(pt hk 0),(pt hl 0),(pt h4 0)]),(fV 191 #[(pt h3 0),(pt h4 0)]),(fV 190 #[(pt h5 0),(pt hm 0),(pt hn 0),(pt h6 0)]),(fV 191 #[(pt h5 0),(pt h6 0)]),(fV 159 #[]),(fV 160 #[]),(vi x0.done_),(.bool x0.ended_)] 130)::ho::Lf)/\Yr F2 F3/\FI f [] [(0,(pt ha 3)),(5,(pt hr 0)),(11,(vi ht.1)),(37,(.bool bl))]) ?_ ?_
 ·refine Vs 3 ?_
  refine Sp bm (fun hp bo=>?_) (fun hp bp=>?_)
  ·refine Ss hp 2 ?_
   refine Pk1 hp<|Vs 1<|Ss (rfl:true=true) 5<|Pk1 (rfl:true=true) ?_
   obtain rfl:=Aa bo
   exact Yn ⟨rfl,F2,hf,(Ys _),fI⟩
  ·refine Vgs hp 2 ?_
   refine Pk0 hp<|Vs 1<|Sp bp (fun h8 bq=>?_) (fun h8 br=>?_)
   ·refine Ss h8 5 ?_
    refine Pk1 h8 ?_
    obtain rfl:=Aa bq
    exact Yn ⟨rfl,F2,hf,(Ys _),fI⟩
   ·refine Vgs h8 1 ?_
    refine Lg h8 (hf.pers _ _ ((h0.t h7) _ _ b9))<|Lg h8 (hf.pers _ _ ((h0.t h7) _ _ ba)) ?_
    obtain ⟨cg,bs,bt⟩:=bS br
    refine Cg h8 AL hf (AU N bk F2 hf.pers ht.1 z1 z2 _ bs) ?_
    rintro _ F4 ch bu bv rfl
    refine Vgs h8 1<|Pk0 h8 ?_
    obtain rfl:=Aa bt
    exact Yn ⟨rfl,F4,bu,bv,fI⟩
 ·rintro f bw ⟨F3,hq,h9,⟨_,rfl⟩⟩
  refine Ab<|Cd bn (fun bx bz=>?_) (fun bx c0=>?_)
  ·refine Sq (Rg [0] ?_)
   refine Vs 1<|Nt<|Rt<|Ad ?_
   obtain rfl:=Aa bz
   exact ReB [(.bool false)] hq ((h0.t h7).trans h9) ⟨hb,hc,hd,he,ho,rfl,rfl,hv,(Yu hw ((h0.t h7).trans h9)),(hx.mono ((h0.t h7).trans h9))⟩
  ·refine Sc ?_
   refine Ab<|Sq (Rg (rG 6) ?_)
   refine Ld (hq.pers _ _ (((h0.t h7).trans h9) _ _ bb))<|Vs 1<|Cl' Ng hq (Pt bw F3 hq.pers ha 3) ?_
   rintro _ F5 ci c1 hu rfl
   refine Vs 2<|St0 #[(.bool x0.o_.Report),(.bool x0.o_.Serial),(.bool x0.o_.Zone),(sv x0.l_.Call),(vi ht.1),(vi x0.l_.Power),(vi x0.l_.Claimed),(sL hb x0.l_.Jumps hc),(sL hd x0.l_.Lines he),(fV 153 #[]),(fV 154 #[]),(fV 190 #[(pt h1 0),(pt hg 0),(pt hh 0),(pt h2 0)]),(fV 191 #[(pt h1 0),(pt h2 0)]),(fV 190 #[(pt h3 0),(pt hk 0),(pt hl 0),(pt h4 0)]),(fV 191 #[(pt h3 0),(pt h4 0)]),(fV 190 #[(pt h5 0),(pt hm 0),(pt hn 0),(pt h6 0)]),(fV 191 #[(pt h5 0),(pt h6 0)]),(fV 159 #[]),(fV 160 #[]),(vi x0.done_),(.bool x0.ended_)] c1 (fun cj c3=>?_)
   refine Nss (Rg [0] ?_)
   refine Vs 1<|Nt<|Rt ?_
   obtain rfl:=Aa c0
   exact ReB [(.bool true)] c3 (((h0.t h7).trans h9).trans hu) ⟨hb,hc,hd,he,ho,rfl,rfl,hv,(Yu hw (((h0.t h7).trans h9).trans hu)),(hx.mono (((h0.t h7).trans h9).trans hu))⟩
def DV (N:Nat) (x0:Am) (x1 z0:YL) (z1 z2:Int):Option (Am×Bool):=
 ((Bc z0 ([32]:YL)).bind fun h2=>((strings_CutPrefix N x1 h2).bind fun h1=>((AN N h1.1).bind fun h0=>((bif (!h1.2) then some true else (bif (!h0.2) then some true else ((A2 N h0.1 z1 z2).bind fun h3=>some (!h3)))).bind fun h4=>(bif h4 then some (x0,false) else some (({o_:=({Report:=x0.o_.Report,Serial:=x0.o_.Serial,Zone:=x0.o_.Zone}:Ac),l_:=({Call:=x0.l_.Call,Category:=x0.l_.Category,Power:=h0.1,Claimed:=x0.l_.Claimed,Jumps:=x0.l_.Jumps,Lines:=x0.l_.Lines}:Log),done_:=x0.done_,ended_:=x0.ended_}:Am),true))))))
theorem J3:Af Tryz.prog 190:=fun _ _=>by kernel_rfl
theorem KK (N:Nat) {wb w0:World} {Fb F0:Mem} {Lf:Own} (hG:BI F0) (ha:Nat) (x0:Am) (hb:YM) (hc h1 hg hh h2 h3 hk hl h4 h5 hm hn h6:Nat) (hd:YM) (he:Nat) (ho:Option Nat×Obj) (hv:LC x0.l_.Jumps.length hc) (hw:SlA AP F0 hb x0.l_.Jumps) (c4:F0 h1=some (oc #[(sv (([67,65,84,69,71,79,82,89]:YL)))] 9)) (c5:F0 hg=some (oc #[(vi 1)] 3)) (c6:F0 hh=some (oc #[(vi 9)] 3)) (c7:F0 h2=some (oc #[(fV 156 #[])] 195)) (c8:F0 h3=some (oc #[(sv (([80,79,87,69,82]:YL)))] 9)) (c9:F0 hk=some (oc #[(vi 1)] 3)) (ca:F0 hl=some (oc #[(vi 9999)] 3)) (cb:F0 h4=some (oc #[(fV 157 #[])] 195)) (cc:F0 h5=some (oc #[(sv (([67,76,65,73,77,69,68]:YL)))] 9)) (cd:F0 hm=some (oc #[(vi 0)] 3)) (ce:F0 hn=some (oc #[(vi 1000000)] 3)) (cf:F0 h6=some (oc #[(fV 158 #[])] 195)) (hx:Ap AM 34 F0 hd he x0.l_.Lines ho) (x1:YL) (hy:Nat) (z0:YL) (b8:F0 hy=some (oc #[(sv z0)] 9)) (hz:Nat) (z1:Int) (b9:F0 hz=some (oc #[(vi z1)] 3)) (b0:Nat) (z2:Int) (ba:F0 b0=some (oc #[(vi z2)] 3)) (hr:Nat) (bb:F0 hr=some (oc #[(fV 157 #[])] 195)) (hs:HS wb Fb w0 F0 ((sb ha #[(.bool x0.o_.Report),(.bool x0.o_.Serial),(.bool x0.o_.Zone),(sv x0.l_.Call),(vi x0.l_.Category),(vi x0.l_.Power),(vi x0.l_.Claimed),(sL hb x0.l_.Jumps hc),(sL hd x0.l_.Lines he),(fV 153 #[]),(fV 154 #[]),(fV 190 #[(pt h1 0),(pt hg 0),(pt hh 0),(pt h2 0)]),(fV 191 #[(pt h1 0),(pt h2 0)]),(fV 190 #[(pt h3 0),(pt hk 0),(pt hl 0),(pt h4 0)]),(fV 191 #[(pt h3 0),(pt h4 0)]),(fV 190 #[(pt h5 0),(pt hm 0),(pt hn 0),(pt h6 0)]),(fV 191 #[(pt h5 0),(pt h6 0)]),(fV 159 #[]),(fV 160 #[]),(vi x0.done_),(.bool x0.ended_)] 130)::ho::Lf)) (r:(Am×Bool)) (h:DV N x0 x1 z0 z1 z2=some r):
  Calls Tryz.prog 190 ([(pt ha 3),(sv x1),(pt hy 0),(pt hz 0),(pt b0 0),(pt hr 0)]:List Value).toArray w0 (FY wb Fb F0 fun F' v L'=>∃ (b1:YM) (b2:Nat) (b3:YM) (b4:Nat) (b5:Option Nat×Obj),v=(.bool r.2)/\L'=(sb ha #[(.bool r.1.o_.Report),(.bool r.1.o_.Serial),(.bool r.1.o_.Zone),(sv r.1.l_.Call),(vi r.1.l_.Category),(vi r.1.l_.Power),(vi r.1.l_.Claimed),(sL b1 r.1.l_.Jumps b2),(sL b3 r.1.l_.Lines b4),(fV 153 #[]),(fV 154 #[]),(fV 190 #[(pt h1 0),(pt hg 0),(pt hh 0),(pt h2 0)]),(fV 191 #[(pt h1 0),(pt h2 0)]),(fV 190 #[(pt h3 0),(pt hk 0),(pt hl 0),(pt h4 0)]),(fV 191 #[(pt h3 0),(pt h4 0)]),(fV 190 #[(pt h5 0),(pt hm 0),(pt hn 0),(pt h6 0)]),(fV 191 #[(pt h5 0),(pt h6 0)]),(fV 159 #[]),(fV 160 #[]),(vi r.1.done_),(.bool r.1.ended_)] 130)::b5::Lf/\LC r.1.l_.Jumps.length b2/\SlA AP F' b1 r.1.l_.Jumps/\Ap AM 34 F' b3 b4 r.1.l_.Lines b5):=by
 refine Go 43 Tryz.func190<|Sq (Rg [0] ?_)
 refine Vs 1<|Nss (Rg (rG 9) ?_)
 refine Vs 1<|Ld (hs.pers _ _ b8) ?_
 obtain ⟨b6,bc,bd⟩:=bS h
 refine V 16 9 (Ay (t:=9) (t':=9) (x:=(.tmp 15)) (y:=(.const (sv ([32]:YL)))) (a:=z0) (b:=([32]:YL)) (v:=b6) rfl rfl bc) ?_
 obtain ⟨be,bf,bg⟩:=bS bd
 refine Cl' Bb hs (Bl N w0 F0 hs.pers x1 b6 _ bf) ?_
 rintro _ F1 bh b7 h0 rfl
 refine Vs 5<|Nss (Rg (rG 7) ?_)
 refine Vs 1 ?_
 obtain ⟨ht,bi,bj⟩:=bS bg
 refine Cl' BA b7 (BM N bh F1 b7.pers (hG.mono h0) be.1 _ bi) ?_
 rintro _ F2 bk hf h7 rfl
 refine Vs 5<|Nss<|Sq (Rg (rG 13) ?_)
 obtain ⟨bl,bm,bn⟩:=bS bj
 refine Yx (fun f w=>∃ (F3:Mem),HS wb Fb w F3 ((sb ha #[(.bool x0.o_.Report),(.bool x0.o_.Serial),(.bool x0.o_.Zone),(sv x0.l_.Call),(vi x0.l_.Category),(vi x0.l_.Power),(vi x0.l_.Claimed),(sL hb x0.l_.Jumps hc),(sL hd x0.l_.Lines he),(fV 153 #[]),(fV 154 #[]),(fV 190 #[(pt h1 0),(pt hg 0),(pt hh 0),(pt h2 0)]),(fV 191 #[(pt h1 0),(pt h2 0)]),(fV 190 #[(pt h3 0),(pt hk 0),(pt hl 0),(pt h4 0)]),(fV 191 #[(pt h3 0),(pt h4 0)]),(fV 190 #[(pt h5 0),(pt hm 0),(pt hn 0),(pt h6 0)]),(fV 191 #[(pt h5 0),(pt h6 0)]),(fV 159 #[]),(fV 160 #[]),(vi x0.done_),(.bool x0.ended_)] 130)::ho::Lf)/\Yr F2 F3/\FI f [] [(0,(pt ha 3)),(5,(pt hr 0)),(11,(vi ht.1)),(37,(.bool bl))]) ?_ ?_
 ·refine Vs 3 ?_
  refine Sp bm (fun hp bo=>?_) (fun hp bp=>?_)
  ·refine Ss hp 2 ?_
   refine Pk1 hp<|Vs 1<|Ss (rfl:true=true) 5<|Pk1 (rfl:true=true) ?_
   obtain rfl:=Aa bo
   exact Yn ⟨rfl,F2,hf,(Ys _),fI⟩
  ·refine Vgs hp 2 ?_
   refine Pk0 hp<|Vs 1<|Sp bp (fun h8 bq=>?_) (fun h8 br=>?_)
   ·refine Ss h8 5 ?_
    refine Pk1 h8 ?_
    obtain rfl:=Aa bq
    exact Yn ⟨rfl,F2,hf,(Ys _),fI⟩
   ·refine Vgs h8 1 ?_
    refine Lg h8 (hf.pers _ _ ((h0.t h7) _ _ b9))<|Lg h8 (hf.pers _ _ ((h0.t h7) _ _ ba)) ?_
    obtain ⟨cg,bs,bt⟩:=bS br
    refine Cg h8 AL hf (AU N bk F2 hf.pers ht.1 z1 z2 _ bs) ?_
    rintro _ F4 ch bu bv rfl
    refine Vgs h8 1<|Pk0 h8 ?_
    obtain rfl:=Aa bt
    exact Yn ⟨rfl,F4,bu,bv,fI⟩
 ·rintro f bw ⟨F3,hq,h9,⟨_,rfl⟩⟩
  refine Ab<|Cd bn (fun bx bz=>?_) (fun bx c0=>?_)
  ·refine Sq (Rg [0] ?_)
   refine Vs 1<|Nt<|Rt<|Ad ?_
   obtain rfl:=Aa bz
   exact ReB [(.bool false)] hq ((h0.t h7).trans h9) ⟨hb,hc,hd,he,ho,rfl,rfl,hv,(Yu hw ((h0.t h7).trans h9)),(hx.mono ((h0.t h7).trans h9))⟩
  ·refine Sc ?_
   refine Ab<|Sq (Rg (rG 6) ?_)
   refine Ld (hq.pers _ _ (((h0.t h7).trans h9) _ _ bb))<|Vs 1<|Cl' Nf hq (Ps bw F3 hq.pers ha 3) ?_
   rintro _ F5 ci c1 hu rfl
   refine Vs 2<|St0 #[(.bool x0.o_.Report),(.bool x0.o_.Serial),(.bool x0.o_.Zone),(sv x0.l_.Call),(vi x0.l_.Category),(vi ht.1),(vi x0.l_.Claimed),(sL hb x0.l_.Jumps hc),(sL hd x0.l_.Lines he),(fV 153 #[]),(fV 154 #[]),(fV 190 #[(pt h1 0),(pt hg 0),(pt hh 0),(pt h2 0)]),(fV 191 #[(pt h1 0),(pt h2 0)]),(fV 190 #[(pt h3 0),(pt hk 0),(pt hl 0),(pt h4 0)]),(fV 191 #[(pt h3 0),(pt h4 0)]),(fV 190 #[(pt h5 0),(pt hm 0),(pt hn 0),(pt h6 0)]),(fV 191 #[(pt h5 0),(pt h6 0)]),(fV 159 #[]),(fV 160 #[]),(vi x0.done_),(.bool x0.ended_)] c1 (fun cj c3=>?_)
   refine Nss (Rg [0] ?_)
   refine Vs 1<|Nt<|Rt ?_
   obtain rfl:=Aa c0
   exact ReB [(.bool true)] c3 (((h0.t h7).trans h9).trans hu) ⟨hb,hc,hd,he,ho,rfl,rfl,hv,(Yu hw (((h0.t h7).trans h9).trans hu)),(hx.mono (((h0.t h7).trans h9).trans hu))⟩
def DW (N:Nat) (x0:Am) (x1 z0:YL) (z1 z2:Int):Option (Am×Bool):=
 ((Bc z0 ([32]:YL)).bind fun h2=>((strings_CutPrefix N x1 h2).bind fun h1=>((AN N h1.1).bind fun h0=>((bif (!h1.2) then some true else (bif (!h0.2) then some true else ((A2 N h0.1 z1 z2).bind fun h3=>some (!h3)))).bind fun h4=>(bif h4 then some (x0,false) else some (({o_:=({Report:=x0.o_.Report,Serial:=x0.o_.Serial,Zone:=x0.o_.Zone}:Ac),l_:=({Call:=x0.l_.Call,Category:=x0.l_.Category,Power:=x0.l_.Power,Claimed:=h0.1,Jumps:=x0.l_.Jumps,Lines:=x0.l_.Lines}:Log),done_:=x0.done_,ended_:=x0.ended_}:Am),true))))))
theorem J4:Af Tryz.prog 190:=fun _ _=>by kernel_rfl
theorem KM (N:Nat) {wb w0:World} {Fb F0:Mem} {Lf:Own} (hG:BI F0) (ha:Nat) (x0:Am) (hb:YM) (hc h1 hg hh h2 h3 hk hl h4 h5 hm hn h6:Nat) (hd:YM) (he:Nat) (ho:Option Nat×Obj) (hv:LC x0.l_.Jumps.length hc) (hw:SlA AP F0 hb x0.l_.Jumps) (c4:F0 h1=some (oc #[(sv (([67,65,84,69,71,79,82,89]:YL)))] 9)) (c5:F0 hg=some (oc #[(vi 1)] 3)) (c6:F0 hh=some (oc #[(vi 9)] 3)) (c7:F0 h2=some (oc #[(fV 156 #[])] 195)) (c8:F0 h3=some (oc #[(sv (([80,79,87,69,82]:YL)))] 9)) (c9:F0 hk=some (oc #[(vi 1)] 3)) (ca:F0 hl=some (oc #[(vi 9999)] 3)) (cb:F0 h4=some (oc #[(fV 157 #[])] 195)) (cc:F0 h5=some (oc #[(sv (([67,76,65,73,77,69,68]:YL)))] 9)) (cd:F0 hm=some (oc #[(vi 0)] 3)) (ce:F0 hn=some (oc #[(vi 1000000)] 3)) (cf:F0 h6=some (oc #[(fV 158 #[])] 195)) (hx:Ap AM 34 F0 hd he x0.l_.Lines ho) (x1:YL) (hy:Nat) (z0:YL) (b8:F0 hy=some (oc #[(sv z0)] 9)) (hz:Nat) (z1:Int) (b9:F0 hz=some (oc #[(vi z1)] 3)) (b0:Nat) (z2:Int) (ba:F0 b0=some (oc #[(vi z2)] 3)) (hr:Nat) (bb:F0 hr=some (oc #[(fV 158 #[])] 195)) (hs:HS wb Fb w0 F0 ((sb ha #[(.bool x0.o_.Report),(.bool x0.o_.Serial),(.bool x0.o_.Zone),(sv x0.l_.Call),(vi x0.l_.Category),(vi x0.l_.Power),(vi x0.l_.Claimed),(sL hb x0.l_.Jumps hc),(sL hd x0.l_.Lines he),(fV 153 #[]),(fV 154 #[]),(fV 190 #[(pt h1 0),(pt hg 0),(pt hh 0),(pt h2 0)]),(fV 191 #[(pt h1 0),(pt h2 0)]),(fV 190 #[(pt h3 0),(pt hk 0),(pt hl 0),(pt h4 0)]),(fV 191 #[(pt h3 0),(pt h4 0)]),(fV 190 #[(pt h5 0),(pt hm 0),(pt hn 0),(pt h6 0)]),(fV 191 #[(pt h5 0),(pt h6 0)]),(fV 159 #[]),(fV 160 #[]),(vi x0.done_),(.bool x0.ended_)] 130)::ho::Lf)) (r:(Am×Bool)) (h:DW N x0 x1 z0 z1 z2=some r):
  Calls Tryz.prog 190 ([(pt ha 3),(sv x1),(pt hy 0),(pt hz 0),(pt b0 0),(pt hr 0)]:List Value).toArray w0 (FY wb Fb F0 fun F' v L'=>∃ (b1:YM) (b2:Nat) (b3:YM) (b4:Nat) (b5:Option Nat×Obj),v=(.bool r.2)/\L'=(sb ha #[(.bool r.1.o_.Report),(.bool r.1.o_.Serial),(.bool r.1.o_.Zone),(sv r.1.l_.Call),(vi r.1.l_.Category),(vi r.1.l_.Power),(vi r.1.l_.Claimed),(sL b1 r.1.l_.Jumps b2),(sL b3 r.1.l_.Lines b4),(fV 153 #[]),(fV 154 #[]),(fV 190 #[(pt h1 0),(pt hg 0),(pt hh 0),(pt h2 0)]),(fV 191 #[(pt h1 0),(pt h2 0)]),(fV 190 #[(pt h3 0),(pt hk 0),(pt hl 0),(pt h4 0)]),(fV 191 #[(pt h3 0),(pt h4 0)]),(fV 190 #[(pt h5 0),(pt hm 0),(pt hn 0),(pt h6 0)]),(fV 191 #[(pt h5 0),(pt h6 0)]),(fV 159 #[]),(fV 160 #[]),(vi r.1.done_),(.bool r.1.ended_)] 130)::b5::Lf/\LC r.1.l_.Jumps.length b2/\SlA AP F' b1 r.1.l_.Jumps/\Ap AM 34 F' b3 b4 r.1.l_.Lines b5):=by
 refine Go 43 Tryz.func190<|Sq (Rg [0] ?_)
 refine Vs 1<|Nss (Rg (rG 9) ?_)
 refine Vs 1<|Ld (hs.pers _ _ b8) ?_
 obtain ⟨b6,bc,bd⟩:=bS h
 refine V 16 9 (Ay (t:=9) (t':=9) (x:=(.tmp 15)) (y:=(.const (sv ([32]:YL)))) (a:=z0) (b:=([32]:YL)) (v:=b6) rfl rfl bc) ?_
 obtain ⟨be,bf,bg⟩:=bS bd
 refine Cl' Bb hs (Bl N w0 F0 hs.pers x1 b6 _ bf) ?_
 rintro _ F1 bh b7 h0 rfl
 refine Vs 5<|Nss (Rg (rG 7) ?_)
 refine Vs 1 ?_
 obtain ⟨ht,bi,bj⟩:=bS bg
 refine Cl' BA b7 (BM N bh F1 b7.pers (hG.mono h0) be.1 _ bi) ?_
 rintro _ F2 bk hf h7 rfl
 refine Vs 5<|Nss<|Sq (Rg (rG 13) ?_)
 obtain ⟨bl,bm,bn⟩:=bS bj
 refine Yx (fun f w=>∃ (F3:Mem),HS wb Fb w F3 ((sb ha #[(.bool x0.o_.Report),(.bool x0.o_.Serial),(.bool x0.o_.Zone),(sv x0.l_.Call),(vi x0.l_.Category),(vi x0.l_.Power),(vi x0.l_.Claimed),(sL hb x0.l_.Jumps hc),(sL hd x0.l_.Lines he),(fV 153 #[]),(fV 154 #[]),(fV 190 #[(pt h1 0),(pt hg 0),(pt hh 0),(pt h2 0)]),(fV 191 #[(pt h1 0),(pt h2 0)]),(fV 190 #[(pt h3 0),(pt hk 0),(pt hl 0),(pt h4 0)]),(fV 191 #[(pt h3 0),(pt h4 0)]),(fV 190 #[(pt h5 0),(pt hm 0),(pt hn 0),(pt h6 0)]),(fV 191 #[(pt h5 0),(pt h6 0)]),(fV 159 #[]),(fV 160 #[]),(vi x0.done_),(.bool x0.ended_)] 130)::ho::Lf)/\Yr F2 F3/\FI f [] [(0,(pt ha 3)),(5,(pt hr 0)),(11,(vi ht.1)),(37,(.bool bl))]) ?_ ?_
 ·refine Vs 3 ?_
  refine Sp bm (fun hp bo=>?_) (fun hp bp=>?_)
  ·refine Ss hp 2 ?_
   refine Pk1 hp<|Vs 1<|Ss (rfl:true=true) 5<|Pk1 (rfl:true=true) ?_
   obtain rfl:=Aa bo
   exact Yn ⟨rfl,F2,hf,(Ys _),fI⟩
  ·refine Vgs hp 2 ?_
   refine Pk0 hp<|Vs 1<|Sp bp (fun h8 bq=>?_) (fun h8 br=>?_)
   ·refine Ss h8 5 ?_
    refine Pk1 h8 ?_
    obtain rfl:=Aa bq
    exact Yn ⟨rfl,F2,hf,(Ys _),fI⟩
   ·refine Vgs h8 1 ?_
    refine Lg h8 (hf.pers _ _ ((h0.t h7) _ _ b9))<|Lg h8 (hf.pers _ _ ((h0.t h7) _ _ ba)) ?_
    obtain ⟨cg,bs,bt⟩:=bS br
    refine Cg h8 AL hf (AU N bk F2 hf.pers ht.1 z1 z2 _ bs) ?_
    rintro _ F4 ch bu bv rfl
    refine Vgs h8 1<|Pk0 h8 ?_
    obtain rfl:=Aa bt
    exact Yn ⟨rfl,F4,bu,bv,fI⟩
 ·rintro f bw ⟨F3,hq,h9,⟨_,rfl⟩⟩
  refine Ab<|Cd bn (fun bx bz=>?_) (fun bx c0=>?_)
  ·refine Sq (Rg [0] ?_)
   refine Vs 1<|Nt<|Rt<|Ad ?_
   obtain rfl:=Aa bz
   exact ReB [(.bool false)] hq ((h0.t h7).trans h9) ⟨hb,hc,hd,he,ho,rfl,rfl,hv,(Yu hw ((h0.t h7).trans h9)),(hx.mono ((h0.t h7).trans h9))⟩
  ·refine Sc ?_
   refine Ab<|Sq (Rg (rG 6) ?_)
   refine Ld (hq.pers _ _ (((h0.t h7).trans h9) _ _ bb))<|Vs 1<|Cl' Nd hq (Pr bw F3 hq.pers ha 3) ?_
   rintro _ F5 ci c1 hu rfl
   refine Vs 2<|St0 #[(.bool x0.o_.Report),(.bool x0.o_.Serial),(.bool x0.o_.Zone),(sv x0.l_.Call),(vi x0.l_.Category),(vi x0.l_.Power),(vi ht.1),(sL hb x0.l_.Jumps hc),(sL hd x0.l_.Lines he),(fV 153 #[]),(fV 154 #[]),(fV 190 #[(pt h1 0),(pt hg 0),(pt hh 0),(pt h2 0)]),(fV 191 #[(pt h1 0),(pt h2 0)]),(fV 190 #[(pt h3 0),(pt hk 0),(pt hl 0),(pt h4 0)]),(fV 191 #[(pt h3 0),(pt h4 0)]),(fV 190 #[(pt h5 0),(pt hm 0),(pt hn 0),(pt h6 0)]),(fV 191 #[(pt h5 0),(pt h6 0)]),(fV 159 #[]),(fV 160 #[]),(vi x0.done_),(.bool x0.ended_)] c1 (fun cj c3=>?_)
   refine Nss (Rg [0] ?_)
   refine Vs 1<|Nt<|Rt ?_
   obtain rfl:=Aa c0
   exact ReB [(.bool true)] c3 (((h0.t h7).trans h9).trans hu) ⟨hb,hc,hd,he,ho,rfl,rfl,hv,(Yu hw (((h0.t h7).trans h9).trans hu)),(hx.mono (((h0.t h7).trans h9).trans hu))⟩
end Go.Proofs.YthljkpeimofbbaaGreatDoor
